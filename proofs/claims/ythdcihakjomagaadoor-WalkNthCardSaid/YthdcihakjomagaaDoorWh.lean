/- Walks of functions, printed by a program of this session (gen.py) from notes on each function. -/
import Derived.Test.YthdcihakjomagaaDoorGA
import Derived.Test.YthdcihakjomagaaDoorGE
set_option maxRecDepth 100000
set_option maxHeartbeats 1000000
set_option linter.unusedVariables false
set_option linter.unusedSimpArgs false
namespace Go.Sp.Tryd
open Go.Proofs Go.RowKit Go.Sp

def T11 (a b a1 a2 a3 : Nat) (s1 s2 s3 : Value) : Tr := .inner a (.inner b (.leaf a1 (List.replicate 32 0) [] s1) (.leaf a2 ((List.replicate 32 0).set 0 64) [5] s2)) (.leaf a3 ((List.replicate 32 0).set 0 255) [] s3)
theorem grow11 (s : Value) : grow 0 (putM (putM (putM [] (En.mk ((List.replicate 32 0).set 0 255) (.slice none 0 0) [])) (En.mk (List.replicate 32 0) (.slice none 0 0) [])) (En.mk ((List.replicate 32 0).set 0 64) s [5])) = .inner (.inner (.leaf (List.replicate 32 0) []) (.leaf ((List.replicate 32 0).set 0 64) [5])) (.leaf ((List.replicate 32 0).set 0 255) []) := by kernel_rfl
theorem T11_of {T : Tr} {s : Value} (h : T.er = grow 0 (putM (putM (putM [] (En.mk ((List.replicate 32 0).set 0 255) (.slice none 0 0) [])) (En.mk (List.replicate 32 0) (.slice none 0 0) [])) (En.mk ((List.replicate 32 0).set 0 64) s [5]))) : ∃ a b a1 a2 a3 s1 s2 s3, T = T11 a b a1 a2 a3 s1 s2 s3 := by
  rw [grow11] at h
  obtain ⟨a, l, r, rfl, h1, h2⟩ := Tr.inner_of h
  obtain ⟨b, l2, r2, rfl, h3, h4⟩ := Tr.inner_of h1
  obtain ⟨a1, s1, rfl⟩ := Tr.leaf_of h3
  obtain ⟨a2, s2, rfl⟩ := Tr.leaf_of h4
  obtain ⟨a3, s3, rfl⟩ := Tr.leaf_of h2
  exact ⟨a, b, a1, a2, a3, s1, s2, s3, rfl⟩
theorem fit11 (a b a1 a2 a3 : Nat) (s1 s2 s3 : Value) : (T11 a b a1 a2 a3 s1 s2 s3).er.fit 0 := ⟨by decide, ⟨by decide, trivial, trivial⟩, trivial⟩
theorem cnt11 (a b a1 a2 a3 : Nat) (s1 s2 s3 : Value) : (T11 a b a1 a2 a3 s1 s2 s3).er.cnt = 3 := rfl
theorem dep11 (a b a1 a2 a3 : Nat) (s1 s2 s3 : Value) : depL (T11 a b a1 a2 a3 s1 s2 s3) = [2, 2, 1] := rfl
theorem lvs11 (a b a1 a2 a3 : Nat) (s1 s2 s3 : Value) : ((T11 a b a1 a2 a3 s1 s2 s3).lvs 0).length = 3 := rfl
theorem nth11 (a b a1 a2 a3 : Nat) (s1 s2 s3 : Value) : ((T11 a b a1 a2 a3 s1 s2 s3).nth (1 : Int).toNat).key = ((List.replicate 32 0).set 0 64) := by kernel_rfl
theorem srt11 (s : Value) : Srt (putM (putM (putM [] (En.mk ((List.replicate 32 0).set 0 255) (.slice none 0 0) [])) (En.mk (List.replicate 32 0) (.slice none 0 0) [])) (En.mk ((List.replicate 32 0).set 0 64) s [5])) := putM_srt (putM_srt (putM_srt List.Pairwise.nil (fun _ h => by cases h) (by rfl)) (putM_kl (fun _ h => by cases h) (by rfl)) (by rfl)) (putM_kl (putM_kl (fun _ h => by cases h) (by rfl)) (by rfl)) (by rfl)
theorem kl11 (s : Value) : KL (putM (putM (putM [] (En.mk ((List.replicate 32 0).set 0 255) (.slice none 0 0) [])) (En.mk (List.replicate 32 0) (.slice none 0 0) [])) (En.mk ((List.replicate 32 0).set 0 64) s [5])) := putM_kl (putM_kl (putM_kl (fun _ h => by cases h) (by rfl)) (by rfl)) (by rfl)
theorem len11 (s : Value) : (putM (putM (putM [] (En.mk ((List.replicate 32 0).set 0 255) (.slice none 0 0) [])) (En.mk (List.replicate 32 0) (.slice none 0 0) [])) (En.mk ((List.replicate 32 0).set 0 64) s [5])).length = 3 := by kernel_rfl
theorem rk11 (s : Value) : rankM (putM (putM (putM [] (En.mk ((List.replicate 32 0).set 0 255) (.slice none 0 0) [])) (En.mk (List.replicate 32 0) (.slice none 0 0) [])) (En.mk ((List.replicate 32 0).set 0 64) s [5])) ((List.replicate 32 0).set 0 65) = 2 := by kernel_rfl
theorem rk11b (s : Value) : rankM (putM (putM (putM [] (En.mk ((List.replicate 32 0).set 0 255) (.slice none 0 0) [])) (En.mk (List.replicate 32 0) (.slice none 0 0) [])) (En.mk ((List.replicate 32 0).set 0 64) s [5])) ((List.replicate 32 0).set 0 1) = 1 := by kernel_rfl
theorem three11 {P : En → Prop} {a b c : En} (h1 : P a) (h2 : P b) (h3 : P c) : ∀ e ∈ [a, b, c], P e := fun e he => by
  rcases List.mem_cons.1 he with rfl | he
  · exact h1
  · rcases List.mem_cons.1 he with rfl | he
    · exact h2
    · rcases List.mem_cons.1 he with rfl | he
      · exact h3
      · cases he

theorem alive11_c {X : Nat → Prop} {w : World}  (hX : ∀ b, X b → b < w.heap.size) (hf0 : Rob X (Rounds) w) :
    Ret Tryd.prog 11 [].toArray w fun v w' => v = .bool true ∧ Out Nil w w' := by
  refine Ret.of_body (N := 85) Tryd.func11 rfl rfl (by decide +revert) ?_
  have H := St.begin hX
  replace H := H.add (rob0 hf0)
  refine WE.seq_reg ?_
  refine WL.as rfl rfl ?_
  refine WL.nil ?_
  refine WE.seq_reg ?_
  refine WL.call TrydT.fb20 rfl (Hash_c (i := 8) H.yylt  (by omega)) ?_
  rintro _ w1 ⟨bhv7, bcv7, rfl, hO, hge, hB, hR⟩
  replace H := H.pushR hO (Ent.blk bcv7 118 [.int .i64 0]) hB (fun c hc => by cases hc; exact hge) hR
  refine WL.as rfl rfl ?_
  refine WL.nil ?_
  refine WE.seq ?_
  refine WE.seq_reg ?_
  refine WL.mv rfl rfl ?_
  refine WL.pv (PV.eqlPn rfl TrydT.pt51 rfl rfl) rfl ?_
  refine WL.nil ?_
  refine WE.cond_f' rfl rfl ?_
  refine WE.skip ?_
  refine WE.seq_reg ?_
  refine WL.mv rfl rfl ?_
  refine WL.pv (PV.buildA rfl TrydT.ar31 TrydT.sz5 TrydT.ze31 (Fl.cons rfl rfl rfl (Laid.byteA (x := 255) 0 (by simp)) Fl.nil)) rfl ?_
  refine WL.pv (PV.buildS rfl TrydT.pl34 TrydT.ze34 (Fl.cons rfl (by rfl) (by (simp [kc_length, kw_length, *]; done)) (Laid.left (Laid.all (by (simp [kc_length, kw_length, *]; done)))) Fl.nil)) rfl ?_
  refine WL.pv (PV.buildS rfl TrydT.pl34 TrydT.ze34 Fl.nil) rfl ?_
  refine WL.pv (PV.buildA rfl TrydT.ar31 TrydT.sz5 TrydT.ze31 (Fl.cons rfl rfl rfl (Laid.byteA (x := 64) 0 (by simp)) Fl.nil)) rfl ?_
  refine WL.buildSliceF (l0 := [.int .u8 (0)]) H rfl TrydT.st32 (by decide) (zrow_one _ _) (Fl.cons rfl (by rfl) (by (simp only [kc_length, kw_length, List.length_replicate, List.length_append, List.length_cons, List.length_nil, cutI_length, shaOf_length, dig_length, valD_length, rootM_length]; done)) Laid.head Fl.nil) rfl ?_
  intro b15 w2 H
  replace H := H.freeze (i := 0) rfl
  replace H := H.add ((H.rob 0 rfl).imp fun _ h => SlB.of_blk (l := [5]) h rfl)
  refine WL.pv (PV.buildS rfl TrydT.pl34 TrydT.ze34 (Fl.cons rfl (by rfl) (by (simp [kc_length, kw_length, *]; done)) (Laid.left (Laid.all (by (simp [kc_length, kw_length, *]; done)))) (Fl.cons rfl (by rfl) (by (simp only [kc_length, kw_length, List.length_replicate, List.length_append, List.length_cons, List.length_nil, cutI_length, shaOf_length, dig_length, valD_length, rootM_length]; done)) (Laid.right (Laid.all (by (simp only [kc_length, kw_length, List.length_replicate, List.length_append, List.length_cons, List.length_nil, cutI_length, shaOf_length, dig_length, valD_length, rootM_length]; done))) (by (simp [kc_length, kw_length, *]; done))) Fl.nil))) rfl ?_
  refine WL.buildSliceF (l0 := ((kc (List.replicate 32 0) ++ ([.slice none 0 0])) ++ ((kc (List.replicate 32 0) ++ ([.slice none 0 0])) ++ ((kc (List.replicate 32 0) ++ ([.slice none 0 0])))))) H rfl TrydT.st22 (by decide) (by rfl) (Fl.cons rfl (by rfl) (by (simp [kc_length, kw_length, *]; done)) (Laid.left (Laid.all (by (simp [kc_length, kw_length, *]; done)))) (Fl.cons rfl (by rfl) (by with_reducible rfl) (Laid.right (Laid.left (Laid.all (by with_reducible rfl))) (by (simp [kc_length, kw_length, *]; done))) (Fl.cons rfl (by rfl) (by (simp [kc_length, kw_length, *]; done)) (Laid.right (Laid.right (Laid.all (by (simp [kc_length, kw_length, *]; done))) (by with_reducible rfl)) (by (simp [kc_length, kw_length, *]; done))) Fl.nil))) rfl ?_
  intro b17 w3 H
  replace H := H.freeze (i := 0) rfl
  replace H := H.add ((H.rob 0 rfl).imp fun _ h => (SlC.of_blk (n := 3) h rfl : SlE (.slice (some ⟨b17, 0, none⟩) 3 3) [(En.mk ((List.replicate 32 0).set 0 255) (.slice none 0 0) []), (En.mk (List.replicate 32 0) (.slice none 0 0) []), (En.mk ((List.replicate 32 0).set 0 64) (.slice (some ⟨b15, 0, none⟩) 1 1) [5])] _))
  refine WL.call TrydT.fb34 rfl (putAll_c (T := .nil) (M := []) (l := [(En.mk ((List.replicate 32 0).set 0 255) (.slice none 0 0) []), (En.mk (List.replicate 32 0) (.slice none 0 0) []), (En.mk ((List.replicate 32 0).set 0 64) (.slice (some ⟨b15, 0, none⟩) 1 1) [5])]) (s := (.slice (some ⟨b17, 0, none⟩) 3 3)) (bits := 8) H.yylt (H.l 0 rfl) (by exact H.robL 0 rfl 4 rfl) (fun _ _ => trivial) (by exact (H.robL 0 rfl 0 rfl : Rob _ (SlE (.slice (some ⟨b17, 0, none⟩) 3 3) [(En.mk ((List.replicate 32 0).set 0 255) (.slice none 0 0) []), (En.mk (List.replicate 32 0) (.slice none 0 0) []), (En.mk ((List.replicate 32 0).set 0 64) (.slice (some ⟨b15, 0, none⟩) 1 1) [5])]) _)) (by exact ((H.robL 0 rfl 2 rfl : Rob _ (SlB (.slice (some ⟨b15, 0, none⟩) 1 1) [5]) _)).imp fun _ h => three11 (SlB.nil _) (SlB.nil _) h) (by exact H.robL 0 rfl 5 rfl) (by decide) (grow_nil 0).symm (fun _ h => by cases h) List.Pairwise.nil (three11 rfl rfl rfl) (three11 (by show (0 : Nat) ≤ _; decide) (by show (0 : Nat) ≤ _; decide) (by show (1 : Nat) ≤ _; decide)) (by show (3 : Nat) ≤ _; decide)) ?_
  rintro _ w4 ⟨Tv18, mv18, rfl, hTv18, hO, hB, hR⟩
  replace H := H.calledR 0 rfl hO hB hR
  have hT11 := hTv18
  obtain ⟨a, b, a1, a2, a3, s1, s2, s3, rfl⟩ := T11_of hTv18
  refine WL.as rfl rfl ?_
  refine WL.nil ?_
  refine WE.seq_reg ?_
  refine WL.mv rfl rfl ?_
  refine WL.call TrydT.fb27 rfl (Depths_c (T := (T11 a b a1 a2 a3 s1 s2 s3)) (bits := 8) H.yylt (by exact (H.rob 0 rfl : Rob _ (TrA 8 (T11 a b a1 a2 a3 s1 s2 s3)) _)) (fit11 _ _ _ _ _ _ _ _) (by rw [cnt11]; decide)) ?_
  rintro v20 w5 ⟨hO, hR⟩
  rw [dep11] at hR
  replace H := (H.out hO).add hR
  refine WL.as rfl rfl ?_
  refine WL.nil ?_
  refine WE.seq_reg ?_
  refine WL.mv rfl rfl ?_
  refine WL.call TrydT.fb19 rfl (Nth_c (T := (T11 a b a1 a2 a3 s1 s2 s3)) (bits := 8) H.yylt (by exact (H.rob 1 rfl : Rob _ (TrA 8 (T11 a b a1 a2 a3 s1 s2 s3)) _)) (by rw [cnt11]; decide)) ?_
  rintro _ w6 ⟨b23, q23, u23, s23, rfl, hq23, hO, hOwn, hb23, hv23, -⟩
  have hs23 := SlC.one1 (SlB.of_own hOwn)
  obtain rfl : b23 = true := hb23.2 (by rw [cnt11]; exact ⟨by decide, by decide⟩)
  obtain rfl := (hv23 rfl).1.trans (nth11 _ _ _ _ _ _ _ _)
  replace H := H.out hO
  refine WL.mv rfl rfl ?_
  refine WL.pv (PV.extract rfl rfl rfl) rfl ?_
  refine WL.pv (PV.extract rfl rfl rfl) rfl ?_
  refine WL.alloc H rfl TrydT.ze34 rfl ?_
  intro b4 w7 H
  refine WL.storeL H 0 rfl rfl rfl (new := kc ((List.replicate 32 0).set 0 64) ++ [s23]) rfl (by exact TrydT.sz34) (one_en hs23) (Laid.at (Laid.all (by (simp only [kc_length, kw_length, List.length_replicate, List.length_append, List.length_cons, List.length_nil, cutI_length, shaOf_length, dig_length, valD_length, rootM_length]; omega))) (by rfl)) rfl ?_
  intro w8 H
  refine WL.as rfl rfl ?_
  refine WL.nil ?_
  refine WE.seq_reg ?_
  refine WL.alloc H rfl TrydT.ze3 rfl ?_
  intro b6 w9 H
  refine WL.storeL H 0 rfl rfl rfl (new := _) rfl (by exact TrydT.sz3) (by exact one_lit _ rfl) (Laid.at (Laid.all (by (simp only [kc_length, kw_length, List.length_replicate, List.length_append, List.length_cons, List.length_nil, cutI_length, shaOf_length, dig_length, valD_length, rootM_length]; done))) (by rfl)) rfl ?_
  intro w10 H
  refine WL.nil ?_
  refine WE.seq ?_
  refine WE.seq_reg ?_
  refine WL.mv rfl rfl ?_
  refine WL.call TrydT.fb12 rfl (All_c (T := (T11 a b a1 a2 a3 s1 s2 s3)) H.yylt  ) ?_
  rintro _ w11 ⟨bav27, rfl, hO, hR⟩
  replace H := (H.out hO).add hR
  refine WL.nil ?_
  refine WE.block ?_
  replace H := H.sel [0, 1, 2]
  replace H := H.pushNil
  refine WE.rangeF (α := Unit) (fun i _ => True) (fun i _ => []) (fun i _ => [Ent.blk b6 3 [.int .i64 (i : Int)], Ent.blk b4 34 (kc ((List.replicate 32 0).set 0 64) ++ [s23]), Ent.blk bcv7 118 [.int .i64 mv18]]) (fun i _ => [fun w => RdA w ⟨bav27, 0, none⟩ [(T11 a b a1 a2 a3 s1 s2 s3).ptr], SlD v20 [2, 2, 1], TrA 8 (T11 a b a1 a2 a3 s1 s2 s3)]) (fun _ _ => False) (fun _ _ => []) (fun _ _ => []) (fun _ _ => []) () H rfl TrydT.fb35 (fun W0 hO => all1_seq (T := (T11 a b a1 a2 a3 s1 s2 s3)) (bits := 8) (H.ccLt hO) (H.ccRob0 hO 0 rfl) (H.ccRob0 hO 2 rfl) (fit11 _ _ _ _ _ _ _ _)) (allV_len) ⟨trivial, rfl, rfl, rfl⟩ ?_ ?_ ?_
  · skip
    intro i _ xs_ l_ d_ o_ T_ sc_ w12 hi_ hR_ hV_
    obtain ⟨p, s_, hLp, rfl, -⟩ := hV_
    refine WE.skip ?_
    refine ⟨rfl, rfl, rfl, ?_⟩
    intro w13 H
    have hi3 : i < 3 := hi_
    refine WE.block ?_
    refine WE.reg ?_
    refine WL.load1 rfl TrydT.ag3 rfl rfl (by exact Blk.segAt (H.l 0 rfl) (Seg.all _) (by rfl)) ?_
    refine WL.pv (PV.eq (v' := .int .i64 ((i + 1 : Nat) : Int)) (PV.add64 rfl rfl rfl (by omega) (by omega)) (by rfl)) rfl ?_
    refine WL.storeL H 0 rfl rfl rfl (new := _) rfl (by exact TrydT.sz3) (by exact one_lit _ rfl) (Laid.at (Laid.all (by (simp only [kc_length, kw_length, List.length_replicate, List.length_append, List.length_cons, List.length_nil, cutI_length, shaOf_length, dig_length, valD_length, rootM_length]; done))) (by rfl)) rfl ?_
    intro w14 H
    refine WL.nil ?_
    replace H := H.drop (fun p hp => List.mem_cons_of_mem _ hp)
    exact ⟨(), trivial, H⟩
  · skip
    intro _ d_0 w15 hR_ H
    refine WE.seq_reg ?_
    refine WL.mv rfl rfl ?_
    refine WL.call TrydT.fb15 rfl (Entries_c (T := (T11 a b a1 a2 a3 s1 s2 s3)) (bits := 8) H.yylt (by exact (H.rob 2 rfl : Rob _ (TrA 8 (T11 a b a1 a2 a3 s1 s2 s3)) _)) (fit11 _ _ _ _ _ _ _ _) (by rw [cnt11]; decide)) ?_
    rintro v33 w16 ⟨es33, hO, hS33, -, hes33⟩
    replace H := (H.out hO).add hS33
    have hel33 : es33.length = 3 := by have h_ := congrArg List.length hes33; rw [kvL_len] at h_; exact h_
    refine WL.pv (PV.lenS (H.p 0 rfl : SlE v33 es33 _) TrydT.sl22 rfl) rfl ?_
    refine WL.pv (PV.eql rfl rfl rfl) rfl ?_
    refine WL.mv rfl rfl ?_
    refine WL.known (t := 36) (c := true) rfl (by (rw [hel33]; rfl)) ?_
    refine WL.mv rfl rfl ?_
    refine WL.pv (PV.buildA rfl TrydT.ar31 TrydT.sz5 TrydT.ze31 (Fl.cons rfl rfl rfl (Laid.byteA (x := 65) 0 (by simp)) Fl.nil)) rfl ?_
    refine WL.call TrydT.fb18 rfl (Rank_c (T := (T11 a b a1 a2 a3 s1 s2 s3)) (bits := 8) (k := ((List.replicate 32 0).set 0 65)) (m := (putM (putM (putM [] (En.mk ((List.replicate 32 0).set 0 255) (.slice none 0 0) [])) (En.mk (List.replicate 32 0) (.slice none 0 0) [])) (En.mk ((List.replicate 32 0).set 0 64) (.slice (some ⟨b15, 0, none⟩) 1 1) [5]))) H.yylt (by exact (H.rob 3 rfl : Rob _ (TrA 8 (T11 a b a1 a2 a3 s1 s2 s3)) _)) hT11 ((srt11 _).pm (kl11 _)) (srt11 _) (by rfl) (by rw [len11]; decide)) ?_
    rintro _ w17 ⟨rfl, hO⟩
    replace H := H.out hO
    rw [rk11]
    refine WL.pv (PV.eql rfl rfl rfl) rfl ?_
    refine WL.pv (PV.pick_t rfl rfl rfl) rfl ?_
    refine WL.mv rfl rfl ?_
    refine WL.known (t := 42) (c := true) rfl (by rfl) ?_
    refine WL.mv rfl rfl ?_
    refine WL.pv (PV.lenS (by exact (H.p 2 rfl : SlD v20 [2, 2, 1] _)) TrydT.sl61 rfl) rfl ?_
    refine WL.pv (PV.eql rfl rfl rfl) rfl ?_
    refine WL.pv (PV.pick_t rfl rfl rfl) rfl ?_
    refine WL.mv rfl rfl ?_
    refine WL.known (t := 47) (c := true) rfl (by rfl) ?_
    refine WL.mv rfl rfl ?_
    refine WL.pv (PV.idxS rfl (by exact (H.p 2 rfl : SlD v20 [2, 2, 1] _)) TrydT.sl61 TrydT.sz3 rfl rfl (by decide) (by decide)) rfl ?_
    refine WL.load1 rfl TrydT.ag3 rfl rfl (SlD.rd (by exact (H.p 2 rfl : SlD v20 [2, 2, 1] _)) 0 (by decide)) ?_
    refine WL.pv (PV.eql rfl rfl rfl) rfl ?_
    refine WL.pv (PV.pick_t rfl rfl rfl) rfl ?_
    refine WL.mv rfl rfl ?_
    refine WL.known (t := 53) (c := true) rfl (by rfl) ?_
    refine WL.mv rfl rfl ?_
    refine WL.pv (PV.idxS rfl (by exact (H.p 2 rfl : SlD v20 [2, 2, 1] _)) TrydT.sl61 TrydT.sz3 rfl rfl (by decide) (by decide)) rfl ?_
    refine WL.load1 rfl TrydT.ag3 rfl rfl (SlD.rd (by exact (H.p 2 rfl : SlD v20 [2, 2, 1] _)) 1 (by decide)) ?_
    refine WL.pv (PV.eql rfl rfl rfl) rfl ?_
    refine WL.pv (PV.pick_t rfl rfl rfl) rfl ?_
    refine WL.mv rfl rfl ?_
    refine WL.known (t := 59) (c := true) rfl (by rfl) ?_
    refine WL.mv rfl rfl ?_
    refine WL.pv (PV.idxS rfl (by exact (H.p 2 rfl : SlD v20 [2, 2, 1] _)) TrydT.sl61 TrydT.sz3 rfl rfl (by decide) (by decide)) rfl ?_
    refine WL.load1 rfl TrydT.ag3 rfl rfl (SlD.rd (by exact (H.p 2 rfl : SlD v20 [2, 2, 1] _)) 2 (by decide)) ?_
    refine WL.pv (PV.eql rfl rfl rfl) rfl ?_
    refine WL.pv (PV.pick_t rfl rfl rfl) rfl ?_
    refine WL.mv rfl rfl ?_
    refine WL.known (t := 65) (c := true) rfl (by rfl) ?_
    refine WL.mv rfl rfl ?_
    refine WL.pv (PV.pick_t rfl rfl rfl) rfl ?_
    refine WL.mv rfl rfl ?_
    refine WL.known (t := 68) (c := true) rfl (by rfl) ?_
    refine WL.pv (PV.fieldAddr rfl TrydT.fd34_0 rfl) rfl ?_
    refine WL.loadR rfl TrydT.ag31 rfl rfl (by exact Blk.segAt (H.l 2 rfl) (Seg.l (Seg.all _)) (by rfl)) (by exact TrydT.sz31) ?_
    refine WL.pv (PV.buildA rfl TrydT.ar31 TrydT.sz5 TrydT.ze31 (Fl.cons rfl rfl rfl (Laid.byteA (x := 64) 0 (by simp)) Fl.nil)) rfl ?_
    refine WL.pv (PV.eqlB rfl TrydT.ar31 TrydT.in5 TrydT.sz5 (by kernel_rfl) rfl rfl (by assumption) (by assumption)) rfl ?_
    refine WL.pv (PV.pick_t rfl rfl rfl) rfl ?_
    refine WL.mv rfl rfl ?_
    refine WL.known (t := 74) (c := true) rfl (by rfl) ?_
    refine WL.mv rfl rfl ?_
    refine WL.pv (PV.buildA rfl TrydT.ar31 TrydT.sz5 TrydT.ze31 (Fl.cons rfl rfl rfl (Laid.byteA (x := 1) 0 (by simp)) Fl.nil)) rfl ?_
    refine WL.call TrydT.fb17 rfl (From_c (T := (T11 a b a1 a2 a3 s1 s2 s3)) (bits := 8) (k := ((List.replicate 32 0).set 0 1)) (m := (putM (putM (putM [] (En.mk ((List.replicate 32 0).set 0 255) (.slice none 0 0) [])) (En.mk (List.replicate 32 0) (.slice none 0 0) [])) (En.mk ((List.replicate 32 0).set 0 64) (.slice (some ⟨b15, 0, none⟩) 1 1) [5]))) (z := 9) H.yylt (by exact (H.rob 3 rfl : Rob _ (TrA 8 (T11 a b a1 a2 a3 s1 s2 s3)) _)) hT11 ((srt11 _).pm (kl11 _)) (srt11 _) (by rfl) (by rw [len11]; decide)) ?_
    rintro v77 w18 ⟨es77, hO, hS77, -, hes77⟩
    replace H := (H.out hO).add hS77
    have hel77 : es77.length = 2 := by have h_ := congrArg List.length hes77; rw [kvL_len, List.length_take, kvL_len, List.length_drop, rk11b, len11] at h_; exact h_
    refine WL.pv (PV.lenS (H.p 0 rfl : SlE v77 es77 _) TrydT.sl22 rfl) rfl ?_
    refine WL.pv (PV.eql rfl rfl rfl) rfl ?_
    refine WL.pv (PV.pick_t rfl rfl rfl) rfl ?_
    refine WL.mv rfl rfl ?_
    refine WL.known (t := 81) (c := true) rfl (by (rw [hel77]; rfl)) ?_
    refine WL.load1 rfl TrydT.ag3 rfl rfl (by exact Blk.segAt (H.l 1 rfl) (Seg.all _) (by rfl)) ?_
    refine WL.pv (PV.eql rfl rfl rfl) rfl ?_
    refine WL.pv (PV.pick_t rfl rfl rfl) rfl ?_
    refine WL.as rfl rfl ?_
    refine WL.nil ?_
    refine WE.ret ?_
    (obtain ⟨w19, hl_0, H⟩ := H.unmark 0 rfl)
    refine ⟨[_], _, (hl_0 _ (.nil _)), ⟨rfl, trivial⟩, ?_⟩
    refine ⟨?_, H.toOut0⟩
    show Value.bool _ = Value.bool true
    rfl
  · skip
    intro e_ _ d_0 w20 he_ hR_ H
    exact hR_.elim

end Go.Sp.Tryd
