/- Walks of functions, printed by a program of this session (gen.py) from notes on each function. -/
import Derived.Test.YthdcihakjomagaaXl
set_option maxRecDepth 100000
set_option maxHeartbeats 1000000
set_option linter.unusedVariables false
set_option linter.unusedSimpArgs false
namespace Go.Sp.Try
open Go.Proofs Go.RowKit Go.Sp

theorem k32_3 {a b c : List UInt8} (h1 : a.length = 32) (h2 : b.length = 32) (h3 : c.length = 32) : K32 [a, b, c] := fun k hk => by
  rcases List.mem_cons.1 hk with rfl | hk
  · exact h1
  · rcases List.mem_cons.1 hk with rfl | hk
    · exact h2
    · rw [List.mem_singleton.1 hk]; exact h3
theorem k32_2 {a b : List UInt8} (h1 : a.length = 32) (h2 : b.length = 32) : K32 [a, b] := fun k hk => by
  rcases List.mem_cons.1 hk with rfl | hk
  · exact h1
  · rw [List.mem_singleton.1 hk]; exact h2
theorem sort02 : compK (sortL [((List.replicate 32 0).set 0 3), ((List.replicate 32 0).set 0 1), ((List.replicate 32 0).set 0 3)]) = [((List.replicate 32 0).set 0 1), ((List.replicate 32 0).set 0 3)] := by rw [sort_eq _ (k32_3 (by rfl) (by rfl) (by rfl))]; kernel_rfl
theorem chk02 : chkK [((List.replicate 32 0).set 0 1), ((List.replicate 32 0).set 0 3)] = 0 := by kernel_rfl
theorem par02 : parL [48, 49, 97, 98] = [1, 171] := by decide
theorem ok02 : okS [48, 49, 97, 98] := ⟨rfl, by decide⟩
theorem hex02 : hexL [1, 171] = [48, 49, 97, 98] := by decide
theorem bit02a : bitN ((List.replicate 32 0).set 0 1) 0 = 0 := by decide
theorem bit02b : bitN ((List.replicate 32 0).set 0 200) 0 = 1 := by decide
theorem split02 {r : Nat} (h : r ≤ [((List.replicate 32 0).set 0 1), ((List.replicate 32 0).set 0 200)].length) (h1 : ∀ i (h : i < [((List.replicate 32 0).set 0 1), ((List.replicate 32 0).set 0 200)].length), i + 1 = r → bitN [((List.replicate 32 0).set 0 1), ((List.replicate 32 0).set 0 200)][i] 0 ≠ 1) (h2 : ∀ h : r < [((List.replicate 32 0).set 0 1), ((List.replicate 32 0).set 0 200)].length, bitN [((List.replicate 32 0).set 0 1), ((List.replicate 32 0).set 0 200)][r] 0 = 1) : r = 1 := by
  match r, h, h1, h2 with
  | 0, _, _, h2 => exact absurd (h2 (by decide)) (by show bitN ((List.replicate 32 0).set 0 1) 0 ≠ 1; rw [bit02a]; decide)
  | 1, _, _, _ => rfl
  | 2, _, h1, _ => exact absurd bit02b (h1 1 (by decide) rfl)

theorem alive02_c {X : Nat → Prop} {w : World}  (hX : ∀ b, X b → b < w.heap.size) :
    Ret Try.prog 10 [].toArray w fun v w' => v = .bool true ∧ Out Nil w w' := by
  refine Ret.of_body (N := 71) Try.func10 rfl rfl (by decide +revert) ?_
  have H := St.begin hX
  refine WE.seq_reg ?_
  refine WL.as rfl rfl ?_
  refine WL.nil ?_
  refine WE.seq_reg ?_
  refine WL.makeSlice (n := 32) H rfl TryT.st22 rfl (by decide) (by decide) rfl ?_
  intro b9 w2 H
  replace H := H.freeze (i := 0) rfl
  replace H := H.add (show Rob _ (SlB (.slice (some ⟨b9, 0, none⟩) 32 32) (List.replicate 32 0)) _ from (H.rob 0 rfl).imp fun _ h => SlB.of_blk h rfl)
  refine WL.call TryT.fb9 rfl (OfGood_c (lb := (List.replicate 32 0)) H.yylt (H.rob 0 rfl) rfl) ?_
  rintro _ w5 ⟨rfl, hO⟩
  replace H := H.out hO
  refine WL.mv rfl rfl ?_
  refine WL.pv (PV.extract rfl rfl rfl) rfl ?_
  refine WL.pv (PV.extract rfl rfl rfl) rfl ?_
  refine WL.alloc H rfl TryT.ze24 rfl ?_
  intro b1 w6 H
  refine WL.storeL H 0 rfl rfl rfl (new := _) rfl (by exact TryT.sz24) (by exact kc_one _) (Laid.at (Laid.all (by with_reducible rfl)) (by rfl)) rfl ?_
  intro w7 H
  refine WL.as rfl rfl ?_
  refine WL.nil ?_
  refine WE.seq_reg ?_
  refine WL.makeSlice (n := 31) H rfl TryT.st22 rfl (by decide) (by decide) rfl ?_
  intro b14 w9 H
  replace H := H.freeze (i := 0) rfl
  replace H := H.add (show Rob _ (SlB (.slice (some ⟨b14, 0, none⟩) 31 31) (List.replicate 31 0)) _ from (H.rob 0 rfl).imp fun _ h => SlB.of_blk h rfl)
  refine WL.call TryT.fb9 rfl (OfBad_c (lb := List.replicate 31 0) H.yylt (H.rob 0 rfl) (by decide) (by decide)) ?_
  rintro _ w12 ⟨rfl, hO⟩
  replace H := H.out hO
  refine WL.mv rfl rfl ?_
  refine WL.pv (PV.extract rfl rfl rfl) rfl ?_
  refine WL.pv (PV.extract rfl rfl rfl) rfl ?_
  refine WL.alloc H rfl TryT.ze24 rfl ?_
  intro b3 w13 H
  refine WL.storeL H 0 rfl rfl rfl (new := _) rfl (by exact TryT.sz24) (by exact kc_one _) (Laid.at (Laid.all (by with_reducible rfl)) (by rfl)) rfl ?_
  intro w14 H
  refine WL.as rfl rfl ?_
  refine WL.nil ?_
  refine WE.seq_reg ?_
  refine WL.call TryT.fb13 rfl (Parse_c (l := [48, 49, 97, 98]) H.yylt (by decide)) ?_
  rintro v19 w15 ⟨hO, hok19, -⟩
  obtain ⟨s5, rfl, hs5⟩ := hok19 ok02
  rw [par02] at hs5
  replace H := (H.out hO).add hs5
  refine WL.mv rfl rfl ?_
  refine WL.pv (PV.extract rfl rfl rfl) rfl ?_
  refine WL.pv (PV.extract rfl rfl rfl) rfl ?_
  refine WL.as rfl rfl ?_
  refine WL.as rfl rfl ?_
  refine WL.nil ?_
  refine WE.seq_reg ?_
  refine WL.pv (PV.buildA rfl TryT.ar24 TryT.sz5 TryT.ze24 (Fl.cons rfl rfl rfl (Laid.byteA (x := 3) 0 (by simp)) Fl.nil)) rfl ?_
  refine WL.pv (PV.buildA rfl TryT.ar24 TryT.sz5 TryT.ze24 (Fl.cons rfl rfl rfl (Laid.byteA (x := 1) 0 (by simp)) Fl.nil)) rfl ?_
  refine WL.pv (PV.buildA rfl TryT.ar24 TryT.sz5 TryT.ze24 (Fl.cons rfl rfl rfl (Laid.byteA (x := 3) 0 (by simp)) Fl.nil)) rfl ?_
  refine WL.buildSliceF (l0 := (kc (List.replicate 32 0) ++ (kc (List.replicate 32 0) ++ (kc (List.replicate 32 0))))) H rfl TryT.st38 (by decide) (by rfl) (Fl.cons rfl (by rfl) (by (simp [kc_length, kw_length, *]; done)) (Laid.left (Laid.all (by (simp [kc_length, kw_length, *]; done)))) (Fl.cons rfl (by rfl) (by (simp [kc_length, kw_length, *]; done)) (Laid.right (Laid.left (Laid.all (by (simp [kc_length, kw_length, *]; done)))) (by (simp [kc_length, kw_length, *]; done))) (Fl.cons rfl (by rfl) (by (simp [kc_length, kw_length, *]; done)) (Laid.right (Laid.right (Laid.all (by (simp [kc_length, kw_length, *]; done))) (by with_reducible rfl)) (by (simp [kc_length, kw_length, *]; done))) Fl.nil))) rfl ?_
  intro b25 w16 H
  replace H := H.freeze (i := 0) rfl
  replace H := H.add ((H.rob 0 rfl).imp fun _ h => (SlC.of_blk (n := 3) h rfl : SlK (.slice (some ⟨b25, 0, none⟩) 3 3) [((List.replicate 32 0).set 0 3), ((List.replicate 32 0).set 0 1), ((List.replicate 32 0).set 0 3)] _))
  refine WL.call TryT.fb24 rfl (Sort_c (ks := [((List.replicate 32 0).set 0 3), ((List.replicate 32 0).set 0 1), ((List.replicate 32 0).set 0 3)]) H.yylt (H.rob 0 rfl) (k32_3 rfl rfl rfl) (by decide)) ?_
  rintro v26 w17 ⟨hO, hOwn⟩
  have hR26 := (rob_own H.yylt hOwn).imp fun _ h => SlC.of_own h
  rw [sort02] at hR26
  replace H := (H.out hO).add (show Rob _ (SlK v26 [((List.replicate 32 0).set 0 1), ((List.replicate 32 0).set 0 3)]) _ from hR26)
  refine WL.as rfl rfl ?_
  refine WL.nil ?_
  refine WE.seq_reg ?_
  refine WL.loadR rfl TryT.ag24 rfl rfl (by exact Blk.segAt (H.l 1 rfl) (Seg.all _) (by rfl)) (by exact TryT.sz24) ?_
  refine WL.pv (PV.buildA rfl TryT.ar24 TryT.sz5 TryT.ze24 Fl.nil) rfl ?_
  refine WL.pv (PV.eqlB rfl TryT.ar24 TryT.in5 TryT.sz5 (by kernel_rfl) rfl rfl (by exact rfl) (by exact rfl)) rfl ?_
  refine WL.mv rfl rfl ?_
  refine WL.known (t := 30) (c := true) rfl (by rfl) ?_
  refine WL.mv rfl rfl ?_
  refine WL.pv (PV.eql rfl rfl rfl) rfl ?_
  refine WL.pv (PV.pick_t rfl rfl rfl) rfl ?_
  refine WL.mv rfl rfl ?_
  refine WL.known (t := 34) (c := true) rfl (by rfl) ?_
  refine WL.mv rfl rfl ?_
  refine WL.pv (PV.eql rfl rfl rfl) rfl ?_
  refine WL.pv (PV.pick_t rfl rfl rfl) rfl ?_
  refine WL.mv rfl rfl ?_
  refine WL.known (t := 38) (c := true) rfl (by rfl) ?_
  refine WL.mv rfl rfl ?_
  refine WL.buildSliceF (l0 := [.int .u8 (0), .int .u8 (0)]) H rfl TryT.st22 (by decide) (zrow_one _ _) (Fl.cons rfl (by rfl) (by (simp only [kc_length, kw_length, List.length_replicate, List.length_append, List.length_cons, List.length_nil]; done)) Laid.head (Fl.cons rfl (by rfl) (by (simp only [kc_length, kw_length, List.length_replicate, List.length_append, List.length_cons, List.length_nil]; done)) (Laid.tail Laid.head rfl) Fl.nil)) rfl ?_
  intro b40 w18 H
  replace H := H.freeze (i := 0) rfl
  replace H := H.add ((H.rob 0 rfl).imp fun _ h => SlB.of_blk (l := [1, 171]) h rfl)
  refine WL.call TryT.fb15 rfl (Same_c (la := [1, 171]) (lb := [1, 171]) H.yylt (by exact (H.rob 5 rfl : Rob _ (SlB s5 [1, 171]) _)) (by exact (H.rob 0 rfl : Rob _ (SlB (.slice (some ⟨b40, 0, none⟩) 2 2) [1, 171]) _)) (by decide)) ?_
  rintro _ w19 ⟨rfl, hO⟩
  replace H := H.out hO
  refine WL.pv (PV.pick_t rfl rfl rfl) rfl ?_
  refine WL.mv rfl rfl ?_
  refine WL.known (t := 43) (c := true) rfl (by rfl) ?_
  refine WL.mv rfl rfl ?_
  refine WL.pv (PV.eql rfl rfl rfl) rfl ?_
  refine WL.pv (PV.pick_t rfl rfl rfl) rfl ?_
  refine WL.mv rfl rfl ?_
  refine WL.known (t := 47) (c := true) rfl (by rfl) ?_
  refine WL.mv rfl rfl ?_
  refine WL.call TryT.fb12 rfl (Hex_c (la := [1, 171]) H.yylt (by exact (H.rob 5 rfl : Rob _ (SlB s5 [1, 171]) _)) (by decide)) ?_
  rintro _ w20 ⟨rfl, hO⟩
  replace H := H.out hO
  refine WL.pv (PV.eqlStr (l := hexL [1, 171]) (m := [48, 49, 97, 98]) rfl rfl rfl) rfl ?_
  refine WL.pv (PV.pick_t rfl rfl rfl) rfl ?_
  refine WL.mv rfl rfl ?_
  refine WL.known (t := 52) (c := true) rfl (by rfl) ?_
  refine WL.mv rfl rfl ?_
  refine WL.pv (PV.buildA rfl TryT.ar24 TryT.sz5 TryT.ze24 (Fl.cons rfl rfl rfl (Laid.byteA (x := 1) 0 (by simp)) Fl.nil)) rfl ?_
  refine WL.pv (PV.buildA rfl TryT.ar24 TryT.sz5 TryT.ze24 (Fl.cons rfl rfl rfl (Laid.byteA (x := 3) 0 (by simp)) Fl.nil)) rfl ?_
  refine WL.buildSliceF (l0 := (kc (List.replicate 32 0) ++ (kc (List.replicate 32 0)))) H rfl TryT.st38 (by decide) (by rfl) (Fl.cons rfl (by rfl) (by (simp [kc_length, kw_length, *]; done)) (Laid.left (Laid.all (by (simp [kc_length, kw_length, *]; done)))) (Fl.cons rfl (by rfl) (by (simp [kc_length, kw_length, *]; done)) (Laid.right (Laid.all (by (simp [kc_length, kw_length, *]; done))) (by (simp [kc_length, kw_length, *]; done))) Fl.nil)) rfl ?_
  intro b56 w21 H
  replace H := H.freeze (i := 0) rfl
  replace H := H.add ((H.rob 0 rfl).imp fun _ h => (SlC.of_blk (n := 2) h rfl : SlK (.slice (some ⟨b56, 0, none⟩) 2 2) [((List.replicate 32 0).set 0 1), ((List.replicate 32 0).set 0 3)] _))
  refine WL.call TryT.fb25 rfl (EqK_c (ks := [((List.replicate 32 0).set 0 1), ((List.replicate 32 0).set 0 3)]) H.yylt (by exact (H.rob 4 rfl : Rob _ (SlK v26 [((List.replicate 32 0).set 0 1), ((List.replicate 32 0).set 0 3)]) _)) (by exact (H.rob 0 rfl : Rob _ (SlK (.slice (some ⟨b56, 0, none⟩) 2 2) [((List.replicate 32 0).set 0 1), ((List.replicate 32 0).set 0 3)]) _)) (k32_2 rfl rfl) (by decide)) ?_
  rintro _ w22 ⟨rfl, hO⟩
  replace H := H.out hO
  refine WL.pv (PV.pick_t rfl rfl rfl) rfl ?_
  refine WL.mv rfl rfl ?_
  refine WL.known (t := 59) (c := true) rfl (by rfl) ?_
  refine WL.mv rfl rfl ?_
  refine WL.call TryT.fb17 rfl (Check_c (ks := [((List.replicate 32 0).set 0 1), ((List.replicate 32 0).set 0 3)]) H.yylt (by exact (H.rob 4 rfl : Rob _ (SlK v26 [((List.replicate 32 0).set 0 1), ((List.replicate 32 0).set 0 3)]) _)) (k32_2 rfl rfl) (by decide)) ?_
  rintro _ w23 ⟨rfl, hO⟩
  replace H := H.out hO
  refine WL.pv (PV.eql rfl rfl rfl) rfl ?_
  refine WL.pv (PV.pick_t rfl rfl rfl) rfl ?_
  refine WL.mv rfl rfl ?_
  refine WL.known (t := 64) (c := true) rfl (by rfl) ?_
  refine WL.pv (PV.buildA rfl TryT.ar24 TryT.sz5 TryT.ze24 (Fl.cons rfl rfl rfl (Laid.byteA (x := 1) 0 (by simp)) Fl.nil)) rfl ?_
  refine WL.pv (PV.buildA rfl TryT.ar24 TryT.sz5 TryT.ze24 (Fl.cons rfl rfl rfl (Laid.byteA (x := 200) 0 (by simp)) Fl.nil)) rfl ?_
  refine WL.buildSliceF (l0 := (kc (List.replicate 32 0) ++ (kc (List.replicate 32 0)))) H rfl TryT.st38 (by decide) (by rfl) (Fl.cons rfl (by rfl) (by (simp [kc_length, kw_length, *]; done)) (Laid.left (Laid.all (by (simp [kc_length, kw_length, *]; done)))) (Fl.cons rfl (by rfl) (by (simp [kc_length, kw_length, *]; done)) (Laid.right (Laid.all (by (simp [kc_length, kw_length, *]; done))) (by (simp [kc_length, kw_length, *]; done))) Fl.nil)) rfl ?_
  intro b67 w24 H
  replace H := H.freeze (i := 0) rfl
  replace H := H.add ((H.rob 0 rfl).imp fun _ h => (SlC.of_blk (n := 2) h rfl : SlK (.slice (some ⟨b67, 0, none⟩) 2 2) [((List.replicate 32 0).set 0 1), ((List.replicate 32 0).set 0 200)] _))
  refine WL.call TryT.fb21 rfl (Split_c (ks := [((List.replicate 32 0).set 0 1), ((List.replicate 32 0).set 0 200)]) (d := 0) H.yylt (by exact (H.rob 0 rfl : Rob _ (SlK (.slice (some ⟨b67, 0, none⟩) 2 2) [((List.replicate 32 0).set 0 1), ((List.replicate 32 0).set 0 200)]) _)) (k32_2 rfl rfl) (by decide) (by decide)) ?_
  rintro _ w25 ⟨n68, rfl, hO, hn68, hlo68, hhi68⟩
  obtain rfl := split02 hn68 hlo68 hhi68
  replace H := H.out hO
  refine WL.pv (PV.eql rfl rfl rfl) rfl ?_
  refine WL.pv (PV.pick_t rfl rfl rfl) rfl ?_
  refine WL.as rfl rfl ?_
  refine WL.nil ?_
  refine WE.ret ?_
  refine ⟨[_], _, .nil _, ⟨rfl, trivial⟩, ?_⟩
  refine ⟨?_, H.toOut0⟩
  rfl

end Go.Sp.Try
