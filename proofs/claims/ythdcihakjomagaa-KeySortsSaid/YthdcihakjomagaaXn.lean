/- Walks of functions, printed by a program of this session (gen.py) from notes on each function. -/
import Derived.Test.YthdcihakjomagaaXm
set_option maxRecDepth 100000
set_option maxHeartbeats 1000000
set_option linter.unusedVariables false
set_option linter.unusedSimpArgs false
namespace Go.Sp.Try
open Go.Proofs Go.RowKit Go.Sp
theorem KeyOfGood_c {X : Nat → Prop} {w : World} {s : Value} {la : List UInt8} (hX : ∀ b, X b → b < w.heap.size) (hf0 : Rob X (SlB s la) w) (hlb : la.length = 32) :
    Ret Try.prog 3 [s].toArray w fun v w' => v = .bool true ∧ Out Nil w w' := by
  refine Ret.of_body (N := 34) Try.func3 rfl rfl (by simp) ?_
  have H := St.begin hX
  replace H := H.add (rob0 hf0)
  refine WE.seq_reg ?_
  refine WL.as rfl rfl ?_
  refine WL.nil ?_
  refine WE.seq_reg ?_
  refine WL.mv rfl rfl ?_
  refine WL.call TryT.fb9 rfl (OfGood_c H.yylt (H.rob 0 rfl) hlb) ?_
  rintro _ w1 ⟨rfl, hO⟩
  replace H := H.out hO
  refine WL.mv rfl rfl ?_
  refine WL.pv (PV.extract rfl rfl rfl) rfl ?_
  refine WL.pv (PV.extract rfl rfl rfl) rfl ?_
  refine WL.alloc H rfl TryT.ze24 rfl ?_
  intro b3 w2 H
  refine WL.storeL H 0 rfl rfl rfl (new := _) rfl (by (rw [TryT.sz24]; refine congrArg some ?_; (simp only [kc_length, kw_length, List.length_replicate, List.length_append, List.length_cons, List.length_nil]; omega))) (by exact kc_one _) (Laid.at (Laid.all (by (simp only [kc_length, kw_length, List.length_replicate, List.length_append, List.length_cons, List.length_nil]; omega))) (by rfl)) rfl ?_
  intro w3 H
  refine WL.as rfl rfl ?_
  refine WL.nil ?_
  refine WE.seq ?_
  refine WE.seq_reg ?_
  refine WL.mv rfl rfl ?_
  refine WL.pv (PV.lenS (H.p 0 rfl) TryT.sl22 rfl) rfl ?_
  refine WL.pv (PV.neq rfl rfl rfl) rfl ?_
  refine WL.nil ?_
  refine WE.cond_f' rfl (by simp [hlb]) ?_
  refine WE.skip ?_
  refine WE.seq_draw (.pick1 0 (.take 1 (.take 2 (.take 3 (.pick1 4 (.take 5 (.take 6 (.take 7 (.take 8 (.take 9 (.take 10 (.take 11 .done)))))))))))) TryT.mixed (by kernel_rfl) ?_
  replace H := H.out (Out.drew _)
  refine WP.pick1 rfl ?_
  refine WL.call TryT.fb10 rfl (alive02_c H.yylt) ?_
  rintro _ w4 ⟨rfl, hO⟩
  replace H := H.out hO
  refine WL.nil ⟨(fun _ h => by cases h), ?_⟩
  refine WP.mv rfl rfl rfl ?_
  refine WP.known (t := 24) (c := true) rfl (by rfl) ?_
  refine WP.readA rfl rfl rfl TryT.ag24 rfl (by exact Blk.segAt (H.l 0 rfl) (Seg.all _) (by rfl)) (by (rw [TryT.sz24]; refine congrArg some ?_; (simp only [kc_length, kw_length, List.length_replicate, List.length_append, List.length_cons, List.length_nil]; omega))) ?_
  refine WP.mv rfl rfl rfl ?_
  refine WP.pick1 rfl ?_
  refine WL.call TryT.fb11 rfl (refOf_c H.yylt (H.rob 0 rfl) hlb) ?_
  rintro _ w5 ⟨rfl, hO⟩
  replace H := H.out hO
  refine WL.nil ⟨(List.forall_mem_cons.2 ⟨(fun _ _ => (by exact Blk.segAt (H.l 0 rfl) (Seg.all _) (by rfl))), (fun _ h => by cases h)⟩), ?_⟩
  refine WP.take_pure rfl rfl (PV.eqlB rfl TryT.ar24 TryT.in5 TryT.sz5 (by kernel_rfl) rfl rfl (by assumption) (by assumption)) ?_
  refine WP.take_pure rfl rfl (PV.pick_t rfl rfl rfl) ?_
  refine WP.mv rfl rfl rfl ?_
  refine WP.known (t := 30) (c := true) rfl (by (simp; done)) ?_
  refine WP.mv rfl rfl rfl ?_
  refine WP.take_pure rfl rfl (PV.eql rfl rfl rfl) ?_
  refine WP.take_pure rfl rfl (PV.pick_t rfl rfl rfl) ?_
  refine WP.as rfl rfl rfl ?_
  refine WP.done ?_
  refine WE.ret ?_
  refine ⟨[_], _, .nil _, ⟨rfl, trivial⟩, ?_⟩
  refine ⟨?_, H.toOut0⟩
  rfl

theorem KeyOfBad_c {X : Nat → Prop} {w : World} {s : Value} {la : List UInt8} (hX : ∀ b, X b → b < w.heap.size) (hf0 : Rob X (SlB s la) w) (hlb : la.length ≠ 32) (hle : la.length ≤ 9223372036854775807) :
    Ret Try.prog 3 [s].toArray w fun v w' => v = .bool true ∧ Out Nil w w' := by
  refine Ret.of_body (N := 34) Try.func3 rfl rfl (by simp) ?_
  have H := St.begin hX
  replace H := H.add (rob0 hf0)
  refine WE.seq_reg ?_
  refine WL.as rfl rfl ?_
  refine WL.nil ?_
  refine WE.seq_reg ?_
  refine WL.mv rfl rfl ?_
  refine WL.call TryT.fb9 rfl (OfBad_c H.yylt (H.rob 0 rfl) hlb hle) ?_
  rintro _ w1 ⟨rfl, hO⟩
  replace H := H.out hO
  refine WL.mv rfl rfl ?_
  refine WL.pv (PV.extract rfl rfl rfl) rfl ?_
  refine WL.pv (PV.extract rfl rfl rfl) rfl ?_
  refine WL.alloc H rfl TryT.ze24 rfl ?_
  intro b3 w2 H
  refine WL.storeL H 0 rfl rfl rfl (new := _) rfl (by exact TryT.sz24) (by exact kc_one _) (Laid.at (Laid.all (by with_reducible rfl)) (by rfl)) rfl ?_
  intro w3 H
  refine WL.as rfl rfl ?_
  refine WL.nil ?_
  refine WE.seq ?_
  refine WE.seq_reg ?_
  refine WL.mv rfl rfl ?_
  refine WL.pv (PV.lenS (H.p 0 rfl) TryT.sl22 rfl) rfl ?_
  refine WL.pv (PV.neq rfl rfl rfl) rfl ?_
  refine WL.nil ?_
  refine WE.cond_t' rfl (by simp; omega) ?_
  refine WE.seq_reg ?_
  refine WL.call TryT.fb10 rfl (alive02_c H.yylt) ?_
  rintro _ w4 ⟨rfl, hO⟩
  replace H := H.out hO
  refine WL.mv rfl rfl ?_
  refine WL.known (t := 14) (c := true) rfl (by rfl) ?_
  refine WL.loadR rfl TryT.ag24 rfl rfl (by exact Blk.segAt (H.l 0 rfl) (Seg.all _) (by rfl)) (by exact TryT.sz24) ?_
  refine WL.pv (PV.buildA rfl TryT.ar24 TryT.sz5 TryT.ze24 Fl.nil) rfl ?_
  refine WL.pv (PV.eqlB rfl TryT.ar24 TryT.in5 TryT.sz5 (by kernel_rfl) rfl rfl (by exact (List.length_replicate ..)) (by exact (List.length_replicate ..))) rfl ?_
  refine WL.pv (PV.pick_t rfl rfl rfl) rfl ?_
  refine WL.mv rfl rfl ?_
  refine WL.known (t := 19) (c := true) rfl (by rfl) ?_
  refine WL.mv rfl rfl ?_
  refine WL.pv (PV.eql rfl rfl rfl) rfl ?_
  refine WL.pv (PV.pick_t rfl rfl rfl) rfl ?_
  refine WL.as rfl rfl ?_
  refine WL.nil ?_
  refine WE.ret ?_
  refine ⟨[_], _, .nil _, ⟨rfl, trivial⟩, ?_⟩
  refine ⟨?_, H.toOut0⟩
  rfl

theorem KeyTextsBad_c {X : Nat → Prop} {w : World} {s : Value} {la : List UInt8} (hX : ∀ b, X b → b < w.heap.size) (hf0 : Rob X (SlB s la) w) (hla : 3000 < la.length) :
    Ret Try.prog 4 [s].toArray w fun v w' => v = .bool true ∧ Out Nil w w' := by
  refine Ret.of_body (N := 33) Try.func4 rfl rfl (by simp) ?_
  have H := St.begin hX
  replace H := H.add (rob0 hf0)
  refine WE.seq_reg ?_
  refine WL.as rfl rfl ?_
  refine WL.nil ?_
  refine WE.seq ?_
  refine WE.seq_reg ?_
  refine WL.mv rfl rfl ?_
  refine WL.pv (PV.lenS (H.p 0 rfl : SlB s la _) TryT.sl22 rfl) rfl ?_
  refine WL.pv (PV.gtr rfl rfl rfl) rfl ?_
  refine WL.nil ?_
  refine WE.cond_t' rfl (by simp; omega) ?_
  refine WE.seq_reg ?_
  refine WL.call TryT.fb10 rfl (alive02_c H.yylt) ?_
  rintro _ w1 ⟨rfl, hO⟩
  replace H := H.out hO
  refine WL.as rfl rfl ?_
  refine WL.nil ?_
  refine WE.ret ?_
  refine ⟨[_], _, .nil _, ⟨rfl, trivial⟩, ?_⟩
  refine ⟨?_, H.toOut0⟩
  rfl

theorem KeyTextsGood_c {X : Nat → Prop} {w : World} {s : Value} {la : List UInt8} (hX : ∀ b, X b → b < w.heap.size) (hf0 : Rob X (SlB s la) w) (hla : la.length ≤ 3000) :
    Ret Try.prog 4 [s].toArray w fun v w' => v = .bool true ∧ Out Nil w w' := by
  refine Ret.of_body (N := 33) Try.func4 rfl rfl (by simp) ?_
  have H := St.begin hX
  replace H := H.add (rob0 hf0)
  refine WE.seq_reg ?_
  refine WL.as rfl rfl ?_
  refine WL.nil ?_
  refine WE.seq ?_
  refine WE.seq_reg ?_
  refine WL.mv rfl rfl ?_
  refine WL.pv (PV.lenS (H.p 0 rfl : SlB s la _) TryT.sl22 rfl) rfl ?_
  refine WL.pv (PV.gtr rfl rfl rfl) rfl ?_
  refine WL.nil ?_
  refine WE.cond_f' rfl (by simp; omega) ?_
  refine WE.skip ?_
  refine WE.seq_reg ?_
  refine WL.mv rfl rfl ?_
  refine WL.call TryT.fb12 rfl (Hex_c H.yylt (H.rob 0 rfl) (by omega)) ?_
  rintro _ w1 ⟨rfl, hO⟩
  replace H := H.out hO
  refine WL.as rfl rfl ?_
  refine WL.nil ?_
  refine WE.seq_reg ?_
  refine WL.mv rfl rfl ?_
  refine WL.call TryT.fb13 rfl (Parse_c (l := hexL la) H.yylt (by rw [hexL_len]; omega)) ?_
  rintro v14 w2 ⟨hO, hok14, -⟩
  obtain ⟨s4, rfl, hs4⟩ := hok14 (hexL_ok la)
  rw [par_hex] at hs4
  replace H := (H.out hO).add hs4
  refine WL.mv rfl rfl ?_
  refine WL.pv (PV.extract rfl rfl rfl) rfl ?_
  refine WL.pv (PV.extract rfl rfl rfl) rfl ?_
  refine WL.as rfl rfl ?_
  refine WL.as rfl rfl ?_
  refine WL.nil ?_
  refine WE.seq_reg ?_
  refine WL.call TryT.fb10 rfl (alive02_c H.yylt) ?_
  rintro _ w3 ⟨rfl, hO⟩
  replace H := H.out hO
  refine WL.mv rfl rfl ?_
  refine WL.known (t := 18) (c := true) rfl (by rfl) ?_
  refine WL.mv rfl rfl ?_
  refine WL.mv rfl rfl ?_
  refine WL.call TryT.fb14 rfl (refHex_c (la := la) H.yylt (by exact (H.rob 1 rfl : Rob _ (SlB s la) _)) (by omega)) ?_
  rintro _ w4 ⟨rfl, hO⟩
  replace H := H.out hO
  refine WL.pv (PV.eqlStr (l := hexL la) (m := hexL la) rfl rfl rfl) rfl ?_
  refine WL.pv (PV.pick_t rfl rfl rfl) rfl ?_
  refine WL.mv rfl rfl ?_
  refine WL.known (t := 24) (c := true) rfl (by (simp; done)) ?_
  refine WL.mv rfl rfl ?_
  refine WL.mv rfl rfl ?_
  refine WL.call TryT.fb15 rfl (Same_c (la := la) (lb := la) H.yylt (by exact (H.rob 1 rfl : Rob _ (SlB s la) _)) (by exact (H.rob 0 rfl : Rob _ (SlB s4 la) _)) (by omega)) ?_
  rintro _ w5 ⟨rfl, hO⟩
  replace H := H.out hO
  refine WL.pv (PV.pick_t rfl rfl rfl) rfl ?_
  refine WL.mv rfl rfl ?_
  refine WL.known (t := 29) (c := true) rfl (by (simp; done)) ?_
  refine WL.mv rfl rfl ?_
  refine WL.pv (PV.eql rfl rfl rfl) rfl ?_
  refine WL.pv (PV.pick_t rfl rfl rfl) rfl ?_
  refine WL.as rfl rfl ?_
  refine WL.nil ?_
  refine WE.ret ?_
  refine ⟨[_], _, .nil _, ⟨rfl, trivial⟩, ?_⟩
  refine ⟨?_, H.toOut0⟩
  rfl

theorem KeyParsesLong_c {X : Nat → Prop} {w : World} {l : List UInt8} (hX : ∀ b, X b → b < w.heap.size) (hl : 6000 < l.length) :
    Ret Try.prog 5 [strV l].toArray w fun v w' => v = .bool true ∧ Out Nil w w' := by
  refine Ret.of_body (N := 43) Try.func5 rfl rfl (by simp) ?_
  have H := St.begin hX
  refine WE.seq_reg ?_
  refine WL.as rfl rfl ?_
  refine WL.nil ?_
  refine WE.seq ?_
  refine WE.seq_reg ?_
  refine WL.mv rfl rfl ?_
  refine WL.pv (PV.lenStr Try.underlying9 rfl) rfl ?_
  refine WL.pv (PV.gtr rfl rfl rfl) rfl ?_
  refine WL.nil ?_
  refine WE.cond_t' rfl (by simp; omega) ?_
  refine WE.seq_reg ?_
  refine WL.call TryT.fb10 rfl (alive02_c H.yylt) ?_
  rintro _ w1 ⟨rfl, hO⟩
  replace H := H.out hO
  refine WL.as rfl rfl ?_
  refine WL.nil ?_
  refine WE.ret ?_
  refine ⟨[_], _, .nil _, ⟨rfl, trivial⟩, ?_⟩
  refine ⟨?_, H.toOut0⟩
  rfl

theorem KeyParsesOk_c {X : Nat → Prop} {w : World} {l : List UInt8} (hX : ∀ b, X b → b < w.heap.size) (hl : l.length ≤ 6000) (hok : okS l) :
    Ret Try.prog 5 [strV l].toArray w fun v w' => v = .bool true ∧ Out Nil w w' := by
  refine Ret.of_body (N := 43) Try.func5 rfl rfl (by simp) ?_
  have H := St.begin hX
  refine WE.seq_reg ?_
  refine WL.as rfl rfl ?_
  refine WL.nil ?_
  refine WE.seq ?_
  refine WE.seq_reg ?_
  refine WL.mv rfl rfl ?_
  refine WL.pv (PV.lenStr Try.underlying9 rfl) rfl ?_
  refine WL.pv (PV.gtr rfl rfl rfl) rfl ?_
  refine WL.nil ?_
  refine WE.cond_f' rfl (by simp; omega) ?_
  refine WE.skip ?_
  refine WE.seq_reg ?_
  refine WL.mv rfl rfl ?_
  refine WL.call TryT.fb13 rfl (Parse_c (l := l) H.yylt (by omega)) ?_
  rintro v13 w1 ⟨hO, hok13, hno13⟩
  obtain ⟨s3, rfl, hs3⟩ := hok13 hok
  replace H := (H.out hO).add hs3
  refine WL.mv rfl rfl ?_
  refine WL.pv (PV.extract rfl rfl rfl) rfl ?_
  refine WL.pv (PV.extract rfl rfl rfl) rfl ?_
  refine WL.as rfl rfl ?_
  refine WL.as rfl rfl ?_
  refine WL.nil ?_
  refine WE.seq_reg ?_
  refine WL.mv rfl rfl ?_
  refine WL.call TryT.fb16 rfl (refParse_c (l := l) H.yylt (by omega)) ?_
  rintro v18 w2 ⟨hO, hok18, hno18⟩
  obtain ⟨s5, rfl, hs5⟩ := hok18 hok
  replace H := (H.out hO).add hs5
  refine WL.mv rfl rfl ?_
  refine WL.pv (PV.extract rfl rfl rfl) rfl ?_
  refine WL.pv (PV.extract rfl rfl rfl) rfl ?_
  refine WL.as rfl rfl ?_
  refine WL.as rfl rfl ?_
  refine WL.nil ?_
  refine WE.seq ?_
  refine WE.seq_reg ?_
  refine WL.mv rfl rfl ?_
  refine WL.pv (PV.not rfl rfl) rfl ?_
  refine WL.nil ?_
  refine WE.cond_f' rfl rfl ?_
  refine WE.skip ?_
  refine WE.seq_reg ?_
  refine WL.call TryT.fb10 rfl (alive02_c H.yylt) ?_
  rintro _ w3 ⟨rfl, hO⟩
  replace H := H.out hO
  refine WL.mv rfl rfl ?_
  refine WL.known (t := 34) (c := true) rfl (by rfl) ?_
  refine WL.mv rfl rfl ?_
  refine WL.mv rfl rfl ?_
  refine WL.call TryT.fb15 rfl (Same_c (la := parL l) (lb := parL l) H.yylt (by exact (H.rob 1 rfl : Rob _ (SlB s3 (parL l)) _)) (by exact (H.rob 0 rfl : Rob _ (SlB s5 (parL l)) _)) (by simp [parL, fullL]; omega)) ?_
  rintro _ w4 ⟨rfl, hO⟩
  replace H := H.out hO
  refine WL.pv (PV.pick_t rfl rfl rfl) rfl ?_
  refine WL.mv rfl rfl ?_
  refine WL.known (t := 39) (c := true) rfl (by (simp; done)) ?_
  refine WL.mv rfl rfl ?_
  refine WL.pv (PV.eql rfl rfl rfl) rfl ?_
  refine WL.pv (PV.pick_t rfl rfl rfl) rfl ?_
  refine WL.as rfl rfl ?_
  refine WL.nil ?_
  refine WE.ret ?_
  refine ⟨[_], _, .nil _, ⟨rfl, trivial⟩, ?_⟩
  refine ⟨?_, H.toOut0⟩
  rfl

theorem KeyParsesNo_c {X : Nat → Prop} {w : World} {l : List UInt8} (hX : ∀ b, X b → b < w.heap.size) (hl : l.length ≤ 6000) (hok : ¬ okS l) :
    Ret Try.prog 5 [strV l].toArray w fun v w' => v = .bool true ∧ Out Nil w w' := by
  refine Ret.of_body (N := 43) Try.func5 rfl rfl (by simp) ?_
  have H := St.begin hX
  refine WE.seq_reg ?_
  refine WL.as rfl rfl ?_
  refine WL.nil ?_
  refine WE.seq ?_
  refine WE.seq_reg ?_
  refine WL.mv rfl rfl ?_
  refine WL.pv (PV.lenStr Try.underlying9 rfl) rfl ?_
  refine WL.pv (PV.gtr rfl rfl rfl) rfl ?_
  refine WL.nil ?_
  refine WE.cond_f' rfl (by simp; omega) ?_
  refine WE.skip ?_
  refine WE.seq_reg ?_
  refine WL.mv rfl rfl ?_
  refine WL.call TryT.fb13 rfl (Parse_c (l := l) H.yylt (by omega)) ?_
  rintro v13 w1 ⟨hO, hok13, hno13⟩
  obtain rfl := hno13 hok
  replace H := H.out hO
  refine WL.mv rfl rfl ?_
  refine WL.pv (PV.extract rfl rfl rfl) rfl ?_
  refine WL.pv (PV.extract rfl rfl rfl) rfl ?_
  refine WL.as rfl rfl ?_
  refine WL.as rfl rfl ?_
  refine WL.nil ?_
  refine WE.seq_reg ?_
  refine WL.mv rfl rfl ?_
  refine WL.call TryT.fb16 rfl (refParse_c (l := l) H.yylt (by omega)) ?_
  rintro v18 w2 ⟨hO, hok18, hno18⟩
  obtain rfl := hno18 hok
  replace H := H.out hO
  refine WL.mv rfl rfl ?_
  refine WL.pv (PV.extract rfl rfl rfl) rfl ?_
  refine WL.pv (PV.extract rfl rfl rfl) rfl ?_
  refine WL.as rfl rfl ?_
  refine WL.as rfl rfl ?_
  refine WL.nil ?_
  refine WE.seq ?_
  refine WE.seq_reg ?_
  refine WL.mv rfl rfl ?_
  refine WL.pv (PV.not rfl rfl) rfl ?_
  refine WL.nil ?_
  refine WE.cond_t' rfl rfl ?_
  refine WE.seq_reg ?_
  refine WL.call TryT.fb10 rfl (alive02_c H.yylt) ?_
  rintro _ w3 ⟨rfl, hO⟩
  replace H := H.out hO
  refine WL.mv rfl rfl ?_
  refine WL.known (t := 24) (c := true) rfl (by rfl) ?_
  refine WL.mv rfl rfl ?_
  refine WL.pv (PV.lenS (SlC.nil w 1) TryT.sl22 rfl) rfl ?_
  refine WL.pv (PV.eql rfl rfl rfl) rfl ?_
  refine WL.pv (PV.pick_t rfl rfl rfl) rfl ?_
  refine WL.mv rfl rfl ?_
  refine WL.known (t := 29) (c := true) rfl (by rfl) ?_
  refine WL.mv rfl rfl ?_
  refine WL.pv (PV.eql rfl rfl rfl) rfl ?_
  refine WL.pv (PV.pick_t rfl rfl rfl) rfl ?_
  refine WL.as rfl rfl ?_
  refine WL.nil ?_
  refine WE.ret ?_
  refine ⟨[_], _, .nil _, ⟨rfl, trivial⟩, ?_⟩
  refine ⟨?_, H.toOut0⟩
  rfl

theorem KeyChecksBad_c {X : Nat → Prop} {w : World} {s : Value} {ks : List (List UInt8)} (hX : ∀ b, X b → b < w.heap.size) (hf0 : Rob X (SlK s ks) w) (hlen : 300 < ks.length) :
    Ret Try.prog 6 [s].toArray w fun v w' => v = .bool true ∧ Out Nil w w' := by
  refine Ret.of_body (N := 15) Try.func6 rfl rfl (by simp) ?_
  have H := St.begin hX
  replace H := H.add (rob0 hf0)
  refine WE.seq_reg ?_
  refine WL.as rfl rfl ?_
  refine WL.nil ?_
  refine WE.seq ?_
  refine WE.seq_reg ?_
  refine WL.mv rfl rfl ?_
  refine WL.pv (PV.lenS (by exact (H.p 0 rfl : (SlK s ks) _)) TryT.sl38 rfl) rfl ?_
  refine WL.pv (PV.gtr rfl rfl rfl) rfl ?_
  refine WL.nil ?_
  refine WE.cond_t' rfl (by simp; omega) ?_
  refine WE.seq_reg ?_
  refine WL.call TryT.fb10 rfl (alive02_c H.yylt) ?_
  rintro _ w1 ⟨rfl, hO⟩
  replace H := H.out hO
  refine WL.as rfl rfl ?_
  refine WL.nil ?_
  refine WE.ret ?_
  refine ⟨[_], _, .nil _, ⟨rfl, trivial⟩, ?_⟩
  refine ⟨?_, H.toOut0⟩
  rfl


theorem one_flat (ks : List (List UInt8)) : oneAll (ks.flatMap kc) := fun v hv => by
  obtain ⟨k, _, h⟩ := List.mem_flatMap.1 hv
  exact kc_one k v h

theorem KeyChecksGood_c {X : Nat → Prop} {w : World} {s : Value} {ks : List (List UInt8)} (hX : ∀ b, X b → b < w.heap.size) (hf0 : Rob X (SlK s ks) w) (hkl : K32 ks) (hlen : ks.length ≤ 300) :
    Ret Try.prog 6 [s].toArray w fun v w' => v = .bool true ∧ Out Nil w w' := by
  refine Ret.of_body (N := 15) Try.func6 rfl rfl (by simp) ?_
  have H := St.begin hX
  replace H := H.add (rob0 hf0)
  refine WE.seq_reg ?_
  refine WL.as rfl rfl ?_
  refine WL.nil ?_
  refine WE.seq ?_
  refine WE.seq_reg ?_
  refine WL.mv rfl rfl ?_
  refine WL.pv (PV.lenS (by exact (H.p 0 rfl : (SlK s ks) _)) TryT.sl38 rfl) rfl ?_
  refine WL.pv (PV.gtr rfl rfl rfl) rfl ?_
  refine WL.nil ?_
  refine WE.cond_f' rfl (by simp; omega) ?_
  refine WE.skip ?_
  refine WE.seq_reg ?_
  refine WL.call TryT.fb10 rfl (alive02_c H.yylt) ?_
  rintro _ w1 ⟨rfl, hO⟩
  replace H := H.out hO
  refine WL.mv rfl rfl ?_
  refine WL.known (t := 8) (c := true) rfl (by rfl) ?_
  refine WL.mv rfl rfl ?_
  refine WL.call TryT.fb17 rfl (Check_c (ks := ks) H.yylt (by exact (H.rob 0 rfl : Rob _ (SlK s ks) _)) hkl (by omega)) ?_
  rintro _ w2 ⟨rfl, hO⟩
  replace H := H.out hO
  refine WL.mv rfl rfl ?_
  refine WL.call TryT.fb18 rfl (refCheck_c (ks := ks) H.yylt (by exact (H.rob 0 rfl : Rob _ (SlK s ks) _)) hkl (by omega)) ?_
  rintro _ w3 ⟨rfl, hO⟩
  replace H := H.out hO
  refine WL.pv (PV.eql rfl rfl rfl) rfl ?_
  refine WL.pv (PV.pick_t rfl rfl rfl) rfl ?_
  refine WL.as rfl rfl ?_
  refine WL.nil ?_
  refine WE.ret ?_
  refine ⟨[_], _, .nil _, ⟨rfl, trivial⟩, ?_⟩
  refine ⟨?_, H.toOut0⟩
  (show Value.bool _ = Value.bool true; (simp; done))

theorem CloneK_c {X : Nat → Prop} {w : World} {s : Value} {ks : List (List UInt8)} (hX : ∀ b, X b → b < w.heap.size) (hf0 : Rob X (SlK s ks) w) (hkl : K32 ks) (hlen : ks.length ≤ 1000000) :
    Ret Try.prog 23 [s].toArray w fun v w' => Out Nil w w' ∧ Rob X (SlK v ks) w' := by
  refine Ret.of_body (N := 8) Try.func23 rfl rfl (by simp) ?_
  have H := St.begin hX
  replace H := H.add (rob0 hf0)
  refine WE.seq_reg ?_
  refine WL.as rfl rfl ?_
  refine WL.nil ?_
  refine WE.seq ?_
  refine WE.seq_reg ?_
  refine WL.mv rfl rfl ?_
  refine WL.pv (PV.eqlSn rfl (H.p 0 rfl : SlK s ks _) TryT.sl38 rfl rfl) rfl ?_
  refine WL.nil ?_
  refine WE.cond rfl (fun hc4 => ?_) (fun hc4 => ?_)
  · skip
    try simp only [decide_eq_true_eq, decide_eq_false_iff_not, ne_eq, Decidable.not_not, Bool.not_eq_true', Bool.not_eq_false', Bool.and_eq_true, Bool.or_eq_true, Bool.not_not, Bool.and_eq_false_iff, Bool.or_eq_false_iff, Int.not_lt, Int.not_le] at hc4
    have h0 : ks = [] := List.eq_nil_of_length_eq_zero (SlC.nilLen (H.p 0 rfl : SlK s ks _) hc4)
    subst h0
    refine WE.seq_reg ?_
    refine WL.as rfl rfl ?_
    refine WL.nil ?_
    refine WE.ret ?_
    refine ⟨[_], _, .nil _, ⟨rfl, trivial⟩, ?_⟩
    exact ⟨H.toOut0, fun _ _ => SlC.nil _ 32⟩
  · skip
    try simp only [decide_eq_true_eq, decide_eq_false_iff_not, ne_eq, Decidable.not_not, Bool.not_eq_true', Bool.not_eq_false', Bool.and_eq_true, Bool.or_eq_true, Bool.not_not, Bool.and_eq_false_iff, Bool.or_eq_false_iff, Int.not_lt, Int.not_le] at hc4
    refine WE.skip ?_
    refine WE.seq_reg ?_
    refine WL.buildSliceF (l0 := []) H rfl TryT.st38 (by decide) (by rfl) Fl.nil rfl ?_
    intro b5 w1 H
    replace H := H.toOsl (n := 0) (sz := 32) (i := 0) rfl rfl (by decide)
    refine WL.mv rfl rfl ?_
    refine WL.append H 0 TryT.st38 (by decide) rfl rfl rfl (H.p 0 rfl : SlK s ks _) (one_flat _) (by omega) (by decide) rfl ?_
    intro v7 w2 H
    refine WL.as rfl rfl ?_
    refine WL.nil ?_
    refine WE.ret ?_
    refine ⟨[_], _, .nil _, ⟨rfl, trivial⟩, ?_⟩
    exact ⟨H.toOut0, (rob_own hX (H.l 0 rfl)).imp fun _ h => by have h_ := SlC.of_own h; rw [Nat.zero_add, List.nil_append] at h_; exact h_⟩

theorem KeySortsBad_c {X : Nat → Prop} {w : World} {s : Value} {ks : List (List UInt8)} (hX : ∀ b, X b → b < w.heap.size) (hf0 : Rob X (SlK s ks) w) (hlen : 100 < ks.length) :
    Ret Try.prog 8 [s].toArray w fun v w' => v = .bool true ∧ Out Nil w w' := by
  refine Ret.of_body (N := 30) Try.func8 rfl rfl (by simp) ?_
  have H := St.begin hX
  replace H := H.add (rob0 hf0)
  refine WE.seq_reg ?_
  refine WL.as rfl rfl ?_
  refine WL.nil ?_
  refine WE.seq ?_
  refine WE.seq_reg ?_
  refine WL.mv rfl rfl ?_
  refine WL.pv (PV.lenS (by exact (H.p 0 rfl : (SlK s ks) _)) TryT.sl38 rfl) rfl ?_
  refine WL.pv (PV.gtr rfl rfl rfl) rfl ?_
  refine WL.nil ?_
  refine WE.cond_t' rfl (by simp; omega) ?_
  refine WE.seq_reg ?_
  refine WL.call TryT.fb10 rfl (alive02_c H.yylt) ?_
  rintro _ w1 ⟨rfl, hO⟩
  replace H := H.out hO
  refine WL.as rfl rfl ?_
  refine WL.nil ?_
  refine WE.ret ?_
  refine ⟨[_], _, .nil _, ⟨rfl, trivial⟩, ?_⟩
  refine ⟨?_, H.toOut0⟩
  rfl

theorem KeySortsGood_c {X : Nat → Prop} {w : World} {s : Value} {ks : List (List UInt8)} (hX : ∀ b, X b → b < w.heap.size) (hf0 : Rob X (SlK s ks) w) (hkl : K32 ks) (hlen : ks.length ≤ 100) :
    Ret Try.prog 8 [s].toArray w fun v w' => v = .bool true ∧ Out Nil w w' := by
  refine Ret.of_body (N := 30) Try.func8 rfl rfl (by simp) ?_
  have H := St.begin hX
  replace H := H.add (rob0 hf0)
  have hsf := sortR_full ks hkl
  have hsl : (sortR ks).length ≤ 1000000 := by have h_ := sortR_len ks ks.length (Nat.le_refl _); rw [List.take_length] at h_; omega
  refine WE.seq_reg ?_
  refine WL.as rfl rfl ?_
  refine WL.nil ?_
  refine WE.seq ?_
  refine WE.seq_reg ?_
  refine WL.mv rfl rfl ?_
  refine WL.pv (PV.lenS (by exact (H.p 0 rfl : (SlK s ks) _)) TryT.sl38 rfl) rfl ?_
  refine WL.pv (PV.gtr rfl rfl rfl) rfl ?_
  refine WL.nil ?_
  refine WE.cond_f' rfl (by simp; omega) ?_
  refine WE.skip ?_
  refine WE.seq_reg ?_
  refine WL.mv rfl rfl ?_
  refine WL.call TryT.fb23 rfl (CloneK_c (ks := ks) H.yylt (by exact (H.rob 0 rfl : Rob _ (SlK s ks) _)) hkl (by omega)) ?_
  rintro v10 w1 ⟨hO, hR⟩
  replace H := (H.out hO).add (show Rob _ (SlK v10 ks) _ from hR)
  refine WL.as rfl rfl ?_
  refine WL.nil ?_
  refine WE.seq_reg ?_
  refine WL.mv rfl rfl ?_
  refine WL.call TryT.fb24 rfl (Sort_c (ks := ks) H.yylt (by exact (H.rob 0 rfl : Rob _ (SlK v10 ks) _)) hkl (by omega)) ?_
  rintro v12 w2 ⟨hO, hOwn⟩
  have hR_ := (rob_own H.yylt hOwn).imp fun _ h => SlC.of_own h
  rw [sort_eq ks hkl] at hR_
  replace H := (H.out hO).add (show Rob _ (SlK v12 (sortR ks)) _ from hR_)
  refine WL.as rfl rfl ?_
  refine WL.nil ?_
  refine WE.seq_reg ?_
  refine WL.call TryT.fb10 rfl (alive02_c H.yylt) ?_
  rintro _ w3 ⟨rfl, hO⟩
  replace H := H.out hO
  refine WL.mv rfl rfl ?_
  refine WL.known (t := 14) (c := true) rfl (by rfl) ?_
  refine WL.mv rfl rfl ?_
  refine WL.mv rfl rfl ?_
  refine WL.call TryT.fb19 rfl (refSort_c (ks := ks) H.yylt (by exact (H.rob 2 rfl : Rob _ (SlK s ks) _)) hkl (by omega)) ?_
  rintro v17 w4 ⟨hO, hOwn⟩
  have hR_ := (rob_own H.yylt hOwn).imp fun _ h => SlC.of_own h
  replace H := (H.out hO).add (show Rob _ (SlK v17 (sortR ks)) _ from hR_)
  refine WL.call TryT.fb25 rfl (EqK_c (ks := (sortR ks)) H.yylt (by exact (H.rob 1 rfl : Rob _ (SlK v12 (sortR ks)) _)) (by exact (H.rob 0 rfl : Rob _ (SlK v17 (sortR ks)) _)) hsf.2.1 hsl) ?_
  rintro _ w5 ⟨rfl, hO⟩
  replace H := H.out hO
  refine WL.pv (PV.pick_t rfl rfl rfl) rfl ?_
  refine WL.mv rfl rfl ?_
  refine WL.known (t := 20) (c := true) rfl (by rfl) ?_
  refine WL.mv rfl rfl ?_
  refine WL.mv rfl rfl ?_
  refine WL.call TryT.fb25 rfl (EqK_c (ks := ks) H.yylt (by exact (H.rob 3 rfl : Rob _ (SlK s ks) _)) (by exact (H.rob 2 rfl : Rob _ (SlK v10 ks) _)) hkl (by omega)) ?_
  rintro _ w6 ⟨rfl, hO⟩
  replace H := H.out hO
  refine WL.pv (PV.pick_t rfl rfl rfl) rfl ?_
  refine WL.mv rfl rfl ?_
  refine WL.known (t := 25) (c := true) rfl (by rfl) ?_
  refine WL.mv rfl rfl ?_
  refine WL.call TryT.fb17 rfl (Check_c (ks := (sortR ks)) H.yylt (by exact (H.rob 1 rfl : Rob _ (SlK v12 (sortR ks)) _)) hsf.2.1 hsl) ?_
  rintro _ w7 ⟨rfl, hO⟩
  replace H := H.out hO
  refine WL.pv (PV.eql rfl rfl rfl) rfl ?_
  refine WL.pv (PV.pick_t rfl rfl rfl) rfl ?_
  refine WL.as rfl rfl ?_
  refine WL.nil ?_
  refine WE.ret ?_
  refine ⟨[_], _, .nil _, ⟨rfl, trivial⟩, ?_⟩
  refine ⟨?_, H.toOut0⟩
  show Value.bool _ = Value.bool true
  congr 1; exact decide_eq_true (chkK_lt _ hsf.1)


theorem bits_mono {l : List (List UInt8)} {k : List UInt8} {d : Nat} (hlt : LtK l) (hk : K32 l) (hkk : k.length = 32) (hd : d < 256) (hc : ∀ x ∈ l, d ≤ comN x k) {i j : Nat} (hij : i < j) (hj : j < l.length) (h1 : bitN (l[i]'(by omega)) d = 1) : bitN l[j] d = 1 := by
  have hi : i < l.length := by omega
  have a1 := hk _ (List.getElem_mem hi)
  have a2 := hk _ (List.getElem_mem hj)
  have hn := List.pairwise_iff_getElem.1 hlt i j hi hj hij
  have hb := bitN_lt l[j] d
  rcases (show bitN l[j] d = 0 ∨ bitN l[j] d = 1 by omega) with h0 | h0
  · have p1 := (pre_com a1 hkk d (by omega)).2 (hc _ (List.getElem_mem hi))
    have p2 := (pre_com a2 hkk d (by omega)).2 (hc _ (List.getElem_mem hj))
    have := lt_of_bit a2 a1 hd (p2.trans p1.symm) h0 h1
    omega
  · exact h0
theorem split_ok {l : List (List UInt8)} {k : List UInt8} {d r : Nat} (hlt : LtK l) (hk : K32 l) (hkk : k.length = 32) (hd : d < 256) (hc : ∀ x ∈ l, d ≤ comN x k) (hr : r ≤ l.length) (hlo : ∀ i (h : i < l.length), i + 1 = r → bitN l[i] d ≠ 1) (hhi : ∀ h : r < l.length, bitN l[r] d = 1)
    {j : Nat} (hj : j < l.length) : bitN l[j] d = 0 ↔ j < r := by
  have hb := bitN_lt l[j] d
  constructor
  · intro h0
    rcases Nat.lt_or_ge j r with h | h
    · exact h
    · exfalso
      have h1 : bitN l[j] d = 1 := by
        rcases Nat.lt_or_ge r j with h2 | h2
        · exact bits_mono hlt hk hkk hd hc h2 hj (hhi (by omega))
        · have : j = r := by omega
          subst this; exact hhi hj
      omega
  · intro h
    rcases (show bitN l[j] d = 0 ∨ bitN l[j] d = 1 by omega) with h0 | h0
    · exact h0
    · exfalso
      have h2 := hlo (r - 1) (by omega) (by omega)
      apply h2
      rcases Nat.lt_or_ge j (r - 1) with h3 | h3
      · exact bits_mono hlt hk hkk hd hc h3 (by omega) h0
      · have : j = r - 1 := by omega
        subst this; exact h0
def inK (ks : List (List UInt8)) (k : List UInt8) (d : Nat) : List (List UInt8) := ks.filter fun x => decide (d ≤ comN x k)
theorem inK_snoc {ks : List (List UInt8)} {k : List UInt8} {d i : Nat} (h : i < ks.length) : inK (ks.take (i + 1)) k d = if d ≤ comN ks[i] k then inK (ks.take i) k d ++ [ks[i]] else inK (ks.take i) k d := by
  unfold inK
  rw [List.take_succ_eq_append_getElem h, List.filter_append]
  split
  · rename_i h1; simp [h1]
  · rename_i h1; simp [h1]
theorem inK_len (ks : List (List UInt8)) (k : List UInt8) (d i : Nat) : (inK (ks.take i) k d).length ≤ i := by
  have := List.length_filter_le (fun x => decide (d ≤ comN x k)) (ks.take i)
  rw [List.length_take] at this
  unfold inK; omega
theorem inK_ok {ks : List (List UInt8)} (hlt : LtK ks) (hk : K32 ks) (k : List UInt8) (d : Nat) : LtK (inK ks k d) ∧ K32 (inK ks k d) ∧ ∀ x ∈ inK ks k d, d ≤ comN x k :=
  ⟨hlt.filter _, (fun x hx => hk x (List.mem_filter.1 hx).1), fun x hx => by simpa using (List.mem_filter.1 hx).2⟩

theorem KeySplitsBad_c {X : Nat → Prop} {w : World} {s : Value} {ks : List (List UInt8)} {k : List UInt8} {z : Int} (hX : ∀ b, X b → b < w.heap.size) (hf0 : Rob X (SlK s ks) w) (hbad : 100 < (ks.length : Int) ∨ z < 0 ∨ 255 < z) :
    Ret Try.prog 7 [s, .agg (kc k).toArray, .int .i64 z].toArray w fun v w' => v = .bool true ∧ Out Nil w w' := by
  refine Ret.of_body (N := 70) Try.func7 rfl rfl (by simp) ?_
  have H := St.begin hX
  replace H := H.add (rob0 hf0)
  refine WE.seq_reg ?_
  refine WL.box (l := kc k) H rfl (by rfl) rfl ?_
  intro b4 w1 H
  refine WL.as rfl rfl ?_
  refine WL.nil ?_
  refine WE.seq ?_
  refine WE.seq_reg ?_
  refine WL.mv rfl rfl ?_
  refine WL.pv (PV.lenS (by exact (H.p 0 rfl : (SlK s ks) _)) TryT.sl38 rfl) rfl ?_
  refine WL.pv (PV.gtr rfl rfl rfl) rfl ?_
  refine WL.mv rfl rfl ?_
  refine WL.split (t := 16) rfl (fun hg16 => ?_) (fun hg16 => ?_)
  · skip
    refine WL.known (t := 15) (c := true) rfl hg16 ?_
    try simp only [decide_eq_true_eq, decide_eq_false_iff_not, ne_eq, Decidable.not_not, Bool.not_eq_true', Bool.not_eq_false', Bool.and_eq_true, Bool.or_eq_true, Bool.not_not, Bool.and_eq_false_iff, Bool.or_eq_false_iff, Int.not_lt, Int.not_le] at hg16
    refine WL.off rfl ?_
    refine WL.off rfl ?_
    refine WL.pv (PV.pick_t rfl rfl rfl) rfl ?_
    refine WL.mv rfl rfl ?_
    refine WL.off rfl ?_
    refine WL.off rfl ?_
    refine WL.pv (PV.pick_t rfl rfl rfl) rfl ?_
    refine WL.nil ?_
    refine WE.cond_t rfl ?_
    refine WE.seq_reg ?_
    refine WL.call TryT.fb10 rfl (alive02_c H.yylt) ?_
    rintro _ w2 ⟨rfl, hO⟩
    replace H := H.out hO
    refine WL.as rfl rfl ?_
    refine WL.nil ?_
    refine WE.ret ?_
    refine ⟨[_], _, .nil _, ⟨rfl, trivial⟩, ?_⟩
    refine ⟨?_, H.toOut0⟩
    rfl
  · skip
    refine WL.known (t := 15) (c := false) rfl hg16 ?_
    try simp only [decide_eq_true_eq, decide_eq_false_iff_not, ne_eq, Decidable.not_not, Bool.not_eq_true', Bool.not_eq_false', Bool.and_eq_true, Bool.or_eq_true, Bool.not_not, Bool.and_eq_false_iff, Bool.or_eq_false_iff, Int.not_lt, Int.not_le] at hg16
    refine WL.mv rfl rfl ?_
    refine WL.pv (PV.lss rfl rfl rfl) rfl ?_
    refine WL.pv (PV.pick_f rfl rfl rfl) rfl ?_
    refine WL.mv rfl rfl ?_
    refine WL.split (t := 20) rfl (fun hg20 => ?_) (fun hg20 => ?_)
    · skip
      refine WL.known (t := 19) (c := true) rfl hg20 ?_
      try simp only [decide_eq_true_eq, decide_eq_false_iff_not, ne_eq, Decidable.not_not, Bool.not_eq_true', Bool.not_eq_false', Bool.and_eq_true, Bool.or_eq_true, Bool.not_not, Bool.and_eq_false_iff, Bool.or_eq_false_iff, Int.not_lt, Int.not_le] at hg20
      refine WL.off rfl ?_
      refine WL.off rfl ?_
      refine WL.pv (PV.pick_t rfl rfl rfl) rfl ?_
      refine WL.nil ?_
      refine WE.cond_t rfl ?_
      refine WE.seq_reg ?_
      refine WL.call TryT.fb10 rfl (alive02_c H.yylt) ?_
      rintro _ w3 ⟨rfl, hO⟩
      replace H := H.out hO
      refine WL.as rfl rfl ?_
      refine WL.nil ?_
      refine WE.ret ?_
      refine ⟨[_], _, .nil _, ⟨rfl, trivial⟩, ?_⟩
      refine ⟨?_, H.toOut0⟩
      rfl
    · skip
      refine WL.known (t := 19) (c := false) rfl hg20 ?_
      try simp only [decide_eq_true_eq, decide_eq_false_iff_not, ne_eq, Decidable.not_not, Bool.not_eq_true', Bool.not_eq_false', Bool.and_eq_true, Bool.or_eq_true, Bool.not_not, Bool.and_eq_false_iff, Bool.or_eq_false_iff, Int.not_lt, Int.not_le] at hg20
      refine WL.mv rfl rfl ?_
      refine WL.pv (PV.gtr rfl rfl rfl) rfl ?_
      refine WL.pv (PV.pick_f rfl rfl rfl) rfl ?_
      refine WL.nil ?_
      refine WE.cond_t' rfl (by (simp; omega)) ?_
      refine WE.seq_reg ?_
      refine WL.call TryT.fb10 rfl (alive02_c H.yylt) ?_
      rintro _ w4 ⟨rfl, hO⟩
      replace H := H.out hO
      refine WL.as rfl rfl ?_
      refine WL.nil ?_
      refine WE.ret ?_
      refine ⟨[_], _, .nil _, ⟨rfl, trivial⟩, ?_⟩
      refine ⟨?_, H.toOut0⟩
      rfl

theorem KeySplitsGood_c {X : Nat → Prop} {w : World} {s : Value} {ks : List (List UInt8)} {k : List UInt8} {d : Nat} (hX : ∀ b, X b → b < w.heap.size) (hf0 : Rob X (SlK s ks) w) (hkl : K32 ks) (hlen : ks.length ≤ 100) (hk : k.length = 32) (hd : d < 256) :
    Ret Try.prog 7 [s, .agg (kc k).toArray, .int .i64 (d : Int)].toArray w fun v w' => v = .bool true ∧ Out Nil w w' := by
  refine Ret.of_body (N := 70) Try.func7 rfl rfl (by simp) ?_
  have H := St.begin hX
  replace H := H.add (rob0 hf0)
  have hsf := sortR_full ks hkl
  have hsl : (sortR ks).length ≤ 100 := by have h_ := sortR_len ks ks.length (Nat.le_refl _); rw [List.take_length] at h_; omega
  have hin := inK_ok hsf.1 hsf.2.1 k d
  refine WE.seq_reg ?_
  refine WL.box (l := kc k) H rfl (by rfl) rfl ?_
  intro b4 w1 H
  refine WL.as rfl rfl ?_
  refine WL.nil ?_
  refine WE.seq ?_
  refine WE.seq_reg ?_
  refine WL.mv rfl rfl ?_
  refine WL.pv (PV.lenS (by exact (H.p 0 rfl : (SlK s ks) _)) TryT.sl38 rfl) rfl ?_
  refine WL.pv (PV.gtr rfl rfl rfl) rfl ?_
  refine WL.mv rfl rfl ?_
  refine WL.known (t := 16) (c := false) rfl (by (simp; omega)) ?_
  refine WL.mv rfl rfl ?_
  refine WL.pv (PV.lss rfl rfl rfl) rfl ?_
  refine WL.pv (PV.pick_f rfl rfl rfl) rfl ?_
  refine WL.mv rfl rfl ?_
  refine WL.known (t := 20) (c := false) rfl (by rfl) ?_
  refine WL.mv rfl rfl ?_
  refine WL.pv (PV.gtr rfl rfl rfl) rfl ?_
  refine WL.pv (PV.pick_f rfl rfl rfl) rfl ?_
  refine WL.nil ?_
  refine WE.cond_f' rfl (by (simp; omega)) ?_
  refine WE.skip ?_
  refine WE.seq_reg ?_
  refine WL.as rfl rfl ?_
  refine WL.nil ?_
  refine WE.seq ?_
  refine WE.seq_reg ?_
  refine WL.mv rfl rfl ?_
  refine WL.call TryT.fb19 rfl (refSort_c (ks := ks) H.yylt (by exact (H.rob 0 rfl : Rob _ (SlK s ks) _)) hkl (by omega)) ?_
  rintro v26 w2 ⟨hO, hOwn⟩
  have hR_ := (rob_own H.yylt hOwn).imp fun _ h => SlC.of_own h
  replace H := (H.out hO).add (show Rob _ (SlK v26 (sortR ks)) _ from hR_)
  refine WL.pv (PV.lenS (by exact (H.p 0 rfl : (SlK v26 (sortR ks)) _)) TryT.sl38 rfl) rfl ?_
  refine WL.mv rfl rfl ?_
  refine WL.nil ?_
  refine WE.block ?_
  replace H := H.nilOsl 24 32
  refine WE.loop (α := Nat × Value) [7, 9, 28, 29, 30, 31, 32, 33, 34, 35, 36, 37, 38, 39, 40, 41] (fun p => [(28, .int .i64 (p.1 : Int)), (7, p.2)]) (fun p wl => p.1 ≤ (sortR ks).length ∧ St X w wl [] [Ent.osl w.heap.size p.2 24 32 (((inK ((sortR ks).take p.1) k d)).length) (((inK ((sortR ks).take p.1) k d)).flatMap kc), Ent.blk b4 24 (kc k)] [SlK v26 (sortR ks), SlK s ks]) (fun p => (sortR ks).length - p.1) (0, .slice none 0 0) ⟨rfl, rfl, trivial⟩ ⟨Nat.zero_le _, H⟩ ?_
  intro ⟨i, q_⟩ γ0 w3 hI
  try dsimp only at hI
  obtain ⟨hi, H⟩ := hI
  try dsimp only at hi
  refine WE.seq_reg ?_
  refine WL.pv (PV.lss rfl rfl rfl) rfl ?_
  refine WL.nil ?_
  refine WE.seq ?_
  refine WE.cond rfl (fun hc29 => ?_) (fun hc29 => ?_)
  · skip
    try simp only [decide_eq_true_eq, decide_eq_false_iff_not, ne_eq, Decidable.not_not, Bool.not_eq_true', Bool.not_eq_false', Bool.and_eq_true, Bool.or_eq_true, Bool.not_not, Bool.and_eq_false_iff, Bool.or_eq_false_iff, Int.not_lt, Int.not_le] at hc29
    have hlt : i < (sortR ks).length := by omega
    have hki := hsf.2.1 _ (List.getElem_mem hlt)
    have hS0 := inK_snoc (k := k) (d := d) hlt
    have hil := inK_len (sortR ks) k d i
    refine WE.skip ?_
    refine WE.cut (α := Value) [7, 9, 30, 31, 32, 33, 34, 35, 36, 37, 38, 39, 40] (fun g1_ => [(7, g1_)]) (fun g1_ wl => St X w wl [] [Ent.osl w.heap.size g1_ 24 32 (((inK ((sortR ks).take (i + 1)) k d)).length) (((inK ((sortR ks).take (i + 1)) k d)).flatMap kc), Ent.blk b4 24 (kc k)] [SlK v26 (sortR ks), SlK s ks]) ?_ ?_
    · skip
      refine WE.block ?_
      refine WE.seq_reg ?_
      refine WL.pv (PV.idxS rfl (by exact (H.p 0 rfl : (SlK v26 (sortR ks)) _)) TryT.sl38 TryT.sz24 rfl rfl (by omega) (by omega)) rfl ?_
      refine WL.loadR rfl TryT.ag24 rfl rfl (SlK.rd (by exact (H.p 0 rfl : (SlK v26 (sortR ks)) _)) hsf.2.1 i hlt) (by (rw [TryT.sz24]; refine congrArg some ?_; (simp only [kc_length, kw_length, List.length_replicate, List.length_append, List.length_cons, List.length_nil]; omega))) ?_
      refine WL.alloc H rfl TryT.ze24 rfl ?_
      intro b9 w4 H
      refine WL.storeL H 0 rfl rfl rfl (new := kc (sortR ks)[i]) rfl (by (rw [TryT.sz24]; refine congrArg some ?_; (simp only [kc_length, kw_length, List.length_replicate, List.length_append, List.length_cons, List.length_nil]; omega))) (by exact kc_one _) (Laid.at (Laid.all (by (simp only [kc_length, kw_length, List.length_replicate, List.length_append, List.length_cons, List.length_nil]; omega))) (by rfl)) rfl ?_
      intro w5 H
      refine WL.nil ?_
      refine WE.seq_reg ?_
      refine WL.loadR rfl TryT.ag24 rfl rfl (by exact Blk.segAt (H.l 0 rfl) (Seg.all _) (by rfl)) (by (rw [TryT.sz24]; refine congrArg some ?_; (simp only [kc_length, kw_length, List.length_replicate, List.length_append, List.length_cons, List.length_nil]; omega))) ?_
      refine WL.loadR rfl TryT.ag24 rfl rfl (by exact Blk.segAt (H.l 2 rfl) (Seg.all _) (by rfl)) (by (rw [TryT.sz24]; refine congrArg some ?_; (simp only [kc_length, kw_length, List.length_replicate, List.length_append, List.length_cons, List.length_nil]; omega))) ?_
      refine WL.call TryT.fb20 rfl (refCommon_c (a := (sortR ks)[i]) (b := k) H.yylt  hki hk) ?_
      rintro _ w6 ⟨rfl, hO⟩
      replace H := H.out hO
      refine WL.mv rfl rfl ?_
      refine WL.pv (PV.geq rfl rfl rfl) rfl ?_
      refine WL.nil ?_
      refine WE.cond rfl (fun hc36 => ?_) (fun hc36 => ?_)
      · skip
        try simp only [decide_eq_true_eq, decide_eq_false_iff_not, ne_eq, Decidable.not_not, Bool.not_eq_true', Bool.not_eq_false', Bool.and_eq_true, Bool.or_eq_true, Bool.not_not, Bool.and_eq_false_iff, Bool.or_eq_false_iff, Int.not_lt, Int.not_le] at hc36
        have hS : (inK ((sortR ks).take (i + 1)) k d) = (inK ((sortR ks).take i) k d) ++ [(sortR ks)[i]] := by rw [hS0, if_pos (by omega)]
        refine WE.reg ?_
        refine WL.mv rfl rfl ?_
        refine WL.loadR rfl TryT.ag24 rfl rfl (by exact Blk.segAt (H.l 0 rfl) (Seg.all _) (by rfl)) (by (rw [TryT.sz24]; refine congrArg some ?_; (simp only [kc_length, kw_length, List.length_replicate, List.length_append, List.length_cons, List.length_nil]; omega))) ?_
        refine WL.buildSliceF (l0 := (kc (List.replicate 32 0))) H rfl TryT.st38 (by decide) (by rfl) (Fl.cons rfl (by rfl) (by (simp only [kc_length, kw_length, List.length_replicate, List.length_append, List.length_cons, List.length_nil]; omega)) (Laid.all (by (simp only [kc_length, kw_length, List.length_replicate, List.length_append, List.length_cons, List.length_nil]; omega))) Fl.nil) rfl ?_
        intro b39 w7 H
        refine WL.append (m := 1) H 2 TryT.st38 (by decide) rfl rfl rfl (SlC.of_blk (n := 1) (H.l 0 rfl) (by rw [kc_length]; exact hki)) (kc_one _) (by omega) (by decide) rfl ?_
        intro v40 w8 H
        have hSl := congrArg List.length hS
        rw [List.length_append, List.length_singleton] at hSl
        have hSf := congrArg (List.flatMap kc) hS
        rw [List.flatMap_append, List.flatMap_singleton] at hSf
        replace H := H.forget 0
        replace H := H.conv (L' := [Ent.blk b9 24 (kc (sortR ks)[i]), Ent.osl w.heap.size v40 24 32 (((inK ((sortR ks).take (i + 1)) k d)).length) (((inK ((sortR ks).take (i + 1)) k d)).flatMap kc), Ent.blk b4 24 (kc k)]) (by rw [hSl, hSf]; rfl)
        refine WL.as rfl rfl ?_
        refine WL.nil ?_
        replace H := H.forget 0
        exact ⟨v40, (by repeat (first | with_reducible exact Off.refl _ _ | refine Off.upd rfl ?_)), ⟨rfl, trivial⟩, rfl, H⟩
      · skip
        try simp only [decide_eq_true_eq, decide_eq_false_iff_not, ne_eq, Decidable.not_not, Bool.not_eq_true', Bool.not_eq_false', Bool.and_eq_true, Bool.or_eq_true, Bool.not_not, Bool.and_eq_false_iff, Bool.or_eq_false_iff, Int.not_lt, Int.not_le] at hc36
        have hS : (inK ((sortR ks).take (i + 1)) k d) = (inK ((sortR ks).take i) k d) := by rw [hS0, if_neg (by omega)]
        refine WE.skip ?_
        replace H := H.forget 0
        exact ⟨q_, (by repeat (first | with_reducible exact Off.refl _ _ | refine Off.upd rfl ?_)), ⟨rfl, trivial⟩, rfl, H.conv (by rw [hS]; rfl)⟩
    · skip
      intro g1_ γ w9 hI
      try dsimp only at hI
      replace H := hI
      refine WE.reg ?_
      refine WL.pv (PV.eq (v' := .int .i64 ((i + 1 : Nat) : Int)) (PV.add64 rfl rfl rfl (by omega) (by omega)) (by rfl)) rfl ?_
      refine WL.mv rfl rfl ?_
      refine WL.nil ?_
      exact ⟨(i + 1, g1_), (by repeat (first | with_reducible exact Off.refl _ _ | refine Off.upd rfl ?_ | refine Off.setAll rfl ?_ | refine Off.forget' rfl ?_)), ⟨rfl, rfl, trivial⟩, rfl, ⟨by dsimp only; omega, H⟩, (by dsimp only; omega)⟩
  · skip
    try simp only [decide_eq_true_eq, decide_eq_false_iff_not, ne_eq, Decidable.not_not, Bool.not_eq_true', Bool.not_eq_false', Bool.and_eq_true, Bool.or_eq_true, Bool.not_not, Bool.and_eq_false_iff, Bool.or_eq_false_iff, Int.not_lt, Int.not_le] at hc29
    have hie : (sortR ks).take i = (sortR ks) := List.take_of_length_le (by omega)
    refine WE.exit ?_
    refine WE.seq_reg ?_
    refine WL.mv rfl rfl ?_
    refine WL.mv rfl rfl ?_
    replace H := H.freeze (i := 0) rfl
    replace H := H.add (show Rob _ (SlK q_ (inK (sortR ks) k d)) _ from (H.rob 0 rfl).imp fun _ h => by rw [hie] at h; exact SlC.of_own h)
    have hinl : (inK (sortR ks) k d).length ≤ 100 := by have h_ := inK_len (sortR ks) k d (sortR ks).length; rw [List.take_length] at h_; omega
    refine WL.call TryT.fb21 rfl (Split_c (ks := (inK (sortR ks) k d)) (d := d) H.yylt (by exact (H.rob 0 rfl : Rob _ (SlK q_ (inK (sortR ks) k d)) _)) hin.2.1 (by omega) hd) ?_
    rintro _ w10 ⟨n44, rfl, hO, hn44, hlo44, hhi44⟩
    replace H := H.out hO
    refine WL.as rfl rfl ?_
    refine WL.nil ?_
    refine WE.seq ?_
    refine WE.seq_reg ?_
    refine WL.mv rfl rfl ?_
    refine WL.pv (PV.lss rfl rfl rfl) rfl ?_
    refine WL.mv rfl rfl ?_
    refine WL.known (t := 47) (c := false) rfl (by rfl) ?_
    refine WL.mv rfl rfl ?_
    refine WL.mv rfl rfl ?_
    refine WL.pv (PV.lenS (by exact (H.p 0 rfl : (SlK q_ (inK (sortR ks) k d)) _)) TryT.sl38 rfl) rfl ?_
    refine WL.pv (PV.gtr rfl rfl rfl) rfl ?_
    refine WL.pv (PV.pick_f rfl rfl rfl) rfl ?_
    refine WL.nil ?_
    refine WE.cond_f' rfl (by (simp; omega)) ?_
    refine WE.skip ?_
    refine WE.seq ?_
    refine WE.seq_reg ?_
    refine WL.mv rfl rfl ?_
    refine WL.pv (PV.lenS (by exact (H.p 0 rfl : (SlK q_ (inK (sortR ks) k d)) _)) TryT.sl38 rfl) rfl ?_
    refine WL.mv rfl rfl ?_
    refine WL.nil ?_
    refine WE.block ?_
    replace H := H.sel [0, 3]
    refine WE.loop (α := Nat) [6, 11, 12, 55, 56, 57, 58, 59, 60, 61, 62, 63, 64, 65, 66, 67, 68] (fun j => [(55, .int .i64 (j : Int))]) (fun j wl => j ≤ (inK (sortR ks) k d).length ∧ St X w wl [] [Ent.blk b4 24 (kc k)] [SlK q_ (inK (sortR ks) k d), SlK s ks]) (fun j => (inK (sortR ks) k d).length - j) 0 ⟨rfl, trivial⟩ ⟨Nat.zero_le _, H⟩ ?_
    intro j γ1 w11 hI
    try dsimp only at hI
    obtain ⟨hj, H⟩ := hI
    refine WE.seq_reg ?_
    refine WL.pv (PV.lss rfl rfl rfl) rfl ?_
    refine WL.nil ?_
    refine WE.seq ?_
    refine WE.cond rfl (fun hc56 => ?_) (fun hc56 => ?_)
    · skip
      try simp only [decide_eq_true_eq, decide_eq_false_iff_not, ne_eq, Decidable.not_not, Bool.not_eq_true', Bool.not_eq_false', Bool.and_eq_true, Bool.or_eq_true, Bool.not_not, Bool.and_eq_false_iff, Bool.or_eq_false_iff, Int.not_lt, Int.not_le] at hc56
      have hlt2 : j < (inK (sortR ks) k d).length := by omega
      have hkj := hin.2.1 _ (List.getElem_mem hlt2)
      have hbj := split_ok hin.1 hin.2.1 hk hd hin.2.2 hn44 hlo44 hhi44 hlt2
      refine WE.skip ?_
      refine WE.seq ?_
      refine WE.block ?_
      refine WE.seq_reg ?_
      refine WL.mv rfl rfl ?_
      refine WL.pv (PV.idxS rfl (by exact (H.p 0 rfl : (SlK q_ (inK (sortR ks) k d)) _)) TryT.sl38 TryT.sz24 rfl rfl (by omega) (by omega)) rfl ?_
      refine WL.loadR rfl TryT.ag24 rfl rfl (SlK.rd (by exact (H.p 0 rfl : (SlK q_ (inK (sortR ks) k d)) _)) hin.2.1 j hlt2) (by (rw [TryT.sz24]; refine congrArg some ?_; (simp only [kc_length, kw_length, List.length_replicate, List.length_append, List.length_cons, List.length_nil]; omega))) ?_
      refine WL.alloc H rfl TryT.ze24 rfl ?_
      intro b12 w12 H
      refine WL.as rfl rfl ?_
      refine WL.storeL H 0 rfl rfl rfl (new := kc (inK (sortR ks) k d)[j]) rfl (by (rw [TryT.sz24]; refine congrArg some ?_; (simp only [kc_length, kw_length, List.length_replicate, List.length_append, List.length_cons, List.length_nil]; omega))) (by exact kc_one _) (Laid.at (Laid.all (by (simp only [kc_length, kw_length, List.length_replicate, List.length_append, List.length_cons, List.length_nil]; omega))) (by rfl)) rfl ?_
      intro w13 H
      refine WL.nil ?_
      refine WE.seq_reg ?_
      refine WL.loadR rfl TryT.ag24 rfl rfl (by exact Blk.segAt (H.l 0 rfl) (Seg.all _) (by rfl)) (by (rw [TryT.sz24]; refine congrArg some ?_; (simp only [kc_length, kw_length, List.length_replicate, List.length_append, List.length_cons, List.length_nil]; omega))) ?_
      refine WL.mv rfl rfl ?_
      refine WL.call TryT.fb22 rfl (refBitN_c (k := (inK (sortR ks) k d)[j]) (d := d) H.yylt  hkj hd) ?_
      rintro _ w14 ⟨rfl, hO⟩
      replace H := H.out hO
      refine WL.pv (PV.eql rfl rfl rfl) rfl ?_
      refine WL.mv rfl rfl ?_
      refine WL.mv rfl rfl ?_
      refine WL.pv (PV.lss rfl rfl rfl) rfl ?_
      refine WL.pv (PV.neqb rfl TryT.bo4 rfl rfl) rfl ?_
      refine WL.nil ?_
      refine WE.cond_f' rfl (by by_cases h_ : j < n44 <;> simp [h_, hbj]) ?_
      refine WE.skip ?_
      refine WE.reg ?_
      refine WL.pv (PV.eq (v' := .int .i64 ((j + 1 : Nat) : Int)) (PV.add64 rfl rfl rfl (by omega) (by omega)) (by rfl)) rfl ?_
      refine WL.mv rfl rfl ?_
      refine WL.nil ?_
      replace H := H.forget 0
      exact ⟨j + 1, (by repeat (first | with_reducible exact Off.refl _ _ | refine Off.upd rfl ?_ | refine Off.setAll rfl ?_ | refine Off.forget' rfl ?_)), ⟨rfl, trivial⟩, rfl, ⟨by omega, H⟩, (by omega)⟩
    · skip
      try simp only [decide_eq_true_eq, decide_eq_false_iff_not, ne_eq, Decidable.not_not, Bool.not_eq_true', Bool.not_eq_false', Bool.and_eq_true, Bool.or_eq_true, Bool.not_not, Bool.and_eq_false_iff, Bool.or_eq_false_iff, Int.not_lt, Int.not_le] at hc56
      refine WE.exit ?_
      refine WE.seq_reg ?_
      refine WL.call TryT.fb10 rfl (alive02_c H.yylt) ?_
      rintro _ w15 ⟨rfl, hO⟩
      replace H := H.out hO
      refine WL.as rfl rfl ?_
      refine WL.nil ?_
      refine WE.ret ?_
      refine ⟨[_], _, .nil _, ⟨rfl, trivial⟩, ?_⟩
      refine ⟨?_, H.toOut0⟩
      rfl

end Go.Sp.Try
