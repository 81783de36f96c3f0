/- Walks of functions, printed by a program of this session (gen.py) from notes on each function. -/
import Derived.Test.YtcfkkhljekopgaaDoorNa
import Derived.Test.YtcfkkhljekopgaaDoorCl
set_option maxRecDepth 100000
set_option maxHeartbeats 1000000
set_option linter.unusedVariables false
set_option linter.unusedSimpArgs false
namespace Go.Sp.Tryd
open Go.Proofs Go.RowKit Go.Sp
theorem LeafOf_c {X : Nat → Prop} {w : World} {bh bc : Nat} {bits n : Int} {a : Value} {k la : List UInt8} (hX : ∀ b, X b → b < w.heap.size) (ho0 : Blk w bc 86 ([.int .i64 n])) (hf0 : Rob (fun c_ => X c_ ∨ c_ = bc) (HAt bh bc bits) w) (hf1 : Rob (fun c_ => X c_ ∨ c_ = bc) (SlB a la) w) (hf2 : Rob (fun c_ => X c_ ∨ c_ = bc) (Rounds) w) (hbits : 0 ≤ bits ∧ bits ≤ 256) (hla : la.length ≤ 1000000) (hk : k.length = 32) :
    Ret Tryd.prog 25 [.pointer (some ⟨bh, 0, none⟩), .agg (kc k).toArray, a].toArray w fun v w' => ∃ m, v = .agg (kc k ++ kc (valD bits la)).toArray ∧ Out (· = bc) w w' ∧ Blk w' bc 86 [.int .i64 m] := by
  refine Ret.of_body (N := 13) Tryd.func25 rfl rfl (by simp) ?_
  have H := St.begin1 (b := bc) (t := 86) (l := [.int .i64 n]) hX ho0
  replace H := H.add (rob1 hf2)
  replace H := H.add (rob1 hf1)
  replace H := H.add (rob1 hf0)
  refine WE.seq_reg ?_
  refine WL.box (l := kc k) H rfl (by rfl) rfl ?_
  intro b4 w1 H
  refine WL.alloc H rfl TrydT.ze38 rfl ?_
  intro b6 w2 H
  refine WL.nil ?_
  refine WE.seq_draw (.take 0 (.take 1 (.take 2 (.pick1 3 (.pick1 4 (.take 5 (.pick1 6 .done))))))) TrydT.mixed (by kernel_rfl) ?_
  replace H := H.out (Out.drew _)
  refine WP.readA rfl rfl rfl TrydT.ag36 rfl (by exact Blk.segAt (H.l 1 rfl) (Seg.all _) (by rfl)) (by (rw [TrydT.sz36]; refine congrArg some ?_; (simp only [kc_length, kw_length, List.length_replicate, List.length_append, List.length_cons, List.length_nil, cutI_length, shaOf_length, dig_length, valD_length, Tr.vd_length, Tr.ld_length, Tr.rd_length]; omega))) ?_
  refine WP.mv rfl rfl rfl ?_
  refine WP.mv rfl rfl rfl ?_
  refine WP.pick1 rfl ?_
  refine WL.call TrydT.fb65 rfl (Value_c (la := la) H.yylt (H.rob 1 rfl) (by omega)) ?_
  rintro v10 w3 ⟨hO, hR⟩
  replace H := (H.out hO).add hR
  refine WL.nil ⟨(List.forall_mem_cons.2 ⟨(fun _ _ => (by exact Blk.segAt (H.l 1 rfl) (Seg.all _) (by rfl))), (fun _ h => by cases h)⟩), ?_⟩
  refine WP.pick1 rfl ?_
  refine WL.call TrydT.fb20 rfl (HSum_c (la := 2 :: la) H.yylt (H.o 0 rfl) (by exact H.robOld 0 rfl 1 rfl) (by exact H.robOld 0 rfl 0 rfl) (by exact H.robOld 0 rfl 3 rfl) hbits (by simp; omega)) ?_
  rintro _ w4 ⟨rfl, hO, hB⟩
  replace H := H.calledO 0 rfl hO hB
  refine WL.nil ⟨(List.forall_mem_cons.2 ⟨(fun _ _ => (by exact Blk.segAt (H.l 1 rfl) (Seg.all _) (by rfl))), (fun _ h => by cases h)⟩), ?_⟩
  refine WP.take_pure rfl rfl (PV.buildS rfl TrydT.pl38 TrydT.ze38 (Fl.cons rfl (by rfl) (by (simp only [kc_length, kw_length, List.length_replicate, List.length_append, List.length_cons, List.length_nil, cutI_length, shaOf_length, dig_length, valD_length, Tr.vd_length, Tr.ld_length, Tr.rd_length]; omega)) (Laid.left (Laid.all (by (simp only [kc_length, kw_length, List.length_replicate, List.length_append, List.length_cons, List.length_nil, cutI_length, shaOf_length, dig_length, valD_length, Tr.vd_length, Tr.ld_length, Tr.rd_length]; omega)))) (Fl.cons rfl (by rfl) (by (simp only [kc_length, kw_length, List.length_replicate, List.length_append, List.length_cons, List.length_nil, cutI_length, shaOf_length, dig_length, valD_length, Tr.vd_length, Tr.ld_length, Tr.rd_length]; done)) (Laid.right (Laid.all (by (simp only [kc_length, kw_length, List.length_replicate, List.length_append, List.length_cons, List.length_nil, cutI_length, shaOf_length, dig_length, valD_length, Tr.vd_length, Tr.ld_length, Tr.rd_length]; done))) (by (simp only [kc_length, kw_length, List.length_replicate, List.length_append, List.length_cons, List.length_nil, cutI_length, shaOf_length, dig_length, valD_length, Tr.vd_length, Tr.ld_length, Tr.rd_length]; omega))) Fl.nil))) ?_
  refine WP.pick1 rfl ?_
  refine WL.storeL H 0 rfl rfl rfl (new := _) rfl (by (rw [TrydT.sz38]; refine congrArg some ?_; (simp only [kc_length, kw_length, List.length_replicate, List.length_append, List.length_cons, List.length_nil, cutI_length, shaOf_length, dig_length, valD_length, Tr.vd_length, Tr.ld_length, Tr.rd_length]; omega))) (one_append (kc_one _) (kc_one _)) (Laid.at (Laid.all (by (simp only [kc_length, kw_length, List.length_replicate, List.length_append, List.length_cons, List.length_nil, cutI_length, shaOf_length, dig_length, valD_length, Tr.vd_length, Tr.ld_length, Tr.rd_length]; omega))) (by rfl)) rfl ?_
  intro w5 H
  refine WL.nil ⟨(List.forall_mem_cons.2 ⟨(by exact (fun h => absurd (show waits _ 6 0 = false from h) (by decide +kernel))), (fun _ h => by cases h)⟩), ?_⟩
  refine WP.done ?_
  refine WE.ret ?_
  refine ⟨[_], _, .nil _, ⟨⟨_, rfl, run_loadVar_aggR TrydT.ag38 (by exact Blk.segAt (H.l 0 rfl) (Seg.all _) rfl) (by (rw [TrydT.sz38]; refine congrArg some ?_; (simp only [kc_length, kw_length, List.length_replicate, List.length_append, List.length_cons, List.length_nil, cutI_length, shaOf_length, dig_length, valD_length, Tr.vd_length, Tr.ld_length, Tr.rd_length]; omega)))⟩, trivial⟩, ?_⟩
  exact ⟨_, rfl, H.toOut1, H.o 0 rfl⟩

theorem leafPre_c {X : Nat → Prop} {w : World} {k d : List UInt8} {s : Value} (hX : ∀ b, X b → b < w.heap.size) (hk : k.length = 32) (hd : d.length = 32) :
    Ret Tryd.prog 126 [.agg ((kc k ++ kc d) ++ [s]).toArray].toArray w fun v w' => Out Nil w w' ∧ Rob X (SlB v (0 :: (k ++ d))) w' := by
  refine Ret.of_body (N := 6) Tryd.func126 rfl rfl (by simp) ?_
  have H := St.begin hX
  refine WE.seq_reg ?_
  refine WL.box (l := (kc k ++ kc d) ++ [s]) H rfl (by rfl) rfl ?_
  intro b1 w1 H
  refine WL.as rfl rfl ?_
  refine WL.nil ?_
  refine WE.seq_reg ?_
  refine WL.pv (PV.fieldAddr rfl TrydT.fd111_0 rfl) rfl ?_
  refine WL.loadR rfl TrydT.ag38 rfl rfl (by exact Blk.segAt (H.l 0 rfl) (Seg.l (Seg.all _)) (by rfl)) (by (rw [TrydT.sz38]; refine congrArg some ?_; (simp only [kc_length, kw_length, List.length_replicate, List.length_append, List.length_cons, List.length_nil, cutI_length, shaOf_length, dig_length, valD_length, Tr.vd_length, Tr.ld_length, Tr.rd_length]; omega))) ?_
  refine WL.call TrydT.fb62 rfl (Leaf_c (k := k) (l := d) H.yylt hk hd) ?_
  rintro v5 w2 ⟨hO, hR⟩
  replace H := (H.out hO).add hR
  refine WL.as rfl rfl ?_
  refine WL.nil ?_
  refine WE.ret ?_
  refine ⟨[_], _, .nil _, ⟨rfl, trivial⟩, ?_⟩
  exact ⟨H.toOut0, H.give (H.rob 0 rfl)⟩

theorem innerPre_c {X : Nat → Prop} {w : World} {p d e : List UInt8} {x y z : Value} (hX : ∀ b, X b → b < w.heap.size) (hd : d.length = 32) (he : e.length = 32) :
    Ret Tryd.prog 125 [.agg ([x, y] ++ ((kc d ++ kc e) ++ [z])).toArray].toArray w fun v w' => Out Nil w w' ∧ Rob X (SlB v (1 :: (d ++ e))) w' := by
  refine Ret.of_body (N := 10) Tryd.func125 rfl rfl (by simp) ?_
  have H := St.begin hX
  refine WE.seq_reg ?_
  refine WL.box (l := [x, y] ++ ((kc d ++ kc e) ++ [z])) H rfl (by rfl) rfl ?_
  intro b1 w1 H
  refine WL.as rfl rfl ?_
  refine WL.nil ?_
  refine WE.seq_reg ?_
  refine WL.pv (PV.fieldAddr rfl TrydT.fd109_1 rfl) rfl ?_
  refine WL.pv (PV.indexArr rfl TrydT.ar107 TrydT.sz29 rfl rfl (by omega) (by omega)) rfl ?_
  refine WL.loadR rfl TrydT.ag29 rfl rfl (by exact Blk.segAt (H.l 0 rfl) (Seg.r (Seg.l (Seg.l (Seg.all _))) (by with_reducible rfl)) (by rfl)) (by (rw [TrydT.sz29]; refine congrArg some ?_; (simp only [kc_length, kw_length, List.length_replicate, List.length_append, List.length_cons, List.length_nil, cutI_length, shaOf_length, dig_length, valD_length, Tr.vd_length, Tr.ld_length, Tr.rd_length]; omega))) ?_
  refine WL.pv (PV.fieldAddr rfl TrydT.fd109_1 rfl) rfl ?_
  refine WL.pv (PV.indexArr rfl TrydT.ar107 TrydT.sz29 rfl rfl (by omega) (by omega)) rfl ?_
  refine WL.loadR rfl TrydT.ag29 rfl rfl (by exact Blk.segAt (H.l 0 rfl) (Seg.r (Seg.l (Seg.r (Seg.all _) (by with_reducible rfl))) (by with_reducible rfl)) (by (simp [kc_length, kw_length, *]; done))) (by (rw [TrydT.sz29]; refine congrArg some ?_; (simp only [kc_length, kw_length, List.length_replicate, List.length_append, List.length_cons, List.length_nil, cutI_length, shaOf_length, dig_length, valD_length, Tr.vd_length, Tr.ld_length, Tr.rd_length]; omega))) ?_
  refine WL.call TrydT.fb64 rfl (Node_c (k := d) (l := e) H.yylt hd he) ?_
  rintro v9 w2 ⟨hO, hR⟩
  replace H := (H.out hO).add hR
  refine WL.as rfl rfl ?_
  refine WL.nil ?_
  refine WE.ret ?_
  refine ⟨[_], _, .nil _, ⟨rfl, trivial⟩, ?_⟩
  exact ⟨H.toOut0, H.give (H.rob 0 rfl)⟩

theorem withLeaf_c {X : Nat → Prop} {w : World} {bh bc : Nat} {bits n : Int} {k d : List UInt8} {s : Value} (hX : ∀ b, X b → b < w.heap.size) (ho0 : Blk w bc 86 ([.int .i64 n])) (hf0 : Rob (fun c_ => X c_ ∨ c_ = bc) (HAt bh bc bits) w) (hf1 : Rob (fun c_ => X c_ ∨ c_ = bc) (Rounds) w) (hbits : 0 ≤ bits ∧ bits ≤ 256) (hk : k.length = 32) (hd : d.length = 32) :
    Ret Tryd.prog 74 [.pointer (some ⟨bh, 0, none⟩), .iface 111 (.agg ((kc k ++ kc d) ++ [s]).toArray)].toArray w fun v w' => ∃ a m, v = .pointer (some ⟨a, 0, none⟩) ∧ Out (· = bc) w w' ∧ Blk w' bc 86 [.int .i64 m] ∧ Rob (fun c => X c ∨ c = bc) (NodeAt a 111 ((kc k ++ kc d) ++ [s]) (cutI (shaOf (0 :: (k ++ d))) bits)) w' := by
  refine Ret.of_body (N := 12) Tryd.func74 rfl rfl (by simp) ?_
  have H := St.begin1 (b := bc) (t := 86) (l := [.int .i64 n]) hX ho0
  replace H := H.add (rob1 hf1)
  replace H := H.add (rob1 hf0)
  refine WE.seq_reg ?_
  refine WL.as rfl rfl ?_
  refine WL.nil ?_
  refine WE.seq_reg ?_
  refine WL.mv rfl rfl ?_
  refine WL.mv rfl rfl ?_
  refine WL.mv rfl rfl ?_
  refine WL.invoke rfl (by kernel_rfl) TrydT.cn111 TrydT.fb126 rfl (leafPre_c (k := k) (d := d) (s := s) H.yylt hk hd) ?_
  rintro v8 w2 ⟨hO, hR⟩
  replace H := (H.out hO).add hR
  refine WL.call TrydT.fb20 rfl (HSum_c (la := 0 :: (k ++ d)) H.yylt (H.o 0 rfl) (by exact H.robOld 0 rfl 1 rfl) (by exact H.robOld 0 rfl 0 rfl) (by exact H.robOld 0 rfl 2 rfl) hbits (by simp; omega)) ?_
  rintro _ w4 ⟨rfl, hO, hB⟩
  replace H := H.calledO 0 rfl hO hB
  refine WL.pv (PV.buildS rfl TrydT.pl103 TrydT.ze103 (Fl.cons rfl (by rfl) (by (simp only [kc_length, kw_length, List.length_replicate, List.length_append, List.length_cons, List.length_nil, cutI_length, shaOf_length, dig_length, valD_length, Tr.vd_length, Tr.ld_length, Tr.rd_length]; done)) (Laid.left (Laid.all (by (simp only [kc_length, kw_length, List.length_replicate, List.length_append, List.length_cons, List.length_nil, cutI_length, shaOf_length, dig_length, valD_length, Tr.vd_length, Tr.ld_length, Tr.rd_length]; done)))) (Fl.cons rfl (by rfl) (by (simp only [kc_length, kw_length, List.length_replicate, List.length_append, List.length_cons, List.length_nil, cutI_length, shaOf_length, dig_length, valD_length, Tr.vd_length, Tr.ld_length, Tr.rd_length]; done)) (Laid.right (Laid.all (by (simp only [kc_length, kw_length, List.length_replicate, List.length_append, List.length_cons, List.length_nil, cutI_length, shaOf_length, dig_length, valD_length, Tr.vd_length, Tr.ld_length, Tr.rd_length]; done))) (by (simp only [kc_length, kw_length, List.length_replicate, List.length_append, List.length_cons, List.length_nil, cutI_length, shaOf_length, dig_length, valD_length, Tr.vd_length, Tr.ld_length, Tr.rd_length]; done))) Fl.nil))) rfl ?_
  refine WL.box (l := _) H rfl (by rfl) rfl ?_
  intro b11 w5 H
  refine WL.as rfl rfl ?_
  refine WL.nil ?_
  refine WE.ret ?_
  refine ⟨[_], _, .nil _, ⟨rfl, trivial⟩, ?_⟩
  replace H := H.freeze (i := 0) rfl
  exact ⟨_, _, rfl, H.toOut1, H.o 0 rfl, (H.giveO (H.rob 0 rfl)).imp fun _ h => h⟩

theorem withInner_c {X : Nat → Prop} {w : World} {bh bc : Nat} {bits n : Int} {d e : List UInt8} {x y z : Value} (hX : ∀ b, X b → b < w.heap.size) (ho0 : Blk w bc 86 ([.int .i64 n])) (hf0 : Rob (fun c_ => X c_ ∨ c_ = bc) (HAt bh bc bits) w) (hf1 : Rob (fun c_ => X c_ ∨ c_ = bc) (Rounds) w) (hbits : 0 ≤ bits ∧ bits ≤ 256) (hd : d.length = 32) (he : e.length = 32) :
    Ret Tryd.prog 74 [.pointer (some ⟨bh, 0, none⟩), .iface 109 (.agg ([x, y] ++ ((kc d ++ kc e) ++ [z])).toArray)].toArray w fun v w' => ∃ a m, v = .pointer (some ⟨a, 0, none⟩) ∧ Out (· = bc) w w' ∧ Blk w' bc 86 [.int .i64 m] ∧ Rob (fun c => X c ∨ c = bc) (NodeAt a 109 ([x, y] ++ ((kc d ++ kc e) ++ [z])) (cutI (shaOf (1 :: (d ++ e))) bits)) w' := by
  refine Ret.of_body (N := 12) Tryd.func74 rfl rfl (by simp) ?_
  have H := St.begin1 (b := bc) (t := 86) (l := [.int .i64 n]) hX ho0
  replace H := H.add (rob1 hf1)
  replace H := H.add (rob1 hf0)
  refine WE.seq_reg ?_
  refine WL.as rfl rfl ?_
  refine WL.nil ?_
  refine WE.seq_reg ?_
  refine WL.mv rfl rfl ?_
  refine WL.mv rfl rfl ?_
  refine WL.mv rfl rfl ?_
  refine WL.invoke rfl (by kernel_rfl) TrydT.cn109 TrydT.fb125 rfl (innerPre_c (p := []) (x := x) (y := y) (z := z) H.yylt hd he) ?_
  rintro v8 w2 ⟨hO, hR⟩
  replace H := (H.out hO).add hR
  refine WL.call TrydT.fb20 rfl (HSum_c (la := 1 :: (d ++ e)) H.yylt (H.o 0 rfl) (by exact H.robOld 0 rfl 1 rfl) (by exact H.robOld 0 rfl 0 rfl) (by exact H.robOld 0 rfl 2 rfl) hbits (by simp; omega)) ?_
  rintro _ w4 ⟨rfl, hO, hB⟩
  replace H := H.calledO 0 rfl hO hB
  refine WL.pv (PV.buildS rfl TrydT.pl103 TrydT.ze103 (Fl.cons rfl (by rfl) (by (simp only [kc_length, kw_length, List.length_replicate, List.length_append, List.length_cons, List.length_nil, cutI_length, shaOf_length, dig_length, valD_length, Tr.vd_length, Tr.ld_length, Tr.rd_length]; done)) (Laid.left (Laid.all (by (simp only [kc_length, kw_length, List.length_replicate, List.length_append, List.length_cons, List.length_nil, cutI_length, shaOf_length, dig_length, valD_length, Tr.vd_length, Tr.ld_length, Tr.rd_length]; done)))) (Fl.cons rfl (by rfl) (by (simp only [kc_length, kw_length, List.length_replicate, List.length_append, List.length_cons, List.length_nil, cutI_length, shaOf_length, dig_length, valD_length, Tr.vd_length, Tr.ld_length, Tr.rd_length]; done)) (Laid.right (Laid.all (by (simp only [kc_length, kw_length, List.length_replicate, List.length_append, List.length_cons, List.length_nil, cutI_length, shaOf_length, dig_length, valD_length, Tr.vd_length, Tr.ld_length, Tr.rd_length]; done))) (by (simp only [kc_length, kw_length, List.length_replicate, List.length_append, List.length_cons, List.length_nil, cutI_length, shaOf_length, dig_length, valD_length, Tr.vd_length, Tr.ld_length, Tr.rd_length]; done))) Fl.nil))) rfl ?_
  refine WL.box (l := _) H rfl (by rfl) rfl ?_
  intro b11 w5 H
  refine WL.as rfl rfl ?_
  refine WL.nil ?_
  refine WE.ret ?_
  refine ⟨[_], _, .nil _, ⟨rfl, trivial⟩, ?_⟩
  replace H := H.freeze (i := 0) rfl
  exact ⟨_, _, rfl, H.toOut1, H.o 0 rfl, (H.giveO (H.rob 0 rfl)).imp fun _ h => h⟩


theorem RdA.segAt {w : World} {b o o' : Nat} {l0 l : List Value} (h : RdA w ⟨b, 0, none⟩ l0) (s : Seg l0 o l) (ho : o' = o) : RdA w ⟨b, o', none⟩ l := by
  subst ho
  have := RdA.sub h s
  rwa [add_mk, Nat.zero_add] at this
theorem Rob.and3 {X : Nat → Prop} {p q r : World → Prop} {w : World} (h : Rob X p w) (h' : Rob X q w) (h'' : Rob X r w) : Rob X (fun w => p w ∧ q w ∧ r w) w := fun w' hw => ⟨h w' hw, h' w' hw, h'' w' hw⟩

theorem NewLeaf_c {X : Nat → Prop} {w : World} {bh bc : Nat} {bits n : Int} {k lv : List UInt8} {s : Value} (hX : ∀ b, X b → b < w.heap.size) (ho0 : Blk w bc 86 ([.int .i64 n])) (hf0 : Rob (fun c_ => X c_ ∨ c_ = bc) (HAt bh bc bits) w) (hf1 : Rob (fun c_ => X c_ ∨ c_ = bc) (SlB s lv) w) (hf2 : Rob (fun c_ => X c_ ∨ c_ = bc) (Rounds) w) (hbits : 0 ≤ bits ∧ bits ≤ 256) (hla : lv.length ≤ 1000000) (hk : k.length = 32) :
    Ret Tryd.prog 35 [.pointer (some ⟨bh, 0, none⟩), .agg (kc k ++ [s]).toArray].toArray w fun v w' => ∃ (T : Tr) (m : Int), v = T.ptr ∧ T.er = .leaf k lv ∧ Out (· = bc) w w' ∧ Blk w' bc 86 [.int .i64 m] ∧ Rob (fun c => X c ∨ c = bc) (TrA bits T) w' := by
  refine Ret.of_body (N := 18) Tryd.func35 rfl rfl (by simp) ?_
  have H := St.begin1 (b := bc) (t := 86) (l := [.int .i64 n]) hX ho0
  replace H := H.add (rob1 hf2)
  replace H := H.add (rob1 hf1)
  replace H := H.add (rob1 hf0)
  have hvl := valD_length bits lv
  refine WE.seq_reg ?_
  refine WL.box (l := kc k ++ [s]) H rfl (by rfl) rfl ?_
  intro b3 w1 H
  refine WL.as rfl rfl ?_
  refine WL.nil ?_
  refine WE.seq_draw (.take 0 (.take 1 (.take 2 (.take 3 (.take 4 (.take 5 (.take 7 (.take 8 (.pick1 6 (.pick1 9 (.take 10 (.take 11 (.pick1 12 (.take 13 .done)))))))))))))) TrydT.mixed (by kernel_rfl) ?_
  replace H := H.out (Out.drew _)
  refine WP.mv rfl rfl rfl ?_
  refine WP.mv rfl rfl rfl ?_
  refine WP.take_pure rfl rfl (PV.fieldAddr rfl TrydT.fd52_0 rfl) ?_
  refine WP.readA rfl rfl rfl TrydT.ag36 rfl (by exact Blk.segAt (H.l 0 rfl) (Seg.l (Seg.all _)) (by rfl)) (by (rw [TrydT.sz36]; refine congrArg some ?_; (simp only [kc_length, kw_length, List.length_replicate, List.length_append, List.length_cons, List.length_nil, cutI_length, shaOf_length, dig_length, valD_length, Tr.vd_length, Tr.ld_length, Tr.rd_length]; omega))) ?_
  refine WP.take_pure rfl rfl (PV.fieldAddr rfl TrydT.fd52_1 rfl) ?_
  refine WP.take_read rfl rfl (RV.loadOne rfl TrydT.ag33 rfl) (by exact Blk.segAt (H.l 0 rfl) (Seg.r (Seg.all _) (by with_reducible rfl)) (by (simp [kc_length, kw_length, *]; done))) ?_
  refine WP.take_pure rfl rfl (PV.fieldAddr rfl TrydT.fd52_1 rfl) ?_
  refine WP.take_read rfl rfl (RV.loadOne rfl TrydT.ag33 rfl) (by exact Blk.segAt (H.l 0 rfl) (Seg.r (Seg.all _) (by with_reducible rfl)) (by (simp [kc_length, kw_length, *]; done))) ?_
  refine WP.pick1 rfl ?_
  refine WL.call TrydT.fb25 rfl (LeafOf_c (k := k) (la := lv) H.yylt (H.o 0 rfl) (by exact H.robOld 0 rfl 0 rfl) (by exact H.robOld 0 rfl 1 rfl) (by exact H.robOld 0 rfl 2 rfl) hbits hla hk) ?_
  rintro _ w2 ⟨m1, rfl, hO, hB⟩
  replace H := H.calledO 0 rfl hO hB
  refine WL.nil ⟨(List.forall_mem_cons.2 ⟨(fun _ _ => (by exact Blk.segAt (H.l 0 rfl) (Seg.r (Seg.all _) (by with_reducible rfl)) (by (simp [kc_length, kw_length, *]; done)))), (List.forall_mem_cons.2 ⟨(by exact (fun h => absurd (show waits _ 6 5 = false from h) (by decide +kernel))), (List.forall_mem_cons.2 ⟨(by exact (fun h => absurd (show waits _ 6 3 = false from h) (by decide +kernel))), (fun _ h => by cases h)⟩)⟩)⟩), ?_⟩
  refine WP.pick1 rfl ?_
  refine WL.call TrydT.fb75 rfl (CloneO_c (la := lv) H.yylt (H.rob 1 rfl) (by omega)) ?_
  rintro s2 w3 ⟨hO, hOwn⟩
  have hr_ := (rob_own H.yylt hOwn).imp fun _ h => SlB.of_own h
  replace H := (H.out hO).add hr_
  refine WL.nil ⟨(List.forall_mem_cons.2 ⟨(by exact (fun h => absurd (show waits _ 9 8 = false from h) (by decide +kernel))), (List.forall_mem_cons.2 ⟨(by exact (fun h => absurd (show waits _ 9 5 = false from h) (by decide +kernel))), (List.forall_mem_cons.2 ⟨(by exact (fun h => absurd (show waits _ 9 3 = false from h) (by decide +kernel))), (fun _ h => by cases h)⟩)⟩)⟩), ?_⟩
  refine WP.take_pure rfl rfl (PV.buildS rfl TrydT.pl111 TrydT.ze111 (Fl.cons rfl (by rfl) (by (simp only [kc_length, kw_length, List.length_replicate, List.length_append, List.length_cons, List.length_nil, cutI_length, shaOf_length, dig_length, valD_length, Tr.vd_length, Tr.ld_length, Tr.rd_length]; omega)) (Laid.left (Laid.all (by (simp only [kc_length, kw_length, List.length_replicate, List.length_append, List.length_cons, List.length_nil, cutI_length, shaOf_length, dig_length, valD_length, Tr.vd_length, Tr.ld_length, Tr.rd_length]; omega)))) (Fl.cons rfl (SlC.cells (H.p 0 rfl)) (by (simp only [kc_length, kw_length, List.length_replicate, List.length_append, List.length_cons, List.length_nil, cutI_length, shaOf_length, dig_length, valD_length, Tr.vd_length, Tr.ld_length, Tr.rd_length]; done)) (Laid.right (Laid.all (by (simp only [kc_length, kw_length, List.length_replicate, List.length_append, List.length_cons, List.length_nil, cutI_length, shaOf_length, dig_length, valD_length, Tr.vd_length, Tr.ld_length, Tr.rd_length]; done))) (by (simp only [kc_length, kw_length, List.length_replicate, List.length_append, List.length_cons, List.length_nil, cutI_length, shaOf_length, dig_length, valD_length, Tr.vd_length, Tr.ld_length, Tr.rd_length]; omega))) Fl.nil))) ?_
  refine WP.take_pure rfl rfl (PV.mkIface rfl TrydT.cn111) ?_
  refine WP.pick1 rfl ?_
  refine WL.call TrydT.fb74 rfl (withLeaf_c (k := k) (d := valD bits lv) (s := s2) H.yylt (H.o 0 rfl) (by exact H.robOld 0 rfl 1 rfl) (by exact H.robOld 0 rfl 3 rfl) hbits hk hvl) ?_
  rintro _ w4 ⟨a2, m2, rfl, hO, hB, hR⟩
  replace H := H.calledOR 0 rfl hO hB hR
  refine WL.nil ⟨(List.forall_mem_cons.2 ⟨(by exact (fun h => absurd (show waits _ 12 8 = false from h) (by decide +kernel))), (List.forall_mem_cons.2 ⟨(by exact (fun h => absurd (show waits _ 12 5 = false from h) (by decide +kernel))), (List.forall_mem_cons.2 ⟨(by exact (fun h => absurd (show waits _ 12 3 = false from h) (by decide +kernel))), (fun _ h => by cases h)⟩)⟩)⟩), ?_⟩
  refine WP.as rfl rfl rfl ?_
  refine WP.done ?_
  refine WE.ret ?_
  refine ⟨[_], _, .nil _, ⟨rfl, trivial⟩, ?_⟩
  exact ⟨.leaf a2 k lv s2, m2, rfl, rfl, H.toOut1, H.o 0 rfl, (H.giveO ((H.rob 0 rfl).and (H.rob 1 rfl))).imp fun _ h => ⟨hk, h.2, hla, h.1⟩⟩

theorem DigestNil_c {X : Nat → Prop} {w : World} {bh bc : Nat} {bits n : Int} (hX : ∀ b, X b → b < w.heap.size) (ho0 : Blk w bc 86 ([.int .i64 n])) (hf0 : Rob (fun c_ => X c_ ∨ c_ = bc) (HAt bh bc bits) w) (hf1 : Rob (fun c_ => X c_ ∨ c_ = bc) (Rounds) w) (hbits : 0 ≤ bits ∧ bits ≤ 256) :
    Ret Tryd.prog 31 [.pointer (some ⟨bh, 0, none⟩), .pointer none].toArray w fun v w' => ∃ m, v = .agg (kc (emptyD bits)).toArray ∧ Out (· = bc) w w' ∧ Blk w' bc 86 [.int .i64 m] := by
  refine Ret.of_body (N := 14) Tryd.func31 rfl rfl (by simp) ?_
  have H := St.begin1 (b := bc) (t := 86) (l := [.int .i64 n]) hX ho0
  replace H := H.add (rob1 hf1)
  replace H := H.add (rob1 hf0)
  refine WE.seq_reg ?_
  refine WL.alloc H rfl TrydT.ze29 rfl ?_
  intro b4 w1 H
  refine WL.nil ?_
  refine WE.seq ?_
  refine WE.seq_reg ?_
  refine WL.mv rfl rfl ?_
  refine WL.pv (PV.eqlPn rfl TrydT.pt47 rfl rfl) rfl ?_
  refine WL.nil ?_
  refine WE.cond_t' rfl rfl ?_
  refine WE.seq_reg ?_
  refine WL.mv rfl rfl ?_
  refine WL.call TrydT.fb67 rfl (Empty_c H.yylt) ?_
  rintro v8 w2 ⟨hO, hR⟩
  replace H := (H.out hO).add hR
  refine WL.call TrydT.fb20 rfl (HSum_c (la := [3]) H.yylt (H.o 0 rfl) (by exact H.robOld 0 rfl 1 rfl) (by exact H.robOld 0 rfl 0 rfl) (by exact H.robOld 0 rfl 2 rfl) hbits (by simp)) ?_
  rintro _ w3 ⟨rfl, hO, hB⟩
  replace H := H.calledO 0 rfl hO hB
  refine WL.storeL H 0 rfl rfl rfl (new := _) rfl (by exact TrydT.sz29) (by exact kc_one _) (Laid.at (Laid.all (by (simp only [kc_length, kw_length, List.length_replicate, List.length_append, List.length_cons, List.length_nil, cutI_length, shaOf_length, dig_length, valD_length, Tr.vd_length, Tr.ld_length, Tr.rd_length]; done))) (by rfl)) rfl ?_
  intro w4 H
  refine WL.nil ?_
  refine WE.ret ?_
  refine ⟨[_], _, .nil _, ⟨⟨_, rfl, run_loadVar_aggR TrydT.ag29 (by exact Blk.segAt (H.l 0 rfl) (Seg.all _) rfl) (by exact TrydT.sz29)⟩, trivial⟩, ?_⟩
  exact ⟨_, rfl, H.toOut1, H.o 0 rfl⟩

theorem DigestAt_c {X : Nat → Prop} {w : World} {h : Value} {a : Nat} {t : TypeId} {L : List Value} {D : List UInt8} (hX : ∀ b, X b → b < w.heap.size) (hf0 : Rob X (NodeAt a t L D) w) (hD : D.length = 32) :
    Ret Tryd.prog 31 [h, .pointer (some ⟨a, 0, none⟩)].toArray w fun v w' => v = .agg (kc D).toArray ∧ Out Nil w w' := by
  refine Ret.of_body (N := 14) Tryd.func31 rfl rfl (by simp) ?_
  have H := St.begin hX
  replace H := H.add (rob0 hf0)
  refine WE.seq_reg ?_
  refine WL.alloc H rfl TrydT.ze29 rfl ?_
  intro b4 w1 H
  refine WL.nil ?_
  refine WE.seq ?_
  refine WE.seq_reg ?_
  refine WL.mv rfl rfl ?_
  refine WL.pv (PV.eqlPn rfl TrydT.pt47 rfl rfl) rfl ?_
  refine WL.nil ?_
  refine WE.cond_f' rfl rfl ?_
  refine WE.skip ?_
  refine WE.seq_reg ?_
  refine WL.mv rfl rfl ?_
  refine WL.pv (PV.nilCheck rfl rfl) rfl ?_
  refine WL.pv (PV.fieldAddr rfl TrydT.fd103_1 rfl) rfl ?_
  refine WL.loadR rfl TrydT.ag29 rfl rfl (RdA.segAt (Blk.rd (H.p 0 rfl)) (Seg.r (a := [.iface t (.agg L.toArray)]) (Seg.all (kc D)) rfl) rfl) (by (rw [TrydT.sz29]; refine congrArg some ?_; (simp only [kc_length, kw_length, List.length_replicate, List.length_append, List.length_cons, List.length_nil, cutI_length, shaOf_length, dig_length, valD_length, Tr.vd_length, Tr.ld_length, Tr.rd_length]; omega))) ?_
  refine WL.storeL H 0 rfl rfl rfl (new := _) rfl (by (rw [TrydT.sz29]; refine congrArg some ?_; (simp only [kc_length, kw_length, List.length_replicate, List.length_append, List.length_cons, List.length_nil, cutI_length, shaOf_length, dig_length, valD_length, Tr.vd_length, Tr.ld_length, Tr.rd_length]; omega))) (by exact kc_one _) (Laid.at (Laid.all (by (simp only [kc_length, kw_length, List.length_replicate, List.length_append, List.length_cons, List.length_nil, cutI_length, shaOf_length, dig_length, valD_length, Tr.vd_length, Tr.ld_length, Tr.rd_length]; omega))) (by rfl)) rfl ?_
  intro w2 H
  refine WL.nil ?_
  refine WE.ret ?_
  refine ⟨[_], _, .nil _, ⟨⟨_, rfl, run_loadVar_aggR TrydT.ag29 (by exact Blk.segAt (H.l 0 rfl) (Seg.all _) rfl) (by (rw [TrydT.sz29]; refine congrArg some ?_; (simp only [kc_length, kw_length, List.length_replicate, List.length_append, List.length_cons, List.length_nil, cutI_length, shaOf_length, dig_length, valD_length, Tr.vd_length, Tr.ld_length, Tr.rd_length]; omega)))⟩, trivial⟩, ?_⟩
  exact ⟨rfl, H.toOut0⟩

end Go.Sp.Tryd
