/- Walks of functions, printed by a program of this session (gen.py) from notes on each function. -/
import Derived.Test.YtcfkkhljekopgaaDoorNe
import Derived.Test.YtcfkkhljekopgaaDoorDb
import Derived.Test.YtcfkkhljekopgaaDoorNb
set_option maxRecDepth 100000
set_option maxHeartbeats 1000000
set_option linter.unusedVariables false
set_option linter.unusedSimpArgs false
namespace Go.Sp.Tryd
open Go.Proofs Go.RowKit Go.Sp
theorem ForkNil_c {X : Nat → Prop} {w : World}  (hX : ∀ b, X b → b < w.heap.size) :
    Ret Tryd.prog 21 [.pointer none].toArray w fun v w' => v = .pointer none ∧ Out Nil w w' := by
  refine Ret.of_body (N := 13) Tryd.func21 rfl rfl (by simp) ?_
  have H := St.begin hX
  refine WE.seq_reg ?_
  refine WL.as rfl rfl ?_
  refine WL.nil ?_
  refine WE.seq ?_
  refine WE.seq_reg ?_
  refine WL.mv rfl rfl ?_
  refine WL.pv (PV.eqlPn rfl TrydT.pt24 rfl rfl) rfl ?_
  refine WL.nil ?_
  refine WE.cond_t' rfl rfl ?_
  refine WE.seq_reg ?_
  refine WL.as rfl rfl ?_
  refine WL.nil ?_
  refine WE.ret ?_
  refine ⟨[_], _, .nil _, ⟨rfl, trivial⟩, ?_⟩
  exact ⟨rfl, H.toOut0⟩

theorem DigestNil2_c {X : Nat → Prop} {w : World} {a : Value} {la : List UInt8} (hX : ∀ b, X b → b < w.heap.size) (hf0 : Rob X (SlB a la) w) (hf1 : Rob X (Rounds) w) :
    Ret Tryd.prog 4 [a].toArray w fun v w' => v = .bool true ∧ Out Nil w w' := by
  refine Ret.of_body (N := 27) Tryd.func4 rfl rfl (by simp) ?_
  have H := St.begin hX
  replace H := H.add (rob0 hf1)
  replace H := H.add (rob0 hf0)
  refine WE.seq_reg ?_
  refine WL.as rfl rfl ?_
  refine WL.nil ?_
  refine WE.seq_reg ?_
  refine WL.as rfl rfl ?_
  refine WL.nil ?_
  refine WE.seq_reg ?_
  refine WL.call TrydT.fb18 rfl (alive05_c H.yylt (by first | exact H.rob 0 rfl | exact H.rob 1 rfl | exact H.rob 2 rfl | exact H.rob 3 rfl | exact H.rob 4 rfl | exact H.rob 5 rfl | exact H.rob 6 rfl | exact H.rob 7 rfl | exact (fun _ _ => SlB.nil _))) ?_
  rintro _ w1 ⟨rfl, hO⟩
  replace H := H.out hO
  refine WL.mv rfl rfl ?_
  refine WL.known (t := 5) (c := true) rfl (by first | rfl | simp) ?_
  refine WL.mv rfl rfl ?_
  refine WL.mv rfl rfl ?_
  refine WL.call TrydT.fb20 rfl (HSumNil_c H.yylt  ) ?_
  rintro _ w2 ⟨rfl, hO⟩
  replace H := H.out hO
  refine WL.pv (PV.buildA rfl TrydT.ar29 TrydT.sz5 TrydT.ze29 Fl.nil) rfl ?_
  refine WL.pv (PV.eqlB rfl TrydT.ar29 TrydT.in5 TrydT.sz5 (by kernel_rfl) rfl rfl (by first | assumption | simp [*]) (by first | assumption | simp [*])) rfl ?_
  first | refine WL.pv (PV.pick_t rfl rfl rfl) rfl ?_ | refine WL.pv (PV.pick_f rfl rfl rfl) rfl ?_ | refine WL.pv (PV.pick rfl rfl) rfl ?_
  refine WL.mv rfl rfl ?_
  refine WL.known (t := 12) (c := true) rfl (by first | rfl | simp) ?_
  refine WL.mv rfl rfl ?_
  refine WL.call TrydT.fb23 rfl (BitsNil_c H.yylt  ) ?_
  rintro _ w3 ⟨rfl, hO⟩
  replace H := H.out hO
  refine WL.pv (PV.eql rfl rfl rfl) rfl ?_
  first | refine WL.pv (PV.pick_t rfl rfl rfl) rfl ?_ | refine WL.pv (PV.pick_f rfl rfl rfl) rfl ?_ | refine WL.pv (PV.pick rfl rfl) rfl ?_
  refine WL.mv rfl rfl ?_
  refine WL.known (t := 17) (c := true) rfl (by first | rfl | simp) ?_
  refine WL.mv rfl rfl ?_
  refine WL.call TrydT.fb22 rfl (CallsNil_c H.yylt  ) ?_
  rintro _ w4 ⟨rfl, hO⟩
  replace H := H.out hO
  refine WL.pv (PV.eql rfl rfl rfl) rfl ?_
  first | refine WL.pv (PV.pick_t rfl rfl rfl) rfl ?_ | refine WL.pv (PV.pick_f rfl rfl rfl) rfl ?_ | refine WL.pv (PV.pick rfl rfl) rfl ?_
  refine WL.mv rfl rfl ?_
  refine WL.known (t := 22) (c := true) rfl (by first | rfl | simp) ?_
  refine WL.mv rfl rfl ?_
  refine WL.call TrydT.fb21 rfl (ForkNil_c (X := Nil) (nilX _)) ?_
  rintro _ w5 ⟨rfl, hO⟩
  replace H := H.out hO
  refine WL.pv (PV.eqlPn rfl TrydT.pt24 rfl rfl) rfl ?_
  first | refine WL.pv (PV.pick_t rfl rfl rfl) rfl ?_ | refine WL.pv (PV.pick_f rfl rfl rfl) rfl ?_ | refine WL.pv (PV.pick rfl rfl) rfl ?_
  refine WL.as rfl rfl ?_
  refine WL.nil ?_
  refine WE.ret ?_
  refine ⟨[_], _, .nil _, ⟨rfl, trivial⟩, ?_⟩
  refine ⟨?_, H.toOut0⟩
  first | rfl | (show Value.bool _ = Value.bool true; simp)

theorem Fork_c {X : Nat → Prop} {w : World} {bh bc : Nat} {bits : Int} (hX : ∀ b, X b → b < w.heap.size) (hf0 : Rob X (HAt bh bc bits) w) :
    Ret Tryd.prog 21 [.pointer (some ⟨bh, 0, none⟩)].toArray w fun v w' => ∃ bh bc, v = .pointer (some ⟨bh, 0, none⟩) ∧ Out Nil w w' ∧ w.heap.size ≤ bc ∧ Blk w' bc 86 [.int .i64 0] ∧ Rob (fun c => X c ∨ c = bc) (HAt bh bc bits) w' := by
  refine Ret.of_body (N := 13) Tryd.func21 rfl rfl (by simp) ?_
  have H := St.begin hX
  replace H := H.add (rob0 hf0)
  refine WE.seq_reg ?_
  refine WL.as rfl rfl ?_
  refine WL.nil ?_
  refine WE.seq ?_
  refine WE.seq_reg ?_
  refine WL.mv rfl rfl ?_
  refine WL.pv (PV.eqlPn rfl TrydT.pt24 rfl rfl) rfl ?_
  refine WL.nil ?_
  refine WE.cond_f' rfl rfl ?_
  refine WE.skip ?_
  refine WE.seq_reg ?_
  refine WL.pv (PV.buildS rfl TrydT.pl86 TrydT.ze86 Fl.nil) rfl ?_
  refine WL.box (l := _) H rfl (by first | rfl | exact SlC.cells (H.p 0 rfl) | exact SlC.cells (H.p 1 rfl) | exact SlC.cells (H.p 2 rfl) | exact SlC.cells (H.p 3 rfl) | exact SlC.cells (H.p 4 rfl)) rfl ?_
  intro b6 w1 H
  refine WL.mv rfl rfl ?_
  first | refine WL.pv (PV.nilCheck rfl rfl) rfl ?_ | refine WL.pv (PV.nilCheckF rfl rfl) rfl ?_ | refine WL.pv (PV.nilCheckV rfl (by assumption) rfl) rfl ?_
  refine WL.pv (PV.fieldAddr rfl TrydT.fd88_1 rfl) rfl ?_
  refine WL.load1 rfl TrydT.ag3 rfl rfl (by first | exact Blk.segAt (H.l 0 rfl) (Seg.tl Seg.hd rfl) (by first | rfl | (simp; done) | (simp [kc_length, kw_length, *]; done) | omega) | exact Blk.segAt (H.l 1 rfl) (Seg.tl Seg.hd rfl) (by first | rfl | (simp; done) | (simp [kc_length, kw_length, *]; done) | omega) | exact Blk.segAt (H.l 2 rfl) (Seg.tl Seg.hd rfl) (by first | rfl | (simp; done) | (simp [kc_length, kw_length, *]; done) | omega) | exact Blk.segAt (H.l 3 rfl) (Seg.tl Seg.hd rfl) (by first | rfl | (simp; done) | (simp [kc_length, kw_length, *]; done) | omega) | exact Blk.segAt (H.l 4 rfl) (Seg.tl Seg.hd rfl) (by first | rfl | (simp; done) | (simp [kc_length, kw_length, *]; done) | omega) | exact Blk.segAt (H.l 5 rfl) (Seg.tl Seg.hd rfl) (by first | rfl | (simp; done) | (simp [kc_length, kw_length, *]; done) | omega) | exact RdA.at_ (o := 1) (H.p 0 rfl) rfl rfl | exact RdA.at_ (o := 1) (H.p 1 rfl) rfl rfl | exact RdA.at_ (o := 1) (H.p 2 rfl) rfl rfl | exact RdA.at_ (o := 1) (H.p 3 rfl) rfl rfl | exact RdA.at_ (o := 1) (H.p 4 rfl) rfl rfl) ?_
  refine WL.pv (PV.buildS rfl TrydT.pl88 TrydT.ze88 (Fl.cons rfl (by first | rfl | exact SlC.cells (H.p 0 rfl) | exact SlC.cells (H.p 1 rfl) | exact SlC.cells (H.p 2 rfl) | exact SlC.cells (H.p 3 rfl) | exact SlC.cells (H.p 4 rfl)) (by first | with_reducible rfl | (simp only [kc_length, kw_length, List.length_replicate, List.length_append, List.length_cons, List.length_nil, cutI_length, shaOf_length, dig_length, valD_length]; first | done | omega) | (simp [kc_length, kw_length]; omega) | (simp [kc_length, kw_length, *]; done) | rfl) Laid.head (Fl.cons rfl (by first | rfl | exact SlC.cells (H.p 0 rfl) | exact SlC.cells (H.p 1 rfl) | exact SlC.cells (H.p 2 rfl) | exact SlC.cells (H.p 3 rfl) | exact SlC.cells (H.p 4 rfl)) (by first | with_reducible rfl | (simp only [kc_length, kw_length, List.length_replicate, List.length_append, List.length_cons, List.length_nil, cutI_length, shaOf_length, dig_length, valD_length]; first | done | omega) | (simp [kc_length, kw_length]; omega) | (simp [kc_length, kw_length, *]; done) | rfl) (Laid.tail Laid.head rfl) Fl.nil))) rfl ?_
  refine WL.box (l := _) H rfl (by first | rfl | exact SlC.cells (H.p 0 rfl) | exact SlC.cells (H.p 1 rfl) | exact SlC.cells (H.p 2 rfl) | exact SlC.cells (H.p 3 rfl) | exact SlC.cells (H.p 4 rfl)) rfl ?_
  intro b12 w2 H
  refine WL.as rfl rfl ?_
  refine WL.nil ?_
  refine WE.ret ?_
  refine ⟨[_], _, .nil _, ⟨rfl, trivial⟩, ?_⟩
  replace H := H.freeze (i := 0) rfl
  exact ⟨_, _, rfl, H.toOut0, H.geL _ (List.mem_of_getElem? (i := 0) rfl) _ rfl, H.l 0 rfl, (H.give1 0 rfl).imp fun _ h => h.rd⟩

end Go.Sp.Tryd
