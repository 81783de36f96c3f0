/- Walks of functions, printed by a program of this session (gen.py) from notes on each function. -/
import Derived.Test.YtdllpckpfkjkeaaDoorG5
import Derived.Test.YtdllpckpfkjkeaaDoorDb
import Derived.Test.YtdllpckpfkjkeaaDoorG4
set_option maxRecDepth 100000
set_option maxHeartbeats 1000000
set_option linter.unusedVariables false
set_option linter.unusedSimpArgs false
namespace Go.Sp.Tryd
open Go.Proofs Go.RowKit Go.Sp
theorem ForkNil_c {X : Nat → Prop} {w : World}  (hX : ∀ b, X b → b < w.heap.size) :
    Ret Tryd.prog 37 [.pointer none].toArray w fun v w' => v = .pointer none ∧ Out Nil w w' := by
  refine Ret.of_body (N := 13) Tryd.func37 rfl rfl (by simp) ?_
  have H := St.begin hX
  refine WE.seq_reg ?_
  refine WL.as rfl rfl ?_
  refine WL.nil ?_
  refine WE.seq ?_
  refine WE.seq_reg ?_
  refine WL.mv rfl rfl ?_
  refine WL.pv (PV.eqlPn rfl TrydT.pt32 rfl rfl) rfl ?_
  refine WL.nil ?_
  refine WE.cond_t' rfl rfl ?_
  refine WE.seq_reg ?_
  refine WL.as rfl rfl ?_
  refine WL.nil ?_
  refine WE.ret ?_
  refine ⟨[_], _, .nil _, ⟨rfl, trivial⟩, ?_⟩
  exact ⟨rfl, H.toOut0⟩

theorem Fork_c {X : Nat → Prop} {w : World} {bh bc : Nat} {bits : Int} (hX : ∀ b, X b → b < w.heap.size) (hf0 : Rob X (HAt bh bc bits) w) :
    Ret Tryd.prog 37 [.pointer (some ⟨bh, 0, none⟩)].toArray w fun v w' => ∃ bh bc, v = .pointer (some ⟨bh, 0, none⟩) ∧ Out Nil w w' ∧ w.heap.size ≤ bc ∧ Blk w' bc 127 [.int .i64 0] ∧ Rob (fun c => X c ∨ c = bc) (HAt bh bc bits) w' := by
  refine Ret.of_body (N := 13) Tryd.func37 rfl rfl (by simp) ?_
  have H := St.begin hX
  replace H := H.add (rob0 hf0)
  refine WE.seq_reg ?_
  refine WL.as rfl rfl ?_
  refine WL.nil ?_
  refine WE.seq ?_
  refine WE.seq_reg ?_
  refine WL.mv rfl rfl ?_
  refine WL.pv (PV.eqlPn rfl TrydT.pt32 rfl rfl) rfl ?_
  refine WL.nil ?_
  refine WE.cond_f' rfl rfl ?_
  refine WE.skip ?_
  refine WE.seq_reg ?_
  refine WL.pv (PV.buildS rfl TrydT.pl127 TrydT.ze127 Fl.nil) rfl ?_
  refine WL.box (l := _) H rfl (by rfl) rfl ?_
  intro b6 w1 H
  refine WL.mv rfl rfl ?_
  refine WL.pv (PV.nilCheck rfl rfl) rfl ?_
  refine WL.pv (PV.fieldAddr rfl TrydT.fd129_1 rfl) rfl ?_
  refine WL.load1 rfl TrydT.ag3 rfl rfl (by exact RdA.at_ (o := 1) (H.p 0 rfl) rfl rfl) ?_
  refine WL.pv (PV.buildS rfl TrydT.pl129 TrydT.ze129 (Fl.cons rfl (by rfl) (by (simp only [kc_length, kw_length, List.length_replicate, List.length_append, List.length_cons, List.length_nil, cutI_length, shaOf_length, dig_length, valD_length]; done)) Laid.head (Fl.cons rfl (by rfl) (by (simp only [kc_length, kw_length, List.length_replicate, List.length_append, List.length_cons, List.length_nil, cutI_length, shaOf_length, dig_length, valD_length]; done)) (Laid.tail Laid.head rfl) Fl.nil))) rfl ?_
  refine WL.box (l := _) H rfl (by rfl) rfl ?_
  intro b12 w2 H
  refine WL.as rfl rfl ?_
  refine WL.nil ?_
  refine WE.ret ?_
  refine ⟨[_], _, .nil _, ⟨rfl, trivial⟩, ?_⟩
  replace H := H.freeze (i := 0) rfl
  exact ⟨_, _, rfl, H.toOut0, H.geL _ (List.mem_of_getElem? (i := 0) rfl) _ rfl, H.l 0 rfl, (H.give1 0 rfl).imp fun _ h => h.rd⟩

end Go.Sp.Tryd
