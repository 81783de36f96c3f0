/- Walks of functions, printed by a program of this session (gen.py) from notes on each function. -/
import Derived.Test.YthdcihakjomagaaXa
import Derived.Test.YthdcihakjomagaaShf
set_option maxRecDepth 100000
set_option maxHeartbeats 1000000
set_option linter.unusedVariables false
set_option linter.unusedSimpArgs false
namespace Go.Sp.Try
open Go.Proofs Go.RowKit Go.Sp
theorem bytesCompare_e {X : Nat → Prop} {w : World} {a b : Value} {la lb : List UInt8} (hX : ∀ b, X b → b < w.heap.size) (hf0 : Rob X (SlB a la) w) (hf1 : Rob X (SlB b lb) w) :
    Ret Try.prog 39 [a, b].toArray w fun v w' => v = .int .i64 (Lib.compareBytes la lb) ∧ w' = w := by
  refine Ret.of_body (N := 8) Try.func39 rfl rfl (by simp) ?_
  have H := St.begin hX
  replace H := H.add (rob0 hf1)
  replace H := H.add (rob0 hf0)
  refine WE.seq_reg ?_
  refine WL.as rfl rfl ?_
  refine WL.nil ?_
  refine WE.seq_reg ?_
  refine WL.mv rfl rfl ?_
  refine WL.mv rfl rfl ?_
  refine WL.extern (e := Extern.BytealgCompare.compare) (v := .int .i64 (Lib.compareBytes la lb)) Try.func44 (by kernel_rfl) (by kernel_rfl) (by kernel_rfl) (by kernel_rfl) rfl (run_compareB (H.p 0 rfl) (H.p 1 rfl)) ?_
  refine WL.as rfl rfl ?_
  refine WL.nil ?_
  refine WE.ret ?_
  refine ⟨[_], _, .nil _, ⟨rfl, trivial⟩, ?_⟩
  exact ⟨rfl, rfl⟩


section
variable {r : Option Nat} {P : Program} {N : Nat} {σ : Env} {ds : List Deferred} {w : World} {ops : Array Oper} {o : Oper} {rest : List Oper} {K : Env → List Deferred → World → Prop}
theorem WL.boxE {t : TypeId} {x : Operand} {l : List Value} (h : o.op = .box t x) (hx : (ev σ x).cells = l.toArray) (hw : wantedE ops σ o = true)
    (k : WL r P N ops rest K (upd N σ o.dst (.pointer (some ⟨w.heap.size, 0, none⟩))) ds (w.alloc (.cells l.toArray t))) : WL r P N ops (o :: rest) K σ ds w :=
  WL.val (v := .pointer (some ⟨w.heap.size, 0, none⟩)) (w' := w.alloc (.cells l.toArray t)) hw (by unfold noDefer; rw [h]) (by
    obtain ⟨v, hv⟩ : ∃ v, v = ev σ x := ⟨_, rfl⟩
    rw [← hv] at hx
    simp [execOp, h, Instr.box, ← hv, run_newVar (t := t) hx w]) k
theorem blk_robN {w : World} {b : Nat} {t : TypeId} {l : List Value} (h : Blk w b t l) : Rob Nil (fun w => Blk w b t l) w := fun w' hw => h.of_eq (hw b h.lt id)
end

theorem bitsCompare_e {X : Nat → Prop} {w : World} {k l : List UInt8} (hX : ∀ b, X b → b < w.heap.size) (hk : k.length = 32) (hl : l.length = 32) :
    Ret Try.prog 30 [.agg (kc k).toArray, .agg (kc l).toArray].toArray w fun v w' => v = .int .i64 (cmpI k l) ∧ ∃ q os, w' = Go.Sort.grow (w.drewN q) os := by
  refine Ret.of_body (N := 8) Try.func30 rfl rfl (by simp) ?_
  have H := St.begin hX
  refine WE.seq_reg ?_
  refine WL.boxE (l := kc k) rfl rfl rfl ?_
  refine WL.boxE (l := kc l) rfl rfl rfl ?_
  refine WL.as rfl rfl ?_
  refine WL.nil ?_
  refine WE.seq_draw (.take 0 (.take 1 (.pick1 2 (.take 3 .done)))) TryT.mixed (by kernel_rfl) ?_
  replace H := H.out (Out.drew _)
  have hB1 : Blk ((w.alloc (.cells (kc k).toArray 24)).alloc (.cells (kc l).toArray 24)).drew w.heap.size 24 (kc k) := (Below.heap_alloc _ _ _ (by simp)).trans (World.alloc_heap_new w _)
  have hB2 : Blk ((w.alloc (.cells (kc k).toArray 24)).alloc (.cells (kc l).toArray 24)).drew (w.heap.size + 1) 24 (kc l) := by have h_ := World.alloc_heap_new (w.alloc (.cells (kc k).toArray 24)) (.cells (kc l).toArray 24); rw [World.size_alloc] at h_; exact h_
  refine WP.take_pure rfl rfl (PV.sliceArr rfl TryT.ar24 (by rw [TryT.sz5]; rfl) rfl) ?_
  refine WP.take_pure rfl rfl (PV.sliceArr rfl TryT.ar24 (by rw [TryT.sz5]; rfl) rfl) ?_
  refine WP.pick1 rfl ?_
  refine WL.call TryT.fb39 rfl (bytesCompare_e (X := Nil) (la := k) (lb := l) (nilX _) ((blk_robN hB1).imp fun _ h => SlB.of_blk h hk) ((blk_robN hB2).imp fun _ h => (by rw [World.size_alloc]; exact SlB.of_blk h hl))) ?_
  rintro _ w3 ⟨rfl, rfl⟩
  rw [compareBytes_num k l (by rw [hk, hl])]
  refine WL.nil ⟨(fun _ h => by cases h), ?_⟩
  refine WP.as rfl rfl rfl ?_
  refine WP.done ?_
  refine WE.ret ?_
  refine ⟨[_], _, .nil _, ⟨rfl, trivial⟩, ?_⟩
  exact ⟨rfl, 1, #[.cells (kc k).toArray 24, .cells (kc l).toArray 24], by rw [Go.Sort.alloc_eq_grow, Go.Sort.alloc_eq_grow, Go.Sort.grow_grow]; rfl⟩

end Go.Sp.Try
