/- Walks of functions, printed by a program of this session (gen.py) from notes on each function. -/
import Derived.Test.YthdcihakjomagaaXf
set_option maxRecDepth 100000
set_option maxHeartbeats 1000000
set_option linter.unusedVariables false
set_option linter.unusedSimpArgs false
namespace Go.Sp.Try
open Go.Proofs Go.RowKit Go.Sp
theorem CompactNil_c {X : Nat → Prop} {w : World}  (hX : ∀ b, X b → b < w.heap.size) :
    Ret Try.prog 35 [.slice none 0 0].toArray w fun v w' => v = .slice none 0 0 ∧ Out Nil w w' := by
  refine Ret.of_body (N := 61) Try.func35 rfl rfl (by simp) ?_
  have H := St.begin hX
  replace H := H.add (p := fun w => SlC w (.slice none 0 0) 32 0 []) (fun _ _ => SlC.nil _ 32)
  refine WE.seq_reg ?_
  refine WL.as rfl rfl ?_
  refine WL.nil ?_
  refine WE.seq ?_
  refine WE.seq_reg ?_
  refine WL.mv rfl rfl ?_
  refine WL.pv (PV.lenS (H.p 0 rfl) TryT.sl38 rfl) rfl ?_
  refine WL.pv (PV.lss rfl rfl rfl) rfl ?_
  refine WL.nil ?_
  refine WE.cond_t' rfl rfl ?_
  refine WE.seq_reg ?_
  refine WL.mv rfl rfl ?_
  refine WL.as rfl rfl ?_
  refine WL.nil ?_
  refine WE.ret ?_
  refine ⟨[_], _, .nil _, ⟨rfl, trivial⟩, ?_⟩
  exact ⟨rfl, H.toOut0⟩


theorem CompactOwn_c {w : World} {base : Nat} {v : Value} {ks : List (List UInt8)} (hown : w.ownsRow base 24 32 v ks.length (ks.flatMap kc)) (hkl : K32 ks) (hlen : ks.length ≤ 1000000) :
    Ret Try.prog 35 [v].toArray w fun v' w' => Out (fun b => v.ownBlock = some b) w w' ∧ w'.ownsRow base 24 32 v' (compK ks).length ((compK ks).flatMap kc) ∧ v'.ownBlock = v.ownBlock := by
  obtain ⟨h1, ⟨rfl, h2⟩ | ⟨g, cap, cur, rfl, hg, hcur, hcap, hmax, hsz, htake⟩⟩ := hown
  · have h3 : ks = [] := List.eq_nil_of_length_eq_zero h2
    subst h3
    refine (CompactNil_c (X := Nil) (w := w) (fun _ h => h.elim)).mono ?_
    rintro v' w' ⟨rfl, hO⟩
    exact ⟨hO.mono fun _ _ h => h.elim, World.ownsRow_nil _ _ _ _, rfl⟩
  · have hB : Blk w g 24 (ks.flatMap kc ++ cur.toList.drop (ks.length * 32)) := by
      unfold Blk
      rw [← htake, List.take_append_drop]
      exact hcur
    refine (Compact_c (X := Nil) (w := w) (fun _ h => h.elim) hB hkl hlen hcap).mono ?_
    rintro v' w' ⟨rfl, hO, rest', hB', hl⟩
    have hcl := compK_len ks
    have hck : K32 (compK ks) := fun k hk => hkl k ((compK_mem ks k).1 hk)
    refine ⟨hO.mono fun b _ h => by rw [h]; rfl, ⟨flat_len _ hck, .inr ⟨g, cap, ((compK ks).flatMap kc ++ rest').toArray, rfl, hg, hB', by omega, hmax, ?_, ?_⟩⟩, rfl⟩
    · simp only [List.size_toArray, List.length_append]
      rw [flat_len _ hck]
      have h3 : (ks.flatMap kc).length = ks.length * 32 := flat_len _ hkl
      have h4 : (cur.toList.drop (ks.length * 32)).length = cap * 32 - ks.length * 32 := by rw [List.length_drop, Array.length_toList, hsz]
      have h5 : ks.length * 32 ≤ cap * 32 := Nat.mul_le_mul_right _ hcap
      omega
    · rw [List.toList_toArray, List.take_left' (flat_len _ hck)]

theorem Sort_c {X : Nat → Prop} {w : World} {s : Value} {ks : List (List UInt8)} (hX : ∀ b, X b → b < w.heap.size) (hf0 : Rob X (SlK s ks) w) (hkl : K32 ks) (hlen : ks.length ≤ 1000000) :
    Ret Try.prog 24 [s].toArray w fun v w' => Out Nil w w' ∧ w'.ownsRow w.heap.size 24 32 v (compK (sortL ks)).length ((compK (sortL ks)).flatMap kc) := by
  refine Ret.of_body (N := 7) Try.func24 rfl rfl (by simp) ?_
  have H := St.begin hX
  replace H := H.add (rob0 hf0)
  refine WE.seq_reg ?_
  refine WL.as rfl rfl ?_
  refine WL.nil ?_
  refine WE.seq_reg ?_
  refine WL.mv rfl rfl ?_
  refine WL.call TryT.fb37 rfl (Values_c (ks := ks) (s := s) H.yylt (by exact H.rob 0 rfl) ) ?_
  rintro _ w1 ⟨bvv4, rfl, hO, hR⟩
  replace H := (H.out hO).add hR
  refine WL.call TryT.fb36 rfl (SortedFunc_c (ks := ks) (s := s) H.yylt (by exact H.rob 0 rfl) (by exact H.rob 1 rfl) (by assumption) (by assumption)) ?_
  rintro v5 w2 ⟨hO, hOwn⟩
  replace H := H.push hO (Ent.osl w.heap.size v5 24 32 _ _) (ownsRow_base hOwn H.size) (fun b hb => (hOwn.lt b hb).1)
  have hsl := sortL_len ks
  replace H := H.conv (L' := [Ent.osl w.heap.size v5 24 32 (sortL ks).length ((sortL ks).flatMap kc)]) (by rw [hsl])
  refine WL.call TryT.fb35 rfl (CompactOwn_c (H.l 0 rfl) (sortL_k32 hkl) (by omega)) ?_
  rintro v6 w3 ⟨hO, hOwn, hob⟩
  replace H := H.setL (i := 0) rfl hO (Ent.osl w.heap.size v6 24 32 _ _) hOwn (fun b hb => .inl (hob.symm.trans hb))
  refine WL.as rfl rfl ?_
  refine WL.nil ?_
  refine WE.ret ?_
  refine ⟨[_], _, .nil _, ⟨rfl, trivial⟩, ?_⟩
  exact ⟨H.toOut0, H.l 0 rfl⟩

end Go.Sp.Try
