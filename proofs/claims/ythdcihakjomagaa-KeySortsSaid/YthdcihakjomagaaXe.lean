/- Walks of functions, printed by a program of this session (gen.py) from notes on each function. -/
import Derived.Test.YthdcihakjomagaaXd
set_option maxRecDepth 100000
set_option maxHeartbeats 1000000
set_option linter.unusedVariables false
set_option linter.unusedSimpArgs false
namespace Go.Sp.Try
open Go.Proofs Go.RowKit Go.Sp

def keyV (ks : List (List UInt8)) (i : Nat) (xs : List Value) (_ : World) : Prop := ∃ k, ks[i]? = some k ∧ xs = [.agg (kc k).toArray]
theorem keyV_len {ks : List (List UInt8)} (i : Nat) (xs : List Value) (W : World) (h : keyV ks i xs W) : xs.length = [7].length := by obtain ⟨k, _, rfl⟩ := h; rfl
def valF (b : Nat) : Value := .func (.func 42) [].toArray [.pointer (some ⟨b, 0, none⟩)].toArray
theorem K32.get {ks : List (List UInt8)} (h : K32 ks) {i : Nat} {k : List UInt8} (hi : ks[i]? = some k) : k.length = 32 := h k (List.mem_of_getElem? hi)
theorem flatK_snoc (ks : List (List UInt8)) (k : List UInt8) : (ks ++ [k]).flatMap kc = ks.flatMap kc ++ kc k := by rw [List.flatMap_append, List.flatMap_singleton]

theorem Values_c {X : Nat → Prop} {w : World} {s : Value} {ks : List (List UInt8)} (hX : ∀ b, X b → b < w.heap.size) (hf0 : Rob X (SlK s ks) w) :
    Ret Try.prog 37 [s].toArray w fun v w' => ∃ b, v = valF b ∧ Out Nil w w' ∧ Rob X (fun w => RdA w ⟨b, 0, none⟩ [s]) w' := by
  refine Ret.of_body (N := 4) Try.func37 rfl rfl (by simp) ?_
  have H := St.begin hX
  replace H := H.add (rob0 hf0)
  have hs1 : s.oneCell' = true := SlC.one1 (H.p 0 rfl : SlK s ks _)
  refine WE.seq_reg ?_
  refine WL.box (l := [s]) H rfl (cells_one hs1) rfl ?_
  intro b1 w1 H
  refine WL.as rfl rfl ?_
  refine WL.nil ?_
  refine WE.seq_reg ?_
  refine WL.pv (PV.makeFunc rfl) rfl ?_
  refine WL.as rfl rfl ?_
  refine WL.nil ?_
  refine WE.ret ?_
  refine ⟨[_], _, .nil _, ⟨rfl, trivial⟩, ?_⟩
  replace H := H.freeze (i := 0) rfl
  exact ⟨_, rfl, H.toOut0, (H.give (H.rob 0 rfl)).imp fun _ h => h.rd⟩

theorem vals1_seq {C : Nat → Prop} {w : World} {b1 : Nat} {s : Value} {ks : List (List UInt8)} (hC : ∀ b, C b → b < w.heap.size) (hf0 : Rob C (fun w => RdA w ⟨b1, 0, none⟩ [s]) w) (hf1 : Rob C (SlK s ks) w) (hkl : K32 ks) (hlen : ks.length ≤ 1000000) : SeqV Try.prog 42 [] [.pointer (some ⟨b1, 0, none⟩)] (ks.length) (keyV ks) Nil C w := by
  intro f J Jx hst hsta hstx hround hf
  show Ret Try.prog 42 ([f, .pointer (some ⟨b1, 0, none⟩)] : List Value).toArray w _
  refine Ret.of_body (N := 16) Try.func42 rfl rfl (by simp) ?_
  have H := St.begin (X := C) hC
  replace H := H.add (rob0 hf1)
  replace H := H.add (rob0 hf0)
  refine WE.seq_reg ?_
  refine WL.load1 rfl TryT.ag38 rfl rfl (H.p 0 rfl) ?_
  refine WL.pv (PV.lenS (by exact (H.p 1 rfl : SlK s ks _)) TryT.sl38 rfl) rfl ?_
  refine WL.mv rfl rfl ?_
  refine WL.nil ?_
  refine WE.block ?_
  refine WE.loop (α := Nat) [4, 7, 8, 9, 10, 11, 12, 13, 14, 15] (fun i => [(7, .int .i64 i)]) (fun i wl => i ≤ ks.length ∧ J Nil i wl ∧ St C wl wl [] [] [fun w => RdA w ⟨b1, 0, none⟩ [s], SlK s ks]) (fun i => ks.length - i) 0 ⟨rfl, trivial⟩ ⟨Nat.zero_le _, hst Nil w H.toOut0 (fun _ h => h.elim) (fun _ h => h.elim), H⟩ ?_
  intro i γ0 w1 hI
  try dsimp only at hI
  obtain ⟨hi, hJ, H⟩ := hI
  have hwl : ∃ wl1, wl1 = w1 := ⟨_, rfl⟩
  obtain ⟨wl1, hwl⟩ := hwl
  rw [← hwl] at hJ H ⊢
  have hP1_ := H.rob 0 rfl
  have hP2_ := H.rob 1 rfl
  clear hwl
  refine WE.seq_reg ?_
  refine WL.pv (PV.lss rfl rfl rfl) rfl ?_
  refine WL.nil ?_
  refine WE.seq ?_
  refine WE.cond rfl (fun hc8 => ?_) (fun hc8 => ?_)
  · skip
    try simp only [decide_eq_true_eq, decide_eq_false_iff_not, ne_eq, Decidable.not_not, Bool.not_eq_true', Bool.not_eq_false', Bool.and_eq_true, Bool.or_eq_true, Bool.not_not, Bool.and_eq_false_iff, Bool.or_eq_false_iff, Int.not_lt, Int.not_le] at hc8
    have hlt : i < ks.length := by omega
    have hk1 := hkl _ (List.getElem_mem hlt)
    refine WE.skip ?_
    refine WE.seq ?_
    refine WE.block ?_
    refine WE.seq_reg ?_
    refine WL.pv (PV.idxS rfl (by exact (H.p 1 rfl : SlK s ks _)) TryT.sl38 TryT.sz24 rfl rfl (by omega) (by omega)) rfl ?_
    refine WL.loadR rfl TryT.ag24 rfl rfl (SlK.rd (by exact (H.p 1 rfl : SlK s ks _)) hkl i hlt) (by (rw [TryT.sz24]; refine congrArg some ?_; (simp only [kc_length, kw_length, List.length_replicate, List.length_append, List.length_cons, List.length_nil]; omega))) ?_
    refine WL.alloc H rfl TryT.ze24 rfl ?_
    intro b4 w2 H
    refine WL.storeL H 0 rfl rfl rfl (new := kc ks[i]) rfl (by (rw [TryT.sz24]; refine congrArg some ?_; (simp only [kc_length, kw_length, List.length_replicate, List.length_append, List.length_cons, List.length_nil]; omega))) (by exact kc_one _) (Laid.at (Laid.all (by (simp only [kc_length, kw_length, List.length_replicate, List.length_append, List.length_cons, List.length_nil]; omega))) (by rfl)) rfl ?_
    intro w3 H
    refine WL.nil ?_
    refine WE.seq_reg ?_
    refine WL.mv rfl rfl ?_
    refine WL.loadR rfl TryT.ag24 rfl rfl (by exact Blk.segAt (H.l 0 rfl) (Seg.all _) (by rfl)) (by (rw [TryT.sz24]; refine congrArg some ?_; (simp only [kc_length, kw_length, List.length_replicate, List.length_append, List.length_cons, List.length_nil]; omega))) ?_
    refine WL.callV rfl rfl (hround Nil i _ wl1 _ (by omega) hJ H.toOut0 (Rob.pure ⟨_, List.getElem?_eq_getElem hlt, rfl⟩)) ?_
    rintro _ w4 ⟨hk, ⟨rfl, hJ⟩ | ⟨rfl, hJ⟩⟩
    · skip
      replace H := St.again0 (Ps := [fun w => RdA w ⟨b1, 0, none⟩ [s], SlK s ks]) hC hk (fun _ h => h.elim) (by intro p hp; simp at hp; rcases hp with rfl | rfl <;> assumption)
      refine WL.pv (PV.not rfl rfl) rfl ?_
      refine WL.nil ?_
      refine WE.cond_f rfl ?_
      refine WE.skip ?_
      refine WE.reg ?_
      refine WL.pv (PV.eq (v' := .int .i64 ((i + 1 : Nat) : Int)) (PV.add64 rfl rfl rfl (by omega) (by omega)) (by congr 1)) rfl ?_
      refine WL.mv rfl rfl ?_
      refine WL.nil ?_
      exact ⟨i + 1, (by repeat (first | with_reducible exact Off.refl _ _ | refine Off.upd rfl ?_ | refine Off.setAll rfl ?_ | refine Off.forget' rfl ?_)), ⟨rfl, trivial⟩, rfl, ⟨by omega, hsta _ _ _ _ hJ H.toOut0, H.rebase⟩, (by omega)⟩
    · skip
      refine WL.pv (PV.not rfl rfl) rfl ?_
      refine WL.nil ?_
      refine WE.cond_t rfl ?_
      refine WE.ret ?_
      refine ⟨[], _, .nil _, trivial, ?_⟩
      exact ⟨rfl, _, .inr hJ⟩
  · skip
    try simp only [decide_eq_true_eq, decide_eq_false_iff_not, ne_eq, Decidable.not_not, Bool.not_eq_true', Bool.not_eq_false', Bool.and_eq_true, Bool.or_eq_true, Bool.not_not, Bool.and_eq_false_iff, Bool.or_eq_false_iff, Int.not_lt, Int.not_le] at hc8
    have hge_ : i = ks.length := by omega
    refine WE.exit ?_
    refine ⟨[], _, .nil _, trivial, ?_⟩
    (subst hge_; exact ⟨rfl, _, .inl (hsta _ _ _ _ hJ H.toOut0)⟩)

theorem AppendSeq_c {X : Nat → Prop} {w : World} {b1 : Nat} {s : Value} {ks : List (List UInt8)} (hX : ∀ b, X b → b < w.heap.size) (hf0 : Rob X (fun w => RdA w ⟨b1, 0, none⟩ [s]) w) (hf1 : Rob X (SlK s ks) w) (hkl : K32 ks) (hlen : ks.length ≤ 1000000) :
    Ret Try.prog 45 [.slice none 0 0, valF b1].toArray w fun v w' => Out Nil w w' ∧ w'.ownsRow w.heap.size 24 32 v ks.length (ks.flatMap kc) := by
  refine Ret.of_body (N := 13) Try.func45 rfl rfl (by simp) ?_
  have H := St.begin hX
  replace H := H.add (rob0 hf1)
  replace H := H.add (rob0 hf0)
  refine WE.seq_reg ?_
  refine WL.box (l := [.slice none 0 0]) H rfl (rfl) rfl ?_
  intro b2 w1 H
  replace H := H.nilOsl 24 32
  refine WL.as rfl rfl ?_
  refine WL.nil ?_
  refine WE.seq ?_
  refine WE.seq_reg ?_
  refine WL.mv rfl rfl ?_
  refine WL.nil ?_
  refine WE.block ?_
  replace H := H.pushNil
  refine WE.rangeF2 (α := Value) (fun i vv => True) (fun i vv => []) (fun i vv => [Ent.osl w.heap.size vv 24 32 (((ks.take i)).length) (((ks.take i)).flatMap kc), Ent.blk b2 38 [vv]]) (fun i vv => [fun w => RdA w ⟨b1, 0, none⟩ [s], SlK s ks]) (fun _ _ => False) (fun _ _ => []) (fun _ _ => []) (fun _ _ => []) (.slice none 0 0) H rfl TryT.fb42 (fun W0 hO => vals1_seq (ks := ks) (s := s) (H.ccLt hO) (H.ccRob0 hO 0 rfl) (H.ccRob0 hO 1 rfl) hkl hlen) (keyV_len) ⟨trivial, rfl, rfl, rfl⟩ ?_ ?_ ?_
  · skip
    intro i vv xs_ l_ d_ oo_ o_ T_ sc_ w2 hi_ hR_ hV_ H
    obtain ⟨k, hkk, rfl⟩ := hV_
    have hk := hkl.get hkk
    obtain ⟨hil, hke⟩ := List.getElem?_eq_some_iff.1 hkk
    have hS : ks.take (i + 1) = ks.take i ++ [k] := by rw [List.take_succ_eq_append_getElem hil, hke]
    have htl : (ks.take i).length = i := by rw [List.length_take]; omega
    refine WE.reg ?_
    refine WL.alloc H rfl TryT.ze24 rfl ?_
    intro b5 w3 H
    refine WL.storeL H 0 rfl rfl rfl (new := kc k) rfl (by (rw [TryT.sz24]; refine congrArg some ?_; (simp only [kc_length, kw_length, List.length_replicate, List.length_append, List.length_cons, List.length_nil]; omega))) (by exact kc_one _) (Laid.at (Laid.all (by (simp only [kc_length, kw_length, List.length_replicate, List.length_append, List.length_cons, List.length_nil]; omega))) (by rfl)) rfl ?_
    intro w4 H
    refine WL.nil ?_
    refine ⟨rfl, rfl, _, [Ent.blk b5 24 (kc k), Ent.osl w.heap.size vv 24 32 (((ks.take i)).length) (((ks.take i)).flatMap kc), Ent.blk b2 38 [vv]], _, H, ?_⟩
    intro w5 H
    refine WE.block ?_
    refine WE.reg ?_
    refine WL.load1 rfl TryT.ag38 rfl rfl ((H.l 2 rfl).rd) ?_
    refine WL.loadR rfl TryT.ag24 rfl rfl (by exact Blk.segAt (H.l 0 rfl) (Seg.all _) (by rfl)) (by (rw [TryT.sz24]; refine congrArg some ?_; (simp only [kc_length, kw_length, List.length_replicate, List.length_append, List.length_cons, List.length_nil]; omega))) ?_
    refine WL.buildSliceF (l0 := (kc (List.replicate 32 0))) H rfl TryT.st38 (by decide) (by rfl) (Fl.cons rfl (by rfl) (by (simp only [kc_length, kw_length, List.length_replicate, List.length_append, List.length_cons, List.length_nil]; omega)) (Laid.all (by (simp only [kc_length, kw_length, List.length_replicate, List.length_append, List.length_cons, List.length_nil]; omega))) Fl.nil) rfl ?_
    intro b10 w6 H
    refine WL.append (m := 1) H 2 TryT.st38 (by decide) rfl rfl rfl (SlC.of_blk (n := 1) (H.l 0 rfl) (by rw [kc_length, hk]; simp [kc_length])) (kc_one _) (by omega) (by decide) rfl ?_
    intro v11 w7 H
    replace H := H.forget 0
    have hv11 := own_one (H.l 1 rfl)
    refine WL.storeL H 2 rfl rfl rfl (new := [v11]) (cells_one hv11) (by exact TryT.sz38) (one_sing hv11) (Laid.at (Laid.all (by (simp only [kc_length, kw_length, List.length_replicate, List.length_append, List.length_cons, List.length_nil]; done))) (by rfl)) rfl ?_
    intro w8 H
    refine WL.nil ?_
    replace H := H.forget 0
    replace H := H.conv (L' := [Ent.osl w.heap.size v11 24 32 (((ks.take (i + 1))).length) (((ks.take (i + 1))).flatMap kc), Ent.blk b2 38 [v11], Ent.obj l_ o_, Ent.obj d_ (.deferred (some [])), Ent.sn T_ w5]) (by rw [hS]; simp only [List.length_append, List.flatMap_append, List.flatMap_singleton]; rfl)
    replace H := H.drop (fun p hp => List.mem_cons_of_mem _ hp)
    exact ⟨v11, trivial, H⟩
  · skip
    intro vv d_0 w9 hR_ H
    refine WE.seq_reg ?_
    refine WL.load1 rfl TryT.ag38 rfl rfl (by exact Blk.segAt (H.l 2 rfl) (Seg.all _) (by rfl)) ?_
    refine WL.as rfl rfl ?_
    refine WL.nil ?_
    refine WE.ret ?_
    (obtain ⟨w10, hl_0, H⟩ := H.unmark 0 rfl)
    refine ⟨[_], _, (hl_0 _ (.nil _)), ⟨rfl, trivial⟩, ?_⟩
    refine ⟨H.toOut0, ?_⟩
    have h_ := H.l 0 rfl
    rw [List.take_length] at h_
    exact h_
  · skip
    intro e_ vv d_0 w11 he_ hR_ H
    exact hR_.elim

theorem Collect_c {X : Nat → Prop} {w : World} {b1 : Nat} {s : Value} {ks : List (List UInt8)} (hX : ∀ b, X b → b < w.heap.size) (hf0 : Rob X (fun w => RdA w ⟨b1, 0, none⟩ [s]) w) (hf1 : Rob X (SlK s ks) w) (hkl : K32 ks) (hlen : ks.length ≤ 1000000) :
    Ret Try.prog 40 [valF b1].toArray w fun v w' => Out Nil w w' ∧ w'.ownsRow w.heap.size 24 32 v ks.length (ks.flatMap kc) := by
  refine Ret.of_body (N := 5) Try.func40 rfl rfl (by simp) ?_
  have H := St.begin hX
  replace H := H.add (rob0 hf1)
  replace H := H.add (rob0 hf0)
  refine WE.seq_reg ?_
  refine WL.as rfl rfl ?_
  refine WL.nil ?_
  refine WE.seq_reg ?_
  refine WL.mv rfl rfl ?_
  refine WL.call TryT.fb45 rfl (AppendSeq_c (s := s) H.yylt (by exact H.rob 0 rfl) (by exact H.rob 1 rfl) (by assumption) (by assumption)) ?_
  rintro v4 w1 ⟨hO, hOwn⟩
  replace H := H.push hO (Ent.osl w.heap.size v4 24 32 _ _) (ownsRow_base hOwn H.size) (fun b hb => (hOwn.lt b hb).1)
  refine WL.as rfl rfl ?_
  refine WL.nil ?_
  refine WE.ret ?_
  refine ⟨[_], _, .nil _, ⟨rfl, trivial⟩, ?_⟩
  exact ⟨H.toOut0, H.l 0 rfl⟩

theorem SortedFunc_c {X : Nat → Prop} {w : World} {b1 : Nat} {s : Value} {ks : List (List UInt8)} (hX : ∀ b, X b → b < w.heap.size) (hf0 : Rob X (fun w => RdA w ⟨b1, 0, none⟩ [s]) w) (hf1 : Rob X (SlK s ks) w) (hkl : K32 ks) (hlen : ks.length ≤ 1000000) :
    Ret Try.prog 36 [valF b1, .func (.func 30) #[] #[]].toArray w fun v w' => Out Nil w w' ∧ w'.ownsRow w.heap.size 24 32 v ks.length ((sortL ks).flatMap kc) := by
  refine Ret.of_body (N := 12) Try.func36 rfl rfl (by simp) ?_
  have H := St.begin hX
  replace H := H.add (rob0 hf1)
  replace H := H.add (rob0 hf0)
  refine WE.seq_reg ?_
  refine WL.as rfl rfl ?_
  refine WL.nil ?_
  refine WE.seq_reg ?_
  refine WL.mv rfl rfl ?_
  refine WL.call TryT.fb40 rfl (Collect_c (s := s) H.yylt (by exact H.rob 0 rfl) (by exact H.rob 1 rfl) (by assumption) (by assumption)) ?_
  rintro v7 w1 ⟨hO, hOwn⟩
  replace H := H.push hO (Ent.osl w.heap.size v7 24 32 _ _) (ownsRow_base hOwn H.size) (fun b hb => (hOwn.lt b hb).1)
  refine WL.as rfl rfl ?_
  refine WL.nil ?_
  refine WE.seq_reg ?_
  refine WL.mv rfl rfl ?_
  refine WL.mv rfl rfl ?_
  refine WL.call TryT.fb41 rfl (SortFunc_c (H.l 0 rfl) hkl hlen) ?_
  rintro _ w2 ⟨rfl, hO, hOwn⟩
  replace H := H.setL (i := 0) rfl hO (Ent.osl w.heap.size v7 24 32 _ _) hOwn (fun b hb => .inl hb)
  refine WL.nil ?_
  refine WE.seq_reg ?_
  refine WL.mv rfl rfl ?_
  refine WL.as rfl rfl ?_
  refine WL.nil ?_
  refine WE.ret ?_
  refine ⟨[_], _, .nil _, ⟨rfl, trivial⟩, ?_⟩
  exact ⟨H.toOut0, H.l 0 rfl⟩

end Go.Sp.Try
