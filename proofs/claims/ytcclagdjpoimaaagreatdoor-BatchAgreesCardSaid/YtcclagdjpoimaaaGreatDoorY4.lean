/- Walks of functions, printed by a program of this session (gen.py) from notes on each function. -/
import Derived.Test.YtcclagdjpoimaaaGreatDoorY3
set_option maxRecDepth 100000
set_option maxHeartbeats 1000000
set_option linter.unusedVariables false
set_option linter.unusedSimpArgs false
namespace Go.Sp.Tryz
open Go.Proofs Go.RowKit Go.Sp

theorem rd_key {w : World} {a : Addr} {c : Ch} (h : RdA w a (chC c)) : RdA w (a.add 0) (kc c.k) := h.sub (Seg.l (Seg.all _))
theorem rd_val {w : World} {a : Addr} {c : Ch} (h : RdA w a (chC c)) (hk : c.k.length = 32) : RdA w (a.add 32) [c.s] := h.sub (Seg.r (Seg.l (Seg.all _)) (by rw [kc_length, hk]))
theorem rd_del {w : World} {a : Addr} {c : Ch} (h : RdA w a (chC c)) (hk : c.k.length = 32) : RdA w (a.add 33) [.bool c.d] := h.sub (Seg.r (o := 1) (Seg.r (o := 0) (Seg.all _) rfl) (by rw [kc_length, hk]))

theorem r12Check_c {X : Nat → Prop} {w : World} {s : Value} {l : List Ch} (hX : ∀ b, X b → b < w.heap.size) (hf0 : Rob X (SlX s l) w) (hx : XL l) (hlen : l.length ≤ 900000) :
    Ret Tryz.prog 12 [s].toArray w fun v w' => v = .int .i64 (chkK (l.map Ch.k)) ∧ Out Nil w w' := by
  refine Ret.of_body (N := 21) Tryz.func12 rfl rfl (by simp) ?_
  have H := St.begin hX
  replace H := H.add (rob0 hf0)
  refine WE.seq_reg ?_
  refine WL.as rfl rfl ?_
  refine WL.nil ?_
  refine WE.seq_reg ?_
  refine WL.as rfl rfl ?_
  refine WL.nil ?_
  refine WE.seq ?_
  refine WE.seq_reg ?_
  refine WL.as rfl rfl ?_
  refine WL.nil ?_
  refine WE.block ?_
  replace H := H.nilOsl 31 32
  refine WE.loop (α := Nat × Value) [3, 4, 5, 6, 7, 8, 9, 10, 11, 12, 13, 14, 15, 16, 17, 18] (fun p => [(4, .int .i64 (p.1 : Int)), (3, p.2)]) (fun p wl => p.1 ≤ l.length ∧ St X w wl [] [Ent.osl w.heap.size p.2 31 32 (((l.take p.1).map Ch.k)).length ((((l.take p.1).map Ch.k)).flatMap kc)] [SlX s l]) (fun p => l.length - p.1) (0, .slice none 0 0) ⟨rfl, rfl, trivial⟩ ⟨Nat.zero_le _, H⟩ ?_
  intro ⟨i, v_⟩ γ0 w1 hI
  try dsimp only at hI
  obtain ⟨hi, H⟩ := hI
  try dsimp only at hi
  refine WE.seq ?_
  refine WE.seq_reg ?_
  refine WL.mv rfl rfl ?_
  refine WL.mv rfl rfl ?_
  refine WL.pv (PV.lenS (by exact (H.p 0 rfl : (SlX s l) _)) TryzT.sl29 rfl) rfl ?_
  refine WL.pv (PV.lss rfl rfl rfl) rfl ?_
  refine WL.nil ?_
  refine WE.cond rfl (fun hc8 => ?_) (fun hc8 => ?_)
  · skip
    try simp only [decide_eq_true_eq, decide_eq_false_iff_not, ne_eq, Decidable.not_not, Bool.not_eq_true', Bool.not_eq_false', Bool.and_eq_true, Bool.or_eq_true, Bool.not_not, Bool.and_eq_false_iff, Bool.or_eq_false_iff, Int.not_lt, Int.not_le] at hc8
    have hlt : i < l.length := by omega
    have hki := hx _ (List.getElem_mem hlt)
    have hc34 := chC_len hki
    have hS : ((l.take (i + 1)).map Ch.k) = ((l.take i).map Ch.k) ++ [l[i].k] := by rw [List.take_succ_eq_append_getElem hlt, List.map_append]; rfl
    have htl : ((l.take i).map Ch.k).length = i := by rw [List.length_map, List.length_take]; omega
    refine WE.skip ?_
    refine WE.seq ?_
    refine WE.block ?_
    refine WE.reg ?_
    refine WL.mv rfl rfl ?_
    refine WL.mv rfl rfl ?_
    refine WL.mv rfl rfl ?_
    refine WL.pv (PV.idxS rfl (by exact (H.p 0 rfl : (SlX s l) _)) TryzT.sl29 TryzT.sz36 rfl rfl (by omega) (by omega)) rfl ?_
    refine WL.pv (PV.fieldAddrA rfl TryzT.fd36_0 rfl) rfl ?_
    refine WL.loadR rfl TryzT.ag31 rfl rfl ((rd_key (SlX.rd (by exact (H.p 0 rfl : (SlX s l) _)) hx i hlt))) (by (rw [TryzT.sz31]; refine congrArg some ?_; (simp only [kc_length, kw_length, List.length_replicate, List.length_append, List.length_cons, List.length_nil]; omega))) ?_
    refine WL.buildSliceF (l0 := (kc (List.replicate 32 0))) H rfl TryzT.st70 (by decide) (by rfl) (Fl.cons rfl (by rfl) (by (simp only [kc_length, kw_length, List.length_replicate, List.length_append, List.length_cons, List.length_nil]; omega)) (Laid.all (by (simp only [kc_length, kw_length, List.length_replicate, List.length_append, List.length_cons, List.length_nil]; omega))) Fl.nil) rfl ?_
    intro b17 w2 H
    refine WL.append (m := 1) H 1 TryzT.st70 (by decide) rfl rfl rfl (SlC.of_blk (n := 1) (H.l 0 rfl) (by rw [kc_length]; exact hki)) (kc_one _) (by omega) (by decide) rfl ?_
    intro v18 w3 H
    have hSl := congrArg List.length hS
    rw [List.length_append, List.length_singleton] at hSl
    have hSf := congrArg (List.flatMap kc) hS
    rw [List.flatMap_append, List.flatMap_singleton] at hSf
    replace H := H.forget 0
    replace H := H.conv (L' := [Ent.osl w.heap.size v18 31 32 (((l.take (i + 1)).map Ch.k)).length ((((l.take (i + 1)).map Ch.k)).flatMap kc)]) (by rw [hSl, hSf]; rfl)
    refine WL.as rfl rfl ?_
    refine WL.nil ?_
    refine WE.reg ?_
    refine WL.mv rfl rfl ?_
    refine WL.pv (PV.eq (v' := .int .i64 ((i + 1 : Nat) : Int)) (PV.add64 rfl rfl rfl (by omega) (by omega)) (by rfl)) rfl ?_
    refine WL.as rfl rfl ?_
    refine WL.nil ?_
    exact ⟨(i + 1, v18), (by repeat (first | with_reducible exact Off.refl _ _ | refine Off.upd rfl ?_ | refine Off.setAll rfl ?_ | refine Off.forget' rfl ?_)), ⟨rfl, rfl, trivial⟩, rfl, ⟨by dsimp only; omega, H⟩, (by dsimp only; omega)⟩
  · skip
    try simp only [decide_eq_true_eq, decide_eq_false_iff_not, ne_eq, Decidable.not_not, Bool.not_eq_true', Bool.not_eq_false', Bool.and_eq_true, Bool.or_eq_true, Bool.not_not, Bool.and_eq_false_iff, Bool.or_eq_false_iff, Int.not_lt, Int.not_le] at hc8
    have hie : l.take i = l := List.take_of_length_le (by omega)
    refine WE.exit ?_
    refine WE.seq_reg ?_
    refine WL.mv rfl rfl ?_
    rw [hie] at H
    replace H := H.freeze (i := 0) rfl
    replace H := H.add (show Rob _ (SlK v_ (l.map Ch.k)) _ from (H.rob 0 rfl).imp fun _ h => SlC.of_own h)
    refine WL.call TryzT.fb33 rfl (refCheck_c (ks := l.map Ch.k) H.yylt (H.rob 0 rfl) (K32_keys hx) (by rw [List.length_map]; omega)) ?_
    rintro _ w4 ⟨rfl, hO⟩
    replace H := H.out hO
    refine WL.as rfl rfl ?_
    refine WL.nil ?_
    refine WE.ret ?_
    refine ⟨[_], _, .nil _, ⟨rfl, trivial⟩, ?_⟩
    exact ⟨rfl, H.toOut0⟩

theorem r12Few_c {X : Nat → Prop} {w : World} {s : Value} {l : List Ch} (hX : ∀ b, X b → b < w.heap.size) (hf0 : Rob X (SlX s l) w) (hf1 : Rob X (CVals l) w) (hx : XL l) (hlen : l.length ≤ 9223372036854775807) (hvl : ∀ c ∈ l, c.v.length ≤ 9223372036854775807) :
    Ret Tryz.prog 15 [s].toArray w fun v w' => ∃ b : Bool, v = .bool b ∧ (b = true → l.length ≤ 20 ∧ ∀ c ∈ l, c.v.length ≤ 200) ∧ Out Nil w w' := by
  refine Ret.of_body (N := 20) Tryz.func15 rfl rfl (by simp) ?_
  have H := St.begin hX
  replace H := H.add (rob0 hf1)
  replace H := H.add (rob0 hf0)
  refine WE.seq_reg ?_
  refine WL.as rfl rfl ?_
  refine WL.nil ?_
  refine WE.seq ?_
  refine WE.seq_reg ?_
  refine WL.mv rfl rfl ?_
  refine WL.pv (PV.lenS (by exact (H.p 0 rfl : (SlX s l) _)) TryzT.sl29 rfl) rfl ?_
  refine WL.pv (PV.gtr rfl rfl rfl) rfl ?_
  refine WL.nil ?_
  refine WE.cond rfl (fun hc6 => ?_) (fun hc6 => ?_)
  · skip
    try simp only [decide_eq_true_eq, decide_eq_false_iff_not, ne_eq, Decidable.not_not, Bool.not_eq_true', Bool.not_eq_false', Bool.and_eq_true, Bool.or_eq_true, Bool.not_not, Bool.and_eq_false_iff, Bool.or_eq_false_iff, Int.not_lt, Int.not_le] at hc6
    refine WE.seq_reg ?_
    refine WL.as rfl rfl ?_
    refine WL.nil ?_
    refine WE.ret ?_
    refine ⟨[_], _, .nil _, ⟨rfl, trivial⟩, ?_⟩
    exact ⟨false, rfl, (fun h => by cases h), H.toOut0⟩
  · skip
    try simp only [decide_eq_true_eq, decide_eq_false_iff_not, ne_eq, Decidable.not_not, Bool.not_eq_true', Bool.not_eq_false', Bool.and_eq_true, Bool.or_eq_true, Bool.not_not, Bool.and_eq_false_iff, Bool.or_eq_false_iff, Int.not_lt, Int.not_le] at hc6
    have hl20 : l.length ≤ 20 := by omega
    refine WE.skip ?_
    refine WE.seq ?_
    refine WE.seq_reg ?_
    refine WL.as rfl rfl ?_
    refine WL.nil ?_
    refine WE.block ?_
    refine WE.loop (α := Nat) [2, 3, 7, 8, 9, 10, 11, 12, 13, 14, 15, 16, 17, 18, 19] (fun i => [(3, .int .i64 (i : Int))]) (fun i wl => i ≤ l.length ∧ (∀ j (h : j < l.length), j < i → l[j].v.length ≤ 200) ∧ St X w wl [] [] [SlX s l, CVals l]) (fun i => l.length - i) 0 ⟨rfl, trivial⟩ ⟨Nat.zero_le _, (fun j _ h => absurd h (Nat.not_lt_zero _)), H⟩ ?_
    intro i γ0 w1 hI
    try dsimp only at hI
    obtain ⟨hi, hall, H⟩ := hI
    refine WE.seq ?_
    refine WE.seq_reg ?_
    refine WL.mv rfl rfl ?_
    refine WL.mv rfl rfl ?_
    refine WL.pv (PV.lenS (by exact (H.p 0 rfl : (SlX s l) _)) TryzT.sl29 rfl) rfl ?_
    refine WL.pv (PV.lss rfl rfl rfl) rfl ?_
    refine WL.nil ?_
    refine WE.cond rfl (fun hc10 => ?_) (fun hc10 => ?_)
    · skip
      try simp only [decide_eq_true_eq, decide_eq_false_iff_not, ne_eq, Decidable.not_not, Bool.not_eq_true', Bool.not_eq_false', Bool.and_eq_true, Bool.or_eq_true, Bool.not_not, Bool.and_eq_false_iff, Bool.or_eq_false_iff, Int.not_lt, Int.not_le] at hc10
      have hlt : i < l.length := by omega
      have hki := hx _ (List.getElem_mem hlt)
      have hc34 := chC_len hki
      refine WE.skip ?_
      refine WE.seq ?_
      refine WE.block ?_
      refine WE.seq_reg ?_
      refine WL.mv rfl rfl ?_
      refine WL.mv rfl rfl ?_
      refine WL.pv (PV.idxS rfl (by exact (H.p 0 rfl : (SlX s l) _)) TryzT.sl29 TryzT.sz36 rfl rfl (by omega) (by omega)) rfl ?_
      refine WL.pv (PV.fieldAddrA rfl TryzT.fd36_1 rfl) rfl ?_
      refine WL.load1 rfl TryzT.ag32 rfl rfl ((rd_val (SlX.rd (by exact (H.p 0 rfl : (SlX s l) _)) hx i hlt) hki)) ?_
      refine WL.pv (PV.lenS ((show CVals l _ from (by exact (H.p 1 rfl : (CVals l) _))) _ (List.getElem_mem hlt)) TryzT.sl32 rfl) rfl ?_
      refine WL.pv (PV.gtr rfl rfl rfl) rfl ?_
      refine WL.nil ?_
      refine WE.cond rfl (fun hc19 => ?_) (fun hc19 => ?_)
      · skip
        try simp only [decide_eq_true_eq, decide_eq_false_iff_not, ne_eq, Decidable.not_not, Bool.not_eq_true', Bool.not_eq_false', Bool.and_eq_true, Bool.or_eq_true, Bool.not_not, Bool.and_eq_false_iff, Bool.or_eq_false_iff, Int.not_lt, Int.not_le] at hc19
        refine WE.seq_reg ?_
        refine WL.as rfl rfl ?_
        refine WL.nil ?_
        refine WE.ret ?_
        refine ⟨[_], _, .nil _, ⟨rfl, trivial⟩, ?_⟩
        exact ⟨false, rfl, (fun h => by cases h), H.toOut0⟩
      · skip
        try simp only [decide_eq_true_eq, decide_eq_false_iff_not, ne_eq, Decidable.not_not, Bool.not_eq_true', Bool.not_eq_false', Bool.and_eq_true, Bool.or_eq_true, Bool.not_not, Bool.and_eq_false_iff, Bool.or_eq_false_iff, Int.not_lt, Int.not_le] at hc19
        have hv2 : l[i].v.length ≤ 200 := by omega
        refine WE.skip ?_
        refine WE.reg ?_
        refine WL.mv rfl rfl ?_
        refine WL.pv (PV.eq (v' := .int .i64 ((i + 1 : Nat) : Int)) (PV.add64 rfl rfl rfl (by omega) (by omega)) (by rfl)) rfl ?_
        refine WL.as rfl rfl ?_
        refine WL.nil ?_
        exact ⟨i + 1, (by repeat (first | with_reducible exact Off.refl _ _ | refine Off.upd rfl ?_ | refine Off.setAll rfl ?_ | refine Off.forget' rfl ?_)), ⟨rfl, trivial⟩, rfl, ⟨by omega, (fun j hj hji => by rcases Nat.lt_or_ge j i with h_ | h_; exact hall j hj h_; (have e_ : j = i := by omega); subst e_; exact hv2), H⟩, (by omega)⟩
    · skip
      try simp only [decide_eq_true_eq, decide_eq_false_iff_not, ne_eq, Decidable.not_not, Bool.not_eq_true', Bool.not_eq_false', Bool.and_eq_true, Bool.or_eq_true, Bool.not_not, Bool.and_eq_false_iff, Bool.or_eq_false_iff, Int.not_lt, Int.not_le] at hc10
      have hie : i = l.length := by omega
      refine WE.exit ?_
      refine WE.seq_reg ?_
      refine WL.as rfl rfl ?_
      refine WL.nil ?_
      refine WE.ret ?_
      refine ⟨[_], _, .nil _, ⟨rfl, trivial⟩, ?_⟩
      exact ⟨true, rfl, (fun _ => ⟨hl20, fun c hc => by obtain ⟨j, hj, rfl⟩ := List.getElem_of_mem hc; exact hall j hj (by omega)⟩), H.toOut0⟩

theorem apM_snoc {l : List Ch} {m : List En} {i : Nat} (h : i < l.length) : apM m (l.take (i + 1)) = apC (apM m (l.take i)) l[i] := by
  unfold apM
  rw [List.take_succ_eq_append_getElem h, List.foldl_append]; rfl
theorem changes_c {X : Nat → Prop} {w : World} {s : Value} {l : List Ch} (hX : ∀ b, X b → b < w.heap.size) (hf0 : Rob X (SlX s l) w) (hf1 : Rob X (CVals l) w) (hx : XL l) (hlen : l.length ≤ 900000) :
    Ret Tryz.prog 17 [s].toArray w fun v w' => Out Nil w w' ∧ Rob X (SlX v l) w' := by
  refine Ret.of_body (N := 18) Tryz.func17 rfl rfl (by simp) ?_
  have H := St.begin hX
  replace H := H.add (rob0 hf1)
  replace H := H.add (rob0 hf0)
  have hone := SlX.one (s := s) (hf1.here)
  refine WE.seq_reg ?_
  refine WL.as rfl rfl ?_
  refine WL.nil ?_
  refine WE.seq_reg ?_
  refine WL.as rfl rfl ?_
  refine WL.nil ?_
  refine WE.seq ?_
  refine WE.seq_reg ?_
  refine WL.mv rfl rfl ?_
  refine WL.pv (PV.lenS (by exact (H.p 0 rfl : (SlX s l) _)) TryzT.sl29 rfl) rfl ?_
  refine WL.mv rfl rfl ?_
  refine WL.nil ?_
  refine WE.block ?_
  replace H := H.nilOsl 69 34
  refine WE.loop (α := Nat × Value) [3, 5, 8, 9, 10, 11, 12, 13, 14, 15, 16] (fun p => [(8, .int .i64 (p.1 : Int)), (3, p.2)]) (fun p wl => p.1 ≤ l.length ∧ St X w wl [] [Ent.osl w.heap.size p.2 69 34 ((l.take p.1).length) ((l.take p.1).flatMap chC)] [SlX s l, CVals l]) (fun p => l.length - p.1) (0, .slice none 0 0) ⟨rfl, rfl, trivial⟩ ⟨Nat.zero_le _, H⟩ ?_
  intro ⟨i, v_⟩ γ0 w1 hI
  try dsimp only at hI
  obtain ⟨hi, H⟩ := hI
  try dsimp only at hi
  refine WE.seq_reg ?_
  refine WL.pv (PV.lss rfl rfl rfl) rfl ?_
  refine WL.nil ?_
  refine WE.seq ?_
  refine WE.cond rfl (fun hc9 => ?_) (fun hc9 => ?_)
  · skip
    try simp only [decide_eq_true_eq, decide_eq_false_iff_not, ne_eq, Decidable.not_not, Bool.not_eq_true', Bool.not_eq_false', Bool.and_eq_true, Bool.or_eq_true, Bool.not_not, Bool.and_eq_false_iff, Bool.or_eq_false_iff, Int.not_lt, Int.not_le] at hc9
    have hlt : i < l.length := by omega
    have hki := hx _ (List.getElem_mem hlt)
    have hc34 := chC_len hki
    have hS : l.take (i + 1) = l.take i ++ [l[i]] := List.take_succ_eq_append_getElem hlt
    have htl : (l.take i).length = i := by rw [List.length_take]; omega
    refine WE.skip ?_
    refine WE.seq ?_
    refine WE.block ?_
    refine WE.seq_reg ?_
    refine WL.pv (PV.idxS rfl (by exact (H.p 0 rfl : (SlX s l) _)) TryzT.sl29 TryzT.sz36 rfl rfl (by omega) (by omega)) rfl ?_
    refine WL.loadR rfl TryzT.ag36 rfl rfl (SlX.rd (by exact (H.p 0 rfl : (SlX s l) _)) hx i hlt) (by (rw [TryzT.sz36]; refine congrArg some ?_; (simp [kc_length, kw_length, *]; done))) ?_
    refine WL.alloc H rfl TryzT.ze36 rfl ?_
    intro b5 w2 H
    refine WL.storeL H 0 rfl rfl rfl (new := chC l[i]) rfl (by (rw [TryzT.sz36]; refine congrArg some ?_; (simp [kc_length, kw_length, *]; done))) (one_chC (hone _ (List.getElem_mem hlt))) (Laid.at (Laid.all (by (simp only [kc_length, kw_length, List.length_replicate, List.length_append, List.length_cons, List.length_nil]; omega))) (by rfl)) rfl ?_
    intro w3 H
    refine WL.nil ?_
    refine WE.reg ?_
    refine WL.mv rfl rfl ?_
    refine WL.loadR rfl TryzT.ag36 rfl rfl (by exact Blk.segAt (H.l 0 rfl) (Seg.all _) (by rfl)) (by (rw [TryzT.sz36]; refine congrArg some ?_; (simp [kc_length, kw_length, *]; done))) ?_
    refine WL.buildSliceF (l0 := ((kc (List.replicate 32 0) ++ ([.slice none 0 0] ++ ([.bool false]))))) H rfl TryzT.st47 (by decide) (by rfl) (Fl.cons rfl (by rfl) (by (simp only [kc_length, kw_length, List.length_replicate, List.length_append, List.length_cons, List.length_nil]; omega)) (Laid.all (by (simp only [kc_length, kw_length, List.length_replicate, List.length_append, List.length_cons, List.length_nil]; omega))) Fl.nil) rfl ?_
    intro b14 w4 H
    refine WL.append (m := 1) H 2 TryzT.st47 (by decide) rfl rfl rfl (SlC.of_blk (n := 1) (H.l 0 rfl) hc34) (one_chC (hone _ (List.getElem_mem hlt))) (by omega) (by decide) rfl ?_
    intro v15 w5 H
    have hSl := congrArg List.length hS
    rw [List.length_append, List.length_singleton] at hSl
    have hSf := congrArg (List.flatMap chC) hS
    rw [List.flatMap_append, List.flatMap_singleton] at hSf
    replace H := H.forget 0
    replace H := H.forget 0
    replace H := H.conv (L' := [Ent.osl w.heap.size v15 69 34 ((l.take (i + 1)).length) ((l.take (i + 1)).flatMap chC)]) (by rw [hSl, hSf]; rfl)
    refine WL.as rfl rfl ?_
    refine WL.nil ?_
    refine WE.reg ?_
    refine WL.pv (PV.eq (v' := .int .i64 ((i + 1 : Nat) : Int)) (PV.add64 rfl rfl rfl (by omega) (by omega)) (by rfl)) rfl ?_
    refine WL.mv rfl rfl ?_
    refine WL.nil ?_
    exact ⟨(i + 1, v15), (by repeat (first | with_reducible exact Off.refl _ _ | refine Off.upd rfl ?_ | refine Off.setAll rfl ?_ | refine Off.forget' rfl ?_)), ⟨rfl, rfl, trivial⟩, rfl, ⟨by dsimp only; omega, H⟩, (by dsimp only; omega)⟩
  · skip
    try simp only [decide_eq_true_eq, decide_eq_false_iff_not, ne_eq, Decidable.not_not, Bool.not_eq_true', Bool.not_eq_false', Bool.and_eq_true, Bool.or_eq_true, Bool.not_not, Bool.and_eq_false_iff, Bool.or_eq_false_iff, Int.not_lt, Int.not_le] at hc9
    have hie : l.take i = l := List.take_of_length_le (by omega)
    refine WE.exit ?_
    refine WE.seq_reg ?_
    refine WL.mv rfl rfl ?_
    refine WL.as rfl rfl ?_
    refine WL.nil ?_
    refine WE.ret ?_
    refine ⟨[_], _, .nil _, ⟨rfl, trivial⟩, ?_⟩
    rw [hie] at H
    exact ⟨H.toOut0, (rob_own hX (H.l 0 rfl)).imp fun _ h => SlC.of_own h⟩

end Go.Sp.Tryz

set_option maxRecDepth 100000
set_option maxHeartbeats 1000000
set_option linter.unusedVariables false
set_option linter.unusedSimpArgs false
namespace Go.Sp.Tryz
open Go.Proofs Go.RowKit Go.Sp
theorem BEqual_c {X : Nat → Prop} {w : World} {s1 s2 : Value} {la lb : List UInt8} (hX : ∀ b, X b → b < w.heap.size) (hf0 : Rob X (SlB s1 la) w) (hf1 : Rob X (SlB s2 lb) w) :
    Ret Tryz.prog 45 [s1, s2].toArray w fun v w' => v = .bool (la == lb) ∧ Out Nil w w' := by
  refine Ret.of_body (N := 10) Tryz.func45 rfl rfl (by simp) ?_
  have H := St.begin hX
  replace H := H.add (rob0 hf1)
  replace H := H.add (rob0 hf0)
  refine WE.seq_reg ?_
  refine WL.as rfl rfl ?_
  refine WL.nil ?_
  refine WE.seq_reg ?_
  refine WL.mv rfl rfl ?_
  refine WL.strOf rfl TryzT.sl32 TryzT.in5 Tryz.underlying9 rfl (H.p 0 rfl) rfl ?_
  refine WL.mv rfl rfl ?_
  refine WL.strOf rfl TryzT.sl32 TryzT.in5 Tryz.underlying9 rfl (H.p 1 rfl) rfl ?_
  refine WL.pv (PV.eqlStr (l := la) (m := lb) rfl rfl rfl) rfl ?_
  refine WL.as rfl rfl ?_
  refine WL.nil ?_
  refine WE.ret ?_
  refine ⟨[_], _, .nil _, ⟨rfl, trivial⟩, ?_⟩
  exact ⟨rfl, H.toOut0⟩

def ordX : List En → List En → Int
  | [], _ => 1
  | _ :: _, [] => -1
  | x :: _, y :: _ => cmpI x.k y.k
def delX (e : En) : Ch := ⟨e.k, .slice none 0 0, [], true⟩
def stepX (a b : List En) : List Ch :=
  match a, b with
  | [], [] => []
  | x :: _, [] => [delX x]
  | [], y :: _ => [chE y]
  | x :: _, y :: _ => if cmpI x.k y.k < 0 then [delX x] else if 0 < cmpI x.k y.k then [chE y] else if x.v = y.v then [] else [chE y]
def tlA (a b : List En) : List En := if ordX a b ≤ 0 then a.tail else a
def tlB (a b : List En) : List En := if 0 ≤ ordX a b then b.tail else b
theorem tl_lt {a b : List En} (h : ¬ (a = [] ∧ b = [])) : (tlA a b).length + (tlB a b).length < a.length + b.length := by
  unfold tlA tlB
  cases a with
  | nil =>
    cases b with
    | nil => exact absurd ⟨rfl, rfl⟩ h
    | cons y b => simp [ordX]
  | cons x a =>
    cases b with
    | nil => simp [ordX]
    | cons y b =>
      show (if cmpI x.k y.k ≤ 0 then (x :: a).tail else x :: a).length + (if 0 ≤ cmpI x.k y.k then (y :: b).tail else y :: b).length < _
      by_cases h1 : cmpI x.k y.k ≤ 0
      · rw [if_pos h1]
        by_cases h2 : 0 ≤ cmpI x.k y.k
        · rw [if_pos h2]; simp; omega
        · rw [if_neg h2]; simp
      · rw [if_neg h1, if_pos (by omega)]; (simp; done)
def diffN : Nat → List En → List En → List Ch
  | 0, _, _ => []
  | n + 1, a, b => stepX a b ++ diffN n (tlA a b) (tlB a b)
theorem diffN_nil : ∀ n, diffN n [] [] = []
  | 0 => rfl
  | n + 1 => by
    show stepX [] [] ++ diffN n (tlA [] []) (tlB [] []) = []
    have e1 : tlA [] [] = [] := rfl
    have e2 : tlB [] [] = [] := rfl
    rw [e1, e2, diffN_nil n]; rfl
theorem diffN_more : ∀ (n m : Nat) (a b : List En), a.length + b.length ≤ n → a.length + b.length ≤ m → diffN n a b = diffN m a b
  | 0, m, a, b, h1, h2 => by
    have ha : a = [] := List.eq_nil_of_length_eq_zero (by omega)
    have hb : b = [] := List.eq_nil_of_length_eq_zero (by omega)
    subst ha; subst hb
    rw [diffN_nil, diffN_nil]
  | n + 1, 0, a, b, h1, h2 => by
    have ha : a = [] := List.eq_nil_of_length_eq_zero (by omega)
    have hb : b = [] := List.eq_nil_of_length_eq_zero (by omega)
    subst ha; subst hb
    rw [diffN_nil, diffN_nil]
  | n + 1, m + 1, a, b, h1, h2 => by
    by_cases h : a = [] ∧ b = []
    · obtain ⟨rfl, rfl⟩ := h
      rw [diffN_nil, diffN_nil]
    · have := tl_lt h
      show stepX a b ++ diffN n (tlA a b) (tlB a b) = stepX a b ++ diffN m (tlA a b) (tlB a b)
      rw [diffN_more n m _ _ (by omega) (by omega)]
def diffX (a b : List En) : List Ch := diffN (a.length + b.length) a b
theorem diffX_nil : diffX [] [] = [] := rfl
theorem diffX_step {a b : List En} (h : ¬ (a = [] ∧ b = [])) : diffX a b = stepX a b ++ diffX (tlA a b) (tlB a b) := by
  have h1 := tl_lt h
  obtain ⟨n, hn⟩ : ∃ n, a.length + b.length = n + 1 := ⟨a.length + b.length - 1, by omega⟩
  unfold diffX
  rw [hn]
  show stepX a b ++ diffN n (tlA a b) (tlB a b) = _
  rw [diffN_more n _ _ _ (by omega) (Nat.le_refl _)]
theorem stepX_len (a b : List En) : (stepX a b).length ≤ 1 := by
  unfold stepX
  split <;> (try split) <;> (try split) <;> (try split) <;> simp
theorem diffN_len : ∀ (n : Nat) (a b : List En), (diffN n a b).length ≤ n
  | 0, _, _ => Nat.le_refl _
  | n + 1, a, b => by
    show (stepX a b ++ _).length ≤ _
    rw [List.length_append]
    have h1 := stepX_len a b
    have h2 := diffN_len n (tlA a b) (tlB a b)
    omega
theorem KL.tail {a : List En} (h : KL a) : KL a.tail := fun e he => h e (List.mem_of_mem_tail he)
theorem SlE.tl {v : Value} {a : List En} {w : World} (h : SlE v a w) (hk : KL a) (ha : 0 < a.length) : SlE (subSl v 33 1 a.length) a.tail w := by
  have h1 := SlC.sub h (lo := 1) (hi := a.length) (by omega) (Nat.le_refl _)
  rw [flG_cut a (fun e he => enC_length (hk e he)) 1 (a.length - 1) (by omega), List.drop_one, List.take_of_length_le (l := a.tail) (by simp)] at h1
  unfold SlE
  rwa [List.length_tail]
theorem ord_neg {a b : List En} (h : ordX a b < 0) : 0 < a.length ∧ ∀ ha : 0 < a.length, stepX a b = [delX a[0]] := by
  cases a with
  | nil => cases h
  | cons x a =>
    refine ⟨by simp, fun _ => ?_⟩
    cases b with
    | nil => rfl
    | cons y b =>
      have h' : cmpI x.k y.k < 0 := h
      show (if cmpI x.k y.k < 0 then _ else _) = _
      rw [if_pos h']; rfl
theorem ord_pos {a b : List En} (h : 0 < ordX a b) (hne : ¬ (a = [] ∧ b = [])) : 0 < b.length ∧ ∀ hb : 0 < b.length, stepX a b = [chE b[0]] := by
  cases b with
  | nil =>
    cases a with
    | nil => exact absurd ⟨rfl, rfl⟩ hne
    | cons x a => exact absurd h (by show ¬ (0 : Int) < -1; decide)
  | cons y b =>
    refine ⟨by simp, fun _ => ?_⟩
    cases a with
    | nil => rfl
    | cons x a =>
      have h' : 0 < cmpI x.k y.k := h
      show (if cmpI x.k y.k < 0 then _ else if 0 < cmpI x.k y.k then _ else _) = _
      rw [if_neg (by omega), if_pos h']; rfl
theorem ord_zero {a b : List En} (h : ordX a b = 0) : 0 < a.length ∧ 0 < b.length ∧ ∀ (ha : 0 < a.length) (hb : 0 < b.length), stepX a b = if a[0].v = b[0].v then [] else [chE b[0]] := by
  cases a with
  | nil => cases h
  | cons x a =>
    cases b with
    | nil => cases h
    | cons y b =>
      have h' : cmpI x.k y.k = 0 := h
      refine ⟨by simp, by simp, fun _ _ => ?_⟩
      show (if cmpI x.k y.k < 0 then _ else if 0 < cmpI x.k y.k then _ else _) = _
      rw [if_neg (by omega), if_neg (by omega)]; rfl
theorem ord_both {a b : List En} (ha : 0 < a.length) (hb : 0 < b.length) : ordX a b = cmpI a[0].k b[0].k := by
  cases a with
  | nil => cases ha
  | cons x a =>
    cases b with
    | nil => cases hb
    | cons y b => rfl
theorem ord_pos_b {a b : List En} (h : 0 ≤ ordX a b) (hne : ¬ (a = [] ∧ b = [])) : 0 < b.length := by
  rcases Int.lt_or_eq_of_le h with h1 | h1
  · exact (ord_pos h1 hne).1
  · exact (ord_zero h1.symm).2.1
theorem ord_neg_a {a b : List En} (h : ordX a b ≤ 0) : 0 < a.length := by
  rcases Int.lt_or_eq_of_le h with h1 | h1
  · exact (ord_neg h1).1
  · exact (ord_zero h1).1
theorem chE_len {e : En} (h : e.k.length = 32) : (chC (chE e)).length = 34 := chC_len h
theorem delX_len {e : En} (h : e.k.length = 32) : (chC (delX e)).length = 34 := chC_len h
theorem Vals.tail {a : List En} {w : World} (h : Vals a w) : Vals a.tail w := fun e he => h e (List.mem_of_mem_tail he)

theorem diff_c {X : Nat → Prop} {w : World} {s1 s2 : Value} {a b : List En} (hX : ∀ b, X b → b < w.heap.size) (hf0 : Rob X (SlE s1 a) w) (hf1 : Rob X (SlE s2 b) w) (hf2 : Rob X (Vals a) w) (hf3 : Rob X (Vals b) w) (hka : KL a) (hkb : KL b) (hsz : a.length + b.length ≤ 900000) :
    Ret Tryz.prog 43 [s1, s2].toArray w fun v w' => Out Nil w w' ∧ w'.ownsRow w.heap.size 69 34 v (diffX a b).length ((diffX a b).flatMap chC) := by
  refine Ret.of_body (N := 79) Tryz.func43 rfl rfl (by simp) ?_
  have H := St.begin hX
  replace H := H.add (rob0 hf3)
  replace H := H.add (rob0 hf2)
  replace H := H.add (rob0 hf1)
  replace H := H.add (rob0 hf0)
  refine WE.seq_reg ?_
  refine WL.as rfl rfl ?_
  refine WL.nil ?_
  refine WE.seq_reg ?_
  refine WL.as rfl rfl ?_
  refine WL.nil ?_
  refine WE.seq ?_
  refine WE.block ?_
  replace H := H.nilOsl 69 34
  refine WE.loop (α := (List En × List En) × (Value × Value × Value) × List Ch) [0, 1, 5, 6, 7, 8, 9, 10, 11, 12, 13, 14, 15, 16, 17, 18, 19, 20, 21, 22, 23, 24, 25, 26, 27, 28, 29, 30, 31, 32, 33, 34, 35, 36, 37, 38, 39, 40, 41, 42, 43, 44, 45, 46, 47, 48, 49, 50, 51, 52, 53, 54, 55, 56, 57, 58, 59, 60, 61, 62, 63, 64, 65, 66, 67, 68, 69, 70, 71, 72, 73, 74, 75, 76, 77] (fun p => [(0, p.2.1.1), (1, p.2.1.2.1), (5, p.2.1.2.2)]) (fun p wl => (p.2.2 ++ diffX p.1.1 p.1.2 = diffX a b ∧ KL p.1.1 ∧ KL p.1.2 ∧ p.2.2.length + (p.1.1.length + p.1.2.length) ≤ a.length + b.length) ∧ St X w wl [] [Ent.osl w.heap.size p.2.1.2.2 69 34 ((p.2.2).length) ((p.2.2).flatMap chC)] [SlE p.2.1.1 p.1.1, SlE p.2.1.2.1 p.1.2, Vals p.1.1, Vals p.1.2]) (fun p => p.1.1.length + p.1.2.length) ((a, b), (s1, s2, .slice none 0 0), []) ⟨rfl, rfl, rfl, trivial⟩ ⟨⟨rfl, hka, hkb, by simp⟩, H⟩ ?_
  intro ⟨⟨a_, b_⟩, ⟨sA, sB, v_⟩, outs⟩ γ0 w1 hI
  try dsimp only at hI
  obtain ⟨⟨hdx, hkA, hkB, hbd⟩, H⟩ := hI
  try dsimp only at hdx hkA hkB hbd
  refine WE.seq ?_
  refine WE.seq_reg ?_
  refine WL.mv rfl rfl ?_
  refine WL.pv (PV.lenS (by exact (H.p 0 rfl : (SlE sA a_) _)) TryzT.sl22 rfl) rfl ?_
  refine WL.pv (PV.gtr rfl rfl rfl) rfl ?_
  refine WL.mv rfl rfl ?_
  refine WL.split (t := 10) rfl (fun hg10 => ?_) (fun hg10 => ?_)
  · skip
    refine WL.known (t := 9) (c := true) rfl hg10 ?_
    try simp only [decide_eq_true_eq, decide_eq_false_iff_not, ne_eq, Decidable.not_not, Bool.not_eq_true', Bool.not_eq_false', Bool.and_eq_true, Bool.or_eq_true, Bool.not_not, Bool.and_eq_false_iff, Bool.or_eq_false_iff, Int.not_lt, Int.not_le] at hg10
    have hne : ¬ (a_ = [] ∧ b_ = []) := by rintro ⟨h_, _⟩; rw [h_] at hg10; simp at hg10
    refine WL.off rfl ?_
    refine WL.off rfl ?_
    refine WL.off rfl ?_
    refine WL.pv (PV.pick_t rfl rfl rfl) rfl ?_
    refine WL.nil ?_
    refine WE.cond_t rfl ?_
    refine WE.skip ?_
    refine WE.block ?_
    refine WE.seq_reg ?_
    refine WL.as rfl rfl ?_
    refine WL.nil ?_
    refine WE.cut (α := Unit) [6, 15, 16, 17, 18, 19, 20, 21, 22, 23, 24, 25, 26, 27, 28, 29, 30, 31] (fun _ => [(6, .int .i64 (ordX a_ b_))]) (fun _ wl => St X w wl [] [Ent.osl w.heap.size v_ 69 34 ((outs).length) ((outs).flatMap chC)] [SlE sA a_, SlE sB b_, Vals a_, Vals b_]) ?_ ?_
    · skip
      refine WE.block ?_
      refine WE.seq_reg ?_
      refine WL.mv rfl rfl ?_
      refine WL.pv (PV.lenS (by exact (H.p 0 rfl : (SlE sA a_) _)) TryzT.sl22 rfl) rfl ?_
      refine WL.pv (PV.eql rfl rfl rfl) rfl ?_
      refine WL.as rfl rfl ?_
      refine WL.nil ?_
      refine WE.cond rfl (fun hc24 => ?_) (fun hc24 => ?_)
      · skip
        try simp only [decide_eq_true_eq, decide_eq_false_iff_not, ne_eq, Decidable.not_not, Bool.not_eq_true', Bool.not_eq_false', Bool.and_eq_true, Bool.or_eq_true, Bool.not_not, Bool.and_eq_false_iff, Bool.or_eq_false_iff, Int.not_lt, Int.not_le] at hc24
        have hord : (1 : Int) = ordX a_ b_ := by rw [show a_ = [] from List.eq_nil_of_length_eq_zero (by omega)]; rfl
        refine WE.reg ?_
        refine WL.as rfl rfl ?_
        refine WL.nil ?_
        exact ⟨(), (by repeat (first | with_reducible exact Off.refl _ _ | refine Off.upd rfl ?_)), ⟨(by (show Value.int .i64 _ = _; rw [hord])), trivial⟩, rfl, H⟩
      · skip
        try simp only [decide_eq_true_eq, decide_eq_false_iff_not, ne_eq, Decidable.not_not, Bool.not_eq_true', Bool.not_eq_false', Bool.and_eq_true, Bool.or_eq_true, Bool.not_not, Bool.and_eq_false_iff, Bool.or_eq_false_iff, Int.not_lt, Int.not_le] at hc24
        have hla : 0 < a_.length := by omega
        refine WE.seq_reg ?_
        refine WL.mv rfl rfl ?_
        refine WL.pv (PV.lenS (by exact (H.p 1 rfl : (SlE sB b_) _)) TryzT.sl22 rfl) rfl ?_
        refine WL.pv (PV.eql rfl rfl rfl) rfl ?_
        refine WL.as rfl rfl ?_
        refine WL.nil ?_
        refine WE.cond rfl (fun hc28 => ?_) (fun hc28 => ?_)
        · skip
          try simp only [decide_eq_true_eq, decide_eq_false_iff_not, ne_eq, Decidable.not_not, Bool.not_eq_true', Bool.not_eq_false', Bool.and_eq_true, Bool.or_eq_true, Bool.not_not, Bool.and_eq_false_iff, Bool.or_eq_false_iff, Int.not_lt, Int.not_le] at hc28
          have hord : (-1 : Int) = ordX a_ b_ := by rw [show b_ = [] from List.eq_nil_of_length_eq_zero (by omega)]; cases a_ with | nil => cases hla | cons x a1 => rfl
          refine WE.reg ?_
          refine WL.as rfl rfl ?_
          refine WL.nil ?_
          exact ⟨(), (by repeat (first | with_reducible exact Off.refl _ _ | refine Off.upd rfl ?_)), ⟨(by (show Value.int .i64 _ = _; rw [hord])), trivial⟩, rfl, H⟩
        · skip
          try simp only [decide_eq_true_eq, decide_eq_false_iff_not, ne_eq, Decidable.not_not, Bool.not_eq_true', Bool.not_eq_false', Bool.and_eq_true, Bool.or_eq_true, Bool.not_not, Bool.and_eq_false_iff, Bool.or_eq_false_iff, Int.not_lt, Int.not_le] at hc28
          have hlb : 0 < b_.length := by omega
          have hord := (ord_both hla hlb).symm
          have hka0 := hkA _ (List.getElem_mem hla)
          have hkb0 := hkB _ (List.getElem_mem hlb)
          refine WE.draw (.take 0 (.take 1 (.take 2 (.take 3 (.take 4 (.take 5 (.take 6 (.take 7 (.pick1 8 (.take 9 .done)))))))))) TryzT.mixed (by kernel_rfl) ?_
          replace H := H.out (Out.drew _)
          refine WP.mv rfl rfl rfl ?_
          refine WP.take_pure rfl rfl (PV.idxS rfl (by exact (H.p 0 rfl : (SlE sA a_) _)) TryzT.sl22 TryzT.sz34 rfl rfl (by decide) (by omega)) ?_
          refine WP.take_pure rfl rfl (PV.fieldAddrA rfl TryzT.fd34_0 rfl) ?_
          refine WP.readA rfl rfl rfl TryzT.ag31 rfl ((SlE.rdk (by exact (H.p 0 rfl : (SlE sA a_) _)) hkA 0 hla)) (by (rw [TryzT.sz31]; refine congrArg some ?_; (simp only [kc_length, kw_length, List.length_replicate, List.length_append, List.length_cons, List.length_nil]; omega))) ?_
          refine WP.mv rfl rfl rfl ?_
          refine WP.take_pure rfl rfl (PV.idxS rfl (by exact (H.p 1 rfl : (SlE sB b_) _)) TryzT.sl22 TryzT.sz34 rfl rfl (by decide) (by omega)) ?_
          refine WP.take_pure rfl rfl (PV.fieldAddrA rfl TryzT.fd34_0 rfl) ?_
          refine WP.readA rfl rfl rfl TryzT.ag31 rfl ((SlE.rdk (by exact (H.p 1 rfl : (SlE sB b_) _)) hkB 0 hlb)) (by (rw [TryzT.sz31]; refine congrArg some ?_; (simp only [kc_length, kw_length, List.length_replicate, List.length_append, List.length_cons, List.length_nil]; omega))) ?_
          refine WP.pick1 rfl ?_
          refine WL.call TryzT.fb77 rfl (bitsCompare_c (k := a_[0].k) (l := b_[0].k) H.yylt  hka0 hkb0) ?_
          rintro _ w2 ⟨rfl, hO⟩
          replace H := H.out hO
          refine WL.nil ⟨(List.forall_mem_cons.2 ⟨(by exact (fun h => absurd (show waits _ 8 7 = false from h) (by decide +kernel))), (List.forall_mem_cons.2 ⟨(by exact (fun h => absurd (show waits _ 8 3 = false from h) (by decide +kernel))), (fun _ h => by cases h)⟩)⟩), ?_⟩
          refine WP.as rfl rfl rfl ?_
          refine WP.done ?_
          exact ⟨(), (by repeat (first | with_reducible exact Off.refl _ _ | refine Off.upd rfl ?_)), ⟨(by (show Value.int .i64 _ = _; rw [hord])), trivial⟩, rfl, H⟩
    · skip
      intro _ γ w3 hI
      try dsimp only at hI
      replace H := hI
      refine WE.cut (α := Value) [5, 32, 33, 34, 35, 36, 37, 38, 39, 40, 41, 42, 43, 44, 45, 46, 47, 48, 49, 50, 51, 52, 53, 54, 55, 56, 57, 58, 59, 60, 61, 62, 63, 64, 65, 66, 67, 68, 69] (fun g1_ => [(5, g1_)]) (fun g1_ wl => St X w wl [] [Ent.osl w.heap.size g1_ 69 34 ((outs ++ stepX a_ b_).length) ((outs ++ stepX a_ b_).flatMap chC)] [SlE sA a_, SlE sB b_, Vals a_, Vals b_]) ?_ ?_
      · skip
        refine WE.block ?_
        refine WE.seq_reg ?_
        refine WL.mv rfl rfl ?_
        refine WL.pv (PV.lss rfl rfl rfl) rfl ?_
        refine WL.as rfl rfl ?_
        refine WL.nil ?_
        refine WE.cond rfl (fun hc32 => ?_) (fun hc32 => ?_)
        · skip
          try simp only [decide_eq_true_eq, decide_eq_false_iff_not, ne_eq, Decidable.not_not, Bool.not_eq_true', Bool.not_eq_false', Bool.and_eq_true, Bool.or_eq_true, Bool.not_not, Bool.and_eq_false_iff, Bool.or_eq_false_iff, Int.not_lt, Int.not_le] at hc32
          have hon : ordX a_ b_ < 0 := by exact hc32
          have hla := (ord_neg hon).1
          have hst := (ord_neg hon).2 hla
          have hka0 := hkA _ (List.getElem_mem hla)
          refine WE.reg ?_
          refine WL.mv rfl rfl ?_
          refine WL.mv rfl rfl ?_
          refine WL.pv (PV.idxS rfl (by exact (H.p 0 rfl : (SlE sA a_) _)) TryzT.sl22 TryzT.sz34 rfl rfl (by decide) (by omega)) rfl ?_
          refine WL.pv (PV.fieldAddrA rfl TryzT.fd34_0 rfl) rfl ?_
          refine WL.loadR rfl TryzT.ag31 rfl rfl ((SlE.rdk (by exact (H.p 0 rfl : (SlE sA a_) _)) hkA 0 hla)) (by (rw [TryzT.sz31]; refine congrArg some ?_; (simp only [kc_length, kw_length, List.length_replicate, List.length_append, List.length_cons, List.length_nil]; omega))) ?_
          refine WL.pv (PV.buildS rfl TryzT.pl69 TryzT.ze69 (Fl.cons rfl (by rfl) (by (simp only [kc_length, kw_length, List.length_replicate, List.length_append, List.length_cons, List.length_nil]; omega)) (Laid.left (Laid.all (by (simp only [kc_length, kw_length, List.length_replicate, List.length_append, List.length_cons, List.length_nil]; omega)))) (Fl.cons rfl (by rfl) (by (simp only [kc_length, kw_length, List.length_replicate, List.length_append, List.length_cons, List.length_nil]; done)) (Laid.right (Laid.right (Laid.all (by (simp only [kc_length, kw_length, List.length_replicate, List.length_append, List.length_cons, List.length_nil]; done))) (by with_reducible rfl)) (by (simp only [kc_length, kw_length, List.length_replicate, List.length_append, List.length_cons, List.length_nil]; omega))) Fl.nil))) rfl ?_
          refine WL.buildSliceF (l0 := ((kc (List.replicate 32 0) ++ ([.slice none 0 0] ++ ([.bool false]))))) H rfl TryzT.st47 (by decide) (by rfl) (Fl.cons rfl (by rfl) (by (simp only [kc_length, kw_length, List.length_replicate, List.length_append, List.length_cons, List.length_nil]; omega)) (Laid.all (by (simp only [kc_length, kw_length, List.length_replicate, List.length_append, List.length_cons, List.length_nil]; omega))) Fl.nil) rfl ?_
          intro b41 w4 H
          refine WL.append (m := 1) H 1 TryzT.st47 (by decide) rfl rfl rfl (SlC.of_blk (n := 1) (H.l 0 rfl) (delX_len hka0)) (by exact one_chC (c := delX a_[0]) rfl) (by omega) (by decide) rfl ?_
          intro v42 w5 H
          have hSl : (outs ++ stepX a_ b_).length = outs.length + 1 := by rw [hst, List.length_append]; rfl
          have hSf : (outs ++ stepX a_ b_).flatMap chC = outs.flatMap chC ++ chC (delX a_[0]) := by rw [hst, List.flatMap_append, List.flatMap_singleton]
          replace H := H.forget 0
          replace H := H.conv (L' := [Ent.osl w.heap.size v42 69 34 ((outs ++ stepX a_ b_).length) ((outs ++ stepX a_ b_).flatMap chC)]) (by rw [hSl, hSf]; rfl)
          refine WL.as rfl rfl ?_
          refine WL.nil ?_
          exact ⟨v42, (by repeat (first | with_reducible exact Off.refl _ _ | refine Off.upd rfl ?_)), ⟨rfl, trivial⟩, rfl, H⟩
        · skip
          try simp only [decide_eq_true_eq, decide_eq_false_iff_not, ne_eq, Decidable.not_not, Bool.not_eq_true', Bool.not_eq_false', Bool.and_eq_true, Bool.or_eq_true, Bool.not_not, Bool.and_eq_false_iff, Bool.or_eq_false_iff, Int.not_lt, Int.not_le] at hc32
          have hon : ¬ ordX a_ b_ < 0 := by omega
          refine WE.seq_draw (.take 0 (.take 1 (.take 2 (.take 3 (.take 4 (.take 5 (.take 6 (.take 7 (.take 8 (.take 9 (.take 10 (.pick1 11 (.take 12 (.take 13 (.take 14 .done))))))))))))))) TryzT.mixed (by kernel_rfl) ?_
          replace H := H.out (Out.drew _)
          refine WP.mv rfl rfl rfl ?_
          refine WP.take_pure rfl rfl (PV.gtr rfl rfl rfl) ?_
          refine WP.mv rfl rfl rfl ?_
          refine WP.split (t := 46) rfl (fun hg46 => ?_) (fun hg46 => ?_)
          · skip
            refine WP.known (t := 45) (c := true) rfl hg46 ?_
            try simp only [decide_eq_true_eq, decide_eq_false_iff_not, ne_eq, Decidable.not_not, Bool.not_eq_true', Bool.not_eq_false', Bool.and_eq_true, Bool.or_eq_true, Bool.not_not, Bool.and_eq_false_iff, Bool.or_eq_false_iff, Int.not_lt, Int.not_le] at hg46
            have hop : 0 < ordX a_ b_ := by omega
            have hlb := (ord_pos hop hne).1
            have hst := (ord_pos hop hne).2 hlb
            have hkb0 := hkB _ (List.getElem_mem hlb)
            have hob := OneS.of (by exact (H.p 3 rfl : (Vals b_) _)) _ (List.getElem_mem hlb)
            refine WP.take_off rfl rfl ?_
            refine WP.take_off rfl rfl ?_
            refine WP.take_off rfl rfl ?_
            refine WP.take_off rfl rfl ?_
            refine WP.take_off rfl rfl ?_
            refine WP.take_off rfl rfl ?_
            refine WP.take_off rfl rfl ?_
            refine WP.take_off rfl rfl ?_
            refine WP.pick1 rfl ?_
            refine WL.off rfl ?_
            refine WL.nil ⟨(fun _ h => by cases h), ?_⟩
            refine WP.take_off rfl rfl ?_
            refine WP.take_pure rfl rfl (PV.pick_t rfl rfl rfl) ?_
            refine WP.as rfl rfl rfl ?_
            refine WP.done ?_
            refine WE.cond_t rfl ?_
            refine WE.draw (.take 0 (.take 1 (.take 2 (.take 3 (.take 4 (.take 5 (.take 6 (.take 7 (.take 8 (.take 9 (.pick1 10 (.pick1 11 (.take 12 .done))))))))))))) TryzT.mixed (by kernel_rfl) ?_
            replace H := H.out (Out.drew _)
            refine WP.mv rfl rfl rfl ?_
            refine WP.mv rfl rfl rfl ?_
            refine WP.take_pure rfl rfl (PV.idxS rfl (by exact (H.p 1 rfl : (SlE sB b_) _)) TryzT.sl22 TryzT.sz34 rfl rfl (by decide) (by omega)) ?_
            refine WP.take_pure rfl rfl (PV.fieldAddrA rfl TryzT.fd34_0 rfl) ?_
            refine WP.readA rfl rfl rfl TryzT.ag31 rfl ((SlE.rdk (by exact (H.p 1 rfl : (SlE sB b_) _)) hkB 0 hlb)) (by (rw [TryzT.sz31]; refine congrArg some ?_; (simp only [kc_length, kw_length, List.length_replicate, List.length_append, List.length_cons, List.length_nil]; omega))) ?_
            refine WP.mv rfl rfl rfl ?_
            refine WP.take_pure rfl rfl (PV.idxS rfl (by exact (H.p 1 rfl : (SlE sB b_) _)) TryzT.sl22 TryzT.sz34 rfl rfl (by decide) (by omega)) ?_
            refine WP.take_pure rfl rfl (PV.fieldAddrA rfl TryzT.fd34_1 rfl) ?_
            refine WP.take_read rfl rfl (RV.loadOne rfl TryzT.ag32 rfl) ((SlE.rdv (by exact (H.p 1 rfl : (SlE sB b_) _)) hkB 0 hlb)) ?_
            refine WP.take_pure rfl rfl (PV.buildS rfl TryzT.pl69 TryzT.ze69 (Fl.cons rfl (by rfl) (by (simp only [kc_length, kw_length, List.length_replicate, List.length_append, List.length_cons, List.length_nil]; omega)) (Laid.left (Laid.all (by (simp only [kc_length, kw_length, List.length_replicate, List.length_append, List.length_cons, List.length_nil]; omega)))) (Fl.cons rfl (cells_one hob) (by (simp only [kc_length, kw_length, List.length_replicate, List.length_append, List.length_cons, List.length_nil]; done)) (Laid.right (Laid.left (Laid.all (by (simp only [kc_length, kw_length, List.length_replicate, List.length_append, List.length_cons, List.length_nil]; done)))) (by (simp only [kc_length, kw_length, List.length_replicate, List.length_append, List.length_cons, List.length_nil]; omega))) Fl.nil))) ?_
            refine WP.pick1 rfl ?_
            refine WL.buildSliceF (l0 := ((kc (List.replicate 32 0) ++ ([.slice none 0 0] ++ ([.bool false]))))) H rfl TryzT.st47 (by decide) (by rfl) (Fl.cons rfl (by rfl) (by (simp only [kc_length, kw_length, List.length_replicate, List.length_append, List.length_cons, List.length_nil]; omega)) (Laid.all (by (simp only [kc_length, kw_length, List.length_replicate, List.length_append, List.length_cons, List.length_nil]; omega))) Fl.nil) rfl ?_
            intro b68 w6 H
            refine WL.nil ⟨(List.forall_mem_cons.2 ⟨(by exact (fun h => absurd (show waits _ 10 8 = false from h) (by decide +kernel))), (List.forall_mem_cons.2 ⟨(by exact (fun h => absurd (show waits _ 10 4 = false from h) (by decide +kernel))), (fun _ h => by cases h)⟩)⟩), ?_⟩
            refine WP.pick1 rfl ?_
            refine WL.append (m := 1) H 1 TryzT.st47 (by decide) rfl rfl rfl (SlC.of_blk (n := 1) (H.l 0 rfl) (chE_len hkb0)) (by exact one_chC (c := chE b_[0]) hob) (by omega) (by decide) rfl ?_
            intro v69 w7 H
            have hSl : (outs ++ stepX a_ b_).length = outs.length + 1 := by rw [hst, List.length_append]; rfl
            have hSf : (outs ++ stepX a_ b_).flatMap chC = outs.flatMap chC ++ chC (chE b_[0]) := by rw [hst, List.flatMap_append, List.flatMap_singleton]
            replace H := H.forget 0
            replace H := H.conv (L' := [Ent.osl w.heap.size v69 69 34 ((outs ++ stepX a_ b_).length) ((outs ++ stepX a_ b_).flatMap chC)]) (by rw [hSl, hSf]; rfl)
            refine WL.nil ⟨(List.forall_mem_cons.2 ⟨(by exact (fun h => absurd (show waits _ 11 8 = false from h) (by decide +kernel))), (List.forall_mem_cons.2 ⟨(by exact (fun h => absurd (show waits _ 11 4 = false from h) (by decide +kernel))), (fun _ h => by cases h)⟩)⟩), ?_⟩
            refine WP.as rfl rfl rfl ?_
            refine WP.done ?_
            exact ⟨v69, (by repeat (first | with_reducible exact Off.refl _ _ | refine Off.upd rfl ?_)), ⟨rfl, trivial⟩, rfl, H⟩
          · skip
            refine WP.known (t := 45) (c := false) rfl hg46 ?_
            try simp only [decide_eq_true_eq, decide_eq_false_iff_not, ne_eq, Decidable.not_not, Bool.not_eq_true', Bool.not_eq_false', Bool.and_eq_true, Bool.or_eq_true, Bool.not_not, Bool.and_eq_false_iff, Bool.or_eq_false_iff, Int.not_lt, Int.not_le] at hg46
            have hoz : ordX a_ b_ = 0 := by omega
            have hla := (ord_zero hoz).1
            have hlb := (ord_zero hoz).2.1
            have hst := (ord_zero hoz).2.2 hla hlb
            have hkb0 := hkB _ (List.getElem_mem hlb)
            have hob := OneS.of (by exact (H.p 3 rfl : (Vals b_) _)) _ (List.getElem_mem hlb)
            refine WP.mv rfl rfl rfl ?_
            refine WP.take_pure rfl rfl (PV.idxS rfl (by exact (H.p 0 rfl : (SlE sA a_) _)) TryzT.sl22 TryzT.sz34 rfl rfl (by decide) (by omega)) ?_
            refine WP.take_pure rfl rfl (PV.fieldAddrA rfl TryzT.fd34_1 rfl) ?_
            refine WP.take_read rfl rfl (RV.loadOne rfl TryzT.ag32 rfl) ((SlE.rdv (by exact (H.p 0 rfl : (SlE sA a_) _)) hkA 0 hla)) ?_
            refine WP.mv rfl rfl rfl ?_
            refine WP.take_pure rfl rfl (PV.idxS rfl (by exact (H.p 1 rfl : (SlE sB b_) _)) TryzT.sl22 TryzT.sz34 rfl rfl (by decide) (by omega)) ?_
            refine WP.take_pure rfl rfl (PV.fieldAddrA rfl TryzT.fd34_1 rfl) ?_
            refine WP.take_read rfl rfl (RV.loadOne rfl TryzT.ag32 rfl) ((SlE.rdv (by exact (H.p 1 rfl : (SlE sB b_) _)) hkB 0 hlb)) ?_
            refine WP.pick1 rfl ?_
            refine WL.call TryzT.fb45 rfl (BEqual_c (la := a_[0].v) (lb := b_[0].v) H.yylt (by exact (H.rob 2 rfl : Rob _ (Vals a_) _).imp fun _ h => h _ (List.getElem_mem hla)) (by exact (H.rob 3 rfl : Rob _ (Vals b_) _).imp fun _ h => h _ (List.getElem_mem hlb))) ?_
            rintro _ w8 ⟨rfl, hO⟩
            replace H := H.out hO
            refine WL.nil ⟨(List.forall_mem_cons.2 ⟨(by exact (fun h => absurd (show waits _ 11 10 = false from h) (by decide +kernel))), (List.forall_mem_cons.2 ⟨(by exact (fun h => absurd (show waits _ 11 6 = false from h) (by decide +kernel))), (fun _ h => by cases h)⟩)⟩), ?_⟩
            refine WP.take_pure rfl rfl (PV.not rfl rfl) ?_
            refine WP.take_pure rfl rfl (PV.pick_f rfl rfl rfl) ?_
            refine WP.as rfl rfl rfl ?_
            refine WP.done ?_
            refine WE.cond rfl (fun hc43 => ?_) (fun hc43 => ?_)
            · skip
              try simp only [decide_eq_true_eq, decide_eq_false_iff_not, ne_eq, Decidable.not_not, Bool.not_eq_true', Bool.not_eq_false', Bool.and_eq_true, Bool.or_eq_true, Bool.not_not, Bool.and_eq_false_iff, Bool.or_eq_false_iff, Int.not_lt, Int.not_le] at hc43
              rw [if_neg (by simpa using hc43)] at hst
              refine WE.draw (.take 0 (.take 1 (.take 2 (.take 3 (.take 4 (.take 5 (.take 6 (.take 7 (.take 8 (.take 9 (.pick1 10 (.pick1 11 (.take 12 .done))))))))))))) TryzT.mixed (by kernel_rfl) ?_
              replace H := H.out (Out.drew _)
              refine WP.mv rfl rfl rfl ?_
              refine WP.mv rfl rfl rfl ?_
              refine WP.take_pure rfl rfl (PV.idxS rfl (by exact (H.p 1 rfl : (SlE sB b_) _)) TryzT.sl22 TryzT.sz34 rfl rfl (by decide) (by omega)) ?_
              refine WP.take_pure rfl rfl (PV.fieldAddrA rfl TryzT.fd34_0 rfl) ?_
              refine WP.readA rfl rfl rfl TryzT.ag31 rfl ((SlE.rdk (by exact (H.p 1 rfl : (SlE sB b_) _)) hkB 0 hlb)) (by (rw [TryzT.sz31]; refine congrArg some ?_; (simp only [kc_length, kw_length, List.length_replicate, List.length_append, List.length_cons, List.length_nil]; omega))) ?_
              refine WP.mv rfl rfl rfl ?_
              refine WP.take_pure rfl rfl (PV.idxS rfl (by exact (H.p 1 rfl : (SlE sB b_) _)) TryzT.sl22 TryzT.sz34 rfl rfl (by decide) (by omega)) ?_
              refine WP.take_pure rfl rfl (PV.fieldAddrA rfl TryzT.fd34_1 rfl) ?_
              refine WP.take_read rfl rfl (RV.loadOne rfl TryzT.ag32 rfl) ((SlE.rdv (by exact (H.p 1 rfl : (SlE sB b_) _)) hkB 0 hlb)) ?_
              refine WP.take_pure rfl rfl (PV.buildS rfl TryzT.pl69 TryzT.ze69 (Fl.cons rfl (by rfl) (by (simp only [kc_length, kw_length, List.length_replicate, List.length_append, List.length_cons, List.length_nil]; omega)) (Laid.left (Laid.all (by (simp only [kc_length, kw_length, List.length_replicate, List.length_append, List.length_cons, List.length_nil]; omega)))) (Fl.cons rfl (cells_one hob) (by (simp only [kc_length, kw_length, List.length_replicate, List.length_append, List.length_cons, List.length_nil]; done)) (Laid.right (Laid.left (Laid.all (by (simp only [kc_length, kw_length, List.length_replicate, List.length_append, List.length_cons, List.length_nil]; done)))) (by (simp only [kc_length, kw_length, List.length_replicate, List.length_append, List.length_cons, List.length_nil]; omega))) Fl.nil))) ?_
              refine WP.pick1 rfl ?_
              refine WL.buildSliceF (l0 := ((kc (List.replicate 32 0) ++ ([.slice none 0 0] ++ ([.bool false]))))) H rfl TryzT.st47 (by decide) (by rfl) (Fl.cons rfl (by rfl) (by (simp only [kc_length, kw_length, List.length_replicate, List.length_append, List.length_cons, List.length_nil]; omega)) (Laid.all (by (simp only [kc_length, kw_length, List.length_replicate, List.length_append, List.length_cons, List.length_nil]; omega))) Fl.nil) rfl ?_
              intro b68 w9 H
              refine WL.nil ⟨(List.forall_mem_cons.2 ⟨(by exact (fun h => absurd (show waits _ 10 8 = false from h) (by decide +kernel))), (List.forall_mem_cons.2 ⟨(by exact (fun h => absurd (show waits _ 10 4 = false from h) (by decide +kernel))), (fun _ h => by cases h)⟩)⟩), ?_⟩
              refine WP.pick1 rfl ?_
              refine WL.append (m := 1) H 1 TryzT.st47 (by decide) rfl rfl rfl (SlC.of_blk (n := 1) (H.l 0 rfl) (chE_len hkb0)) (by exact one_chC (c := chE b_[0]) hob) (by omega) (by decide) rfl ?_
              intro v69 w10 H
              have hSl : (outs ++ stepX a_ b_).length = outs.length + 1 := by rw [hst, List.length_append]; rfl
              have hSf : (outs ++ stepX a_ b_).flatMap chC = outs.flatMap chC ++ chC (chE b_[0]) := by rw [hst, List.flatMap_append, List.flatMap_singleton]
              replace H := H.forget 0
              replace H := H.conv (L' := [Ent.osl w.heap.size v69 69 34 ((outs ++ stepX a_ b_).length) ((outs ++ stepX a_ b_).flatMap chC)]) (by rw [hSl, hSf]; rfl)
              refine WL.nil ⟨(List.forall_mem_cons.2 ⟨(by exact (fun h => absurd (show waits _ 11 8 = false from h) (by decide +kernel))), (List.forall_mem_cons.2 ⟨(by exact (fun h => absurd (show waits _ 11 4 = false from h) (by decide +kernel))), (fun _ h => by cases h)⟩)⟩), ?_⟩
              refine WP.as rfl rfl rfl ?_
              refine WP.done ?_
              exact ⟨v69, (by repeat (first | with_reducible exact Off.refl _ _ | refine Off.upd rfl ?_)), ⟨rfl, trivial⟩, rfl, H⟩
            · skip
              try simp only [decide_eq_true_eq, decide_eq_false_iff_not, ne_eq, Decidable.not_not, Bool.not_eq_true', Bool.not_eq_false', Bool.and_eq_true, Bool.or_eq_true, Bool.not_not, Bool.and_eq_false_iff, Bool.or_eq_false_iff, Int.not_lt, Int.not_le] at hc43
              rw [if_pos (by simpa using hc43)] at hst
              refine WE.skip ?_
              exact ⟨v_, (by repeat (first | with_reducible exact Off.refl _ _ | refine Off.upd rfl ?_)), ⟨rfl, trivial⟩, rfl, H.conv (by rw [hst, List.append_nil])⟩
      · skip
        intro g1_ γ w11 hI
        try dsimp only at hI
        replace H := hI
        refine WE.cut (α := Value) [0, 70, 71, 72, 73] (fun g2_ => [(0, g2_)]) (fun g2_ wl => St X w wl [] [Ent.osl w.heap.size g1_ 69 34 ((outs ++ stepX a_ b_).length) ((outs ++ stepX a_ b_).flatMap chC)] [SlE g2_ (tlA a_ b_), Vals (tlA a_ b_), SlE sB b_, Vals b_]) ?_ ?_
        · skip
          refine WE.seq_reg ?_
          refine WL.mv rfl rfl ?_
          refine WL.pv (PV.leq rfl rfl rfl) rfl ?_
          refine WL.nil ?_
          refine WE.cond rfl (fun hc71 => ?_) (fun hc71 => ?_)
          · skip
            try simp only [decide_eq_true_eq, decide_eq_false_iff_not, ne_eq, Decidable.not_not, Bool.not_eq_true', Bool.not_eq_false', Bool.and_eq_true, Bool.or_eq_true, Bool.not_not, Bool.and_eq_false_iff, Bool.or_eq_false_iff, Int.not_lt, Int.not_le] at hc71
            have hle : ordX a_ b_ ≤ 0 := by exact hc71
            have hla := ord_neg_a hle
            have htA : tlA a_ b_ = a_.tail := by unfold tlA; rw [if_pos hle]
            refine WE.reg ?_
            refine WL.mv rfl rfl ?_
            refine WL.pv (PV.subL rfl (by exact (H.p 0 rfl : (SlE sA a_) _)) TryzT.sl22 TryzT.sz34 rfl rfl (by decide) (by omega)) rfl ?_
            refine WL.as rfl rfl ?_
            refine WL.nil ?_
            exact ⟨(subSl sA 33 (Int.toNat 1) a_.length), (by repeat (first | with_reducible exact Off.refl _ _ | refine Off.upd rfl ?_)), ⟨rfl, trivial⟩, rfl, (show St X w _ [] [_] [SlE (subSl sA 33 (Int.toNat 1) a_.length) (tlA a_ b_), Vals (tlA a_ b_), SlE sB b_, Vals b_] by rw [htA]; exact ((H.add ((H.rob 2 rfl : Rob _ (Vals a_) _).imp fun _ h => h.tail)).add ((H.rob 0 rfl : Rob _ (SlE sA a_) _).imp fun _ h => h.tl hkA hla)).sel [0, 1, 3, 5])⟩
          · skip
            try simp only [decide_eq_true_eq, decide_eq_false_iff_not, ne_eq, Decidable.not_not, Bool.not_eq_true', Bool.not_eq_false', Bool.and_eq_true, Bool.or_eq_true, Bool.not_not, Bool.and_eq_false_iff, Bool.or_eq_false_iff, Int.not_lt, Int.not_le] at hc71
            have hle : ¬ ordX a_ b_ ≤ 0 := by omega
            have htA : tlA a_ b_ = a_ := by unfold tlA; rw [if_neg hle]
            refine WE.skip ?_
            exact ⟨sA, (by repeat (first | with_reducible exact Off.refl _ _ | refine Off.upd rfl ?_)), ⟨rfl, trivial⟩, rfl, (show St X w _ [] [_] [SlE sA (tlA a_ b_), Vals (tlA a_ b_), SlE sB b_, Vals b_] by rw [htA]; exact H.sel [0, 2, 1, 3])⟩
        · skip
          intro g2_ γ w12 hI
          try dsimp only at hI
          replace H := hI
          refine WE.seq_reg ?_
          refine WL.mv rfl rfl ?_
          refine WL.pv (PV.geq rfl rfl rfl) rfl ?_
          refine WL.nil ?_
          refine WE.cond rfl (fun hc75 => ?_) (fun hc75 => ?_)
          · skip
            try simp only [decide_eq_true_eq, decide_eq_false_iff_not, ne_eq, Decidable.not_not, Bool.not_eq_true', Bool.not_eq_false', Bool.and_eq_true, Bool.or_eq_true, Bool.not_not, Bool.and_eq_false_iff, Bool.or_eq_false_iff, Int.not_lt, Int.not_le] at hc75
            have hge : 0 ≤ ordX a_ b_ := by exact hc75
            have hlb := ord_pos_b hge hne
            have htB : tlB a_ b_ = b_.tail := by unfold tlB; rw [if_pos hge]
            let sB2 := subSl sB 33 (Int.toNat 1) b_.length
            replace H := H.add (show Rob _ (Vals (tlB a_ b_)) _ from by rw [htB]; exact (by exact (H.rob 3 rfl : Rob _ (Vals b_) _).imp fun _ h => h.tail))
            replace H := H.add (show Rob _ (SlE sB2 (tlB a_ b_)) _ from by rw [htB]; exact (by exact (H.rob 3 rfl : Rob _ (SlE sB b_) _).imp fun _ h => h.tl hkB hlb))
            refine WE.reg ?_
            refine WL.mv rfl rfl ?_
            refine WL.pv (PV.subL rfl (by exact (H.p 4 rfl : (SlE sB b_) _)) TryzT.sl22 TryzT.sz34 rfl rfl (by decide) (by omega)) rfl ?_
            refine WL.as rfl rfl ?_
            refine WL.nil ?_
            have htl := tl_lt hne
            have hsl := stepX_len a_ b_
            exact ⟨((tlA a_ b_, tlB a_ b_), (g2_, sB2, g1_), outs ++ stepX a_ b_), (by repeat (first | with_reducible exact Off.refl _ _ | refine Off.upd rfl ?_ | refine Off.setAll rfl ?_ | refine Off.forget' rfl ?_)), ⟨rfl, rfl, rfl, trivial⟩, rfl, ⟨⟨by dsimp only; rw [List.append_assoc, ← diffX_step hne]; exact hdx, (by dsimp only; unfold tlA; split <;> first | exact hkA.tail | exact hkA), (by dsimp only; unfold tlB; split <;> exact hkB.tail), by dsimp only; rw [List.length_append]; omega⟩, H.sel [2, 0, 3, 1]⟩, (by dsimp only; exact htl)⟩
          · skip
            try simp only [decide_eq_true_eq, decide_eq_false_iff_not, ne_eq, Decidable.not_not, Bool.not_eq_true', Bool.not_eq_false', Bool.and_eq_true, Bool.or_eq_true, Bool.not_not, Bool.and_eq_false_iff, Bool.or_eq_false_iff, Int.not_lt, Int.not_le] at hc75
            have htB : tlB a_ b_ = b_ := by unfold tlB; rw [if_neg (by omega)]
            let sB2 := sB
            replace H := H.add (show Rob _ (Vals (tlB a_ b_)) _ from by rw [htB]; exact (by exact (H.rob 3 rfl : Rob _ (Vals b_) _)))
            replace H := H.add (show Rob _ (SlE sB2 (tlB a_ b_)) _ from by rw [htB]; exact (by exact (H.rob 3 rfl : Rob _ (SlE sB b_) _)))
            refine WE.skip ?_
            have htl := tl_lt hne
            have hsl := stepX_len a_ b_
            exact ⟨((tlA a_ b_, tlB a_ b_), (g2_, sB2, g1_), outs ++ stepX a_ b_), (by repeat (first | with_reducible exact Off.refl _ _ | refine Off.upd rfl ?_ | refine Off.setAll rfl ?_ | refine Off.forget' rfl ?_)), ⟨rfl, rfl, rfl, trivial⟩, rfl, ⟨⟨by dsimp only; rw [List.append_assoc, ← diffX_step hne]; exact hdx, (by dsimp only; unfold tlA; split <;> first | exact hkA.tail | exact hkA), (by dsimp only; unfold tlB; split <;> first | exact hkB.tail | exact hkB), by dsimp only; rw [List.length_append]; omega⟩, H.sel [2, 0, 3, 1]⟩, (by dsimp only; exact htl)⟩
  · skip
    refine WL.known (t := 9) (c := false) rfl hg10 ?_
    try simp only [decide_eq_true_eq, decide_eq_false_iff_not, ne_eq, Decidable.not_not, Bool.not_eq_true', Bool.not_eq_false', Bool.and_eq_true, Bool.or_eq_true, Bool.not_not, Bool.and_eq_false_iff, Bool.or_eq_false_iff, Int.not_lt, Int.not_le] at hg10
    have ha0 : a_ = [] := List.eq_nil_of_length_eq_zero (by omega)
    refine WL.mv rfl rfl ?_
    refine WL.pv (PV.lenS (by exact (H.p 1 rfl : (SlE sB b_) _)) TryzT.sl22 rfl) rfl ?_
    refine WL.pv (PV.gtr rfl rfl rfl) rfl ?_
    refine WL.pv (PV.pick_f rfl rfl rfl) rfl ?_
    refine WL.nil ?_
    refine WE.cond rfl (fun hc14 => ?_) (fun hc14 => ?_)
    · skip
      try simp only [decide_eq_true_eq, decide_eq_false_iff_not, ne_eq, Decidable.not_not, Bool.not_eq_true', Bool.not_eq_false', Bool.and_eq_true, Bool.or_eq_true, Bool.not_not, Bool.and_eq_false_iff, Bool.or_eq_false_iff, Int.not_lt, Int.not_le] at hc14
      have hne : ¬ (a_ = [] ∧ b_ = []) := by rintro ⟨_, h_⟩; rw [h_] at hc14; simp at hc14
      refine WE.skip ?_
      refine WE.block ?_
      refine WE.seq_reg ?_
      refine WL.as rfl rfl ?_
      refine WL.nil ?_
      refine WE.cut (α := Unit) [6, 15, 16, 17, 18, 19, 20, 21, 22, 23, 24, 25, 26, 27, 28, 29, 30, 31] (fun _ => [(6, .int .i64 (ordX a_ b_))]) (fun _ wl => St X w wl [] [Ent.osl w.heap.size v_ 69 34 ((outs).length) ((outs).flatMap chC)] [SlE sA a_, SlE sB b_, Vals a_, Vals b_]) ?_ ?_
      · skip
        refine WE.block ?_
        refine WE.seq_reg ?_
        refine WL.mv rfl rfl ?_
        refine WL.pv (PV.lenS (by exact (H.p 0 rfl : (SlE sA a_) _)) TryzT.sl22 rfl) rfl ?_
        refine WL.pv (PV.eql rfl rfl rfl) rfl ?_
        refine WL.as rfl rfl ?_
        refine WL.nil ?_
        refine WE.cond rfl (fun hc24 => ?_) (fun hc24 => ?_)
        · skip
          try simp only [decide_eq_true_eq, decide_eq_false_iff_not, ne_eq, Decidable.not_not, Bool.not_eq_true', Bool.not_eq_false', Bool.and_eq_true, Bool.or_eq_true, Bool.not_not, Bool.and_eq_false_iff, Bool.or_eq_false_iff, Int.not_lt, Int.not_le] at hc24
          have hord : (1 : Int) = ordX a_ b_ := by rw [show a_ = [] from List.eq_nil_of_length_eq_zero (by omega)]; rfl
          refine WE.reg ?_
          refine WL.as rfl rfl ?_
          refine WL.nil ?_
          exact ⟨(), (by repeat (first | with_reducible exact Off.refl _ _ | refine Off.upd rfl ?_)), ⟨(by (show Value.int .i64 _ = _; rw [hord])), trivial⟩, rfl, H⟩
        · skip
          try simp only [decide_eq_true_eq, decide_eq_false_iff_not, ne_eq, Decidable.not_not, Bool.not_eq_true', Bool.not_eq_false', Bool.and_eq_true, Bool.or_eq_true, Bool.not_not, Bool.and_eq_false_iff, Bool.or_eq_false_iff, Int.not_lt, Int.not_le] at hc24
          have hla : 0 < a_.length := by omega
          refine WE.seq_reg ?_
          refine WL.mv rfl rfl ?_
          refine WL.pv (PV.lenS (by exact (H.p 1 rfl : (SlE sB b_) _)) TryzT.sl22 rfl) rfl ?_
          refine WL.pv (PV.eql rfl rfl rfl) rfl ?_
          refine WL.as rfl rfl ?_
          refine WL.nil ?_
          refine WE.cond rfl (fun hc28 => ?_) (fun hc28 => ?_)
          · skip
            try simp only [decide_eq_true_eq, decide_eq_false_iff_not, ne_eq, Decidable.not_not, Bool.not_eq_true', Bool.not_eq_false', Bool.and_eq_true, Bool.or_eq_true, Bool.not_not, Bool.and_eq_false_iff, Bool.or_eq_false_iff, Int.not_lt, Int.not_le] at hc28
            have hord : (-1 : Int) = ordX a_ b_ := by rw [show b_ = [] from List.eq_nil_of_length_eq_zero (by omega)]; cases a_ with | nil => cases hla | cons x a1 => rfl
            refine WE.reg ?_
            refine WL.as rfl rfl ?_
            refine WL.nil ?_
            exact ⟨(), (by repeat (first | with_reducible exact Off.refl _ _ | refine Off.upd rfl ?_)), ⟨(by (show Value.int .i64 _ = _; rw [hord])), trivial⟩, rfl, H⟩
          · skip
            try simp only [decide_eq_true_eq, decide_eq_false_iff_not, ne_eq, Decidable.not_not, Bool.not_eq_true', Bool.not_eq_false', Bool.and_eq_true, Bool.or_eq_true, Bool.not_not, Bool.and_eq_false_iff, Bool.or_eq_false_iff, Int.not_lt, Int.not_le] at hc28
            have hlb : 0 < b_.length := by omega
            have hord := (ord_both hla hlb).symm
            have hka0 := hkA _ (List.getElem_mem hla)
            have hkb0 := hkB _ (List.getElem_mem hlb)
            refine WE.draw (.take 0 (.take 1 (.take 2 (.take 3 (.take 4 (.take 5 (.take 6 (.take 7 (.pick1 8 (.take 9 .done)))))))))) TryzT.mixed (by kernel_rfl) ?_
            replace H := H.out (Out.drew _)
            refine WP.mv rfl rfl rfl ?_
            refine WP.take_pure rfl rfl (PV.idxS rfl (by exact (H.p 0 rfl : (SlE sA a_) _)) TryzT.sl22 TryzT.sz34 rfl rfl (by decide) (by omega)) ?_
            refine WP.take_pure rfl rfl (PV.fieldAddrA rfl TryzT.fd34_0 rfl) ?_
            refine WP.readA rfl rfl rfl TryzT.ag31 rfl ((SlE.rdk (by exact (H.p 0 rfl : (SlE sA a_) _)) hkA 0 hla)) (by (rw [TryzT.sz31]; refine congrArg some ?_; (simp only [kc_length, kw_length, List.length_replicate, List.length_append, List.length_cons, List.length_nil]; omega))) ?_
            refine WP.mv rfl rfl rfl ?_
            refine WP.take_pure rfl rfl (PV.idxS rfl (by exact (H.p 1 rfl : (SlE sB b_) _)) TryzT.sl22 TryzT.sz34 rfl rfl (by decide) (by omega)) ?_
            refine WP.take_pure rfl rfl (PV.fieldAddrA rfl TryzT.fd34_0 rfl) ?_
            refine WP.readA rfl rfl rfl TryzT.ag31 rfl ((SlE.rdk (by exact (H.p 1 rfl : (SlE sB b_) _)) hkB 0 hlb)) (by (rw [TryzT.sz31]; refine congrArg some ?_; (simp only [kc_length, kw_length, List.length_replicate, List.length_append, List.length_cons, List.length_nil]; omega))) ?_
            refine WP.pick1 rfl ?_
            refine WL.call TryzT.fb77 rfl (bitsCompare_c (k := a_[0].k) (l := b_[0].k) H.yylt  hka0 hkb0) ?_
            rintro _ w13 ⟨rfl, hO⟩
            replace H := H.out hO
            refine WL.nil ⟨(List.forall_mem_cons.2 ⟨(by exact (fun h => absurd (show waits _ 8 7 = false from h) (by decide +kernel))), (List.forall_mem_cons.2 ⟨(by exact (fun h => absurd (show waits _ 8 3 = false from h) (by decide +kernel))), (fun _ h => by cases h)⟩)⟩), ?_⟩
            refine WP.as rfl rfl rfl ?_
            refine WP.done ?_
            exact ⟨(), (by repeat (first | with_reducible exact Off.refl _ _ | refine Off.upd rfl ?_)), ⟨(by (show Value.int .i64 _ = _; rw [hord])), trivial⟩, rfl, H⟩
      · skip
        intro _ γ w14 hI
        try dsimp only at hI
        replace H := hI
        refine WE.cut (α := Value) [5, 32, 33, 34, 35, 36, 37, 38, 39, 40, 41, 42, 43, 44, 45, 46, 47, 48, 49, 50, 51, 52, 53, 54, 55, 56, 57, 58, 59, 60, 61, 62, 63, 64, 65, 66, 67, 68, 69] (fun g1_ => [(5, g1_)]) (fun g1_ wl => St X w wl [] [Ent.osl w.heap.size g1_ 69 34 ((outs ++ stepX a_ b_).length) ((outs ++ stepX a_ b_).flatMap chC)] [SlE sA a_, SlE sB b_, Vals a_, Vals b_]) ?_ ?_
        · skip
          refine WE.block ?_
          refine WE.seq_reg ?_
          refine WL.mv rfl rfl ?_
          refine WL.pv (PV.lss rfl rfl rfl) rfl ?_
          refine WL.as rfl rfl ?_
          refine WL.nil ?_
          refine WE.cond rfl (fun hc32 => ?_) (fun hc32 => ?_)
          · skip
            try simp only [decide_eq_true_eq, decide_eq_false_iff_not, ne_eq, Decidable.not_not, Bool.not_eq_true', Bool.not_eq_false', Bool.and_eq_true, Bool.or_eq_true, Bool.not_not, Bool.and_eq_false_iff, Bool.or_eq_false_iff, Int.not_lt, Int.not_le] at hc32
            have hon : ordX a_ b_ < 0 := by exact hc32
            have hla := (ord_neg hon).1
            have hst := (ord_neg hon).2 hla
            have hka0 := hkA _ (List.getElem_mem hla)
            refine WE.reg ?_
            refine WL.mv rfl rfl ?_
            refine WL.mv rfl rfl ?_
            refine WL.pv (PV.idxS rfl (by exact (H.p 0 rfl : (SlE sA a_) _)) TryzT.sl22 TryzT.sz34 rfl rfl (by decide) (by omega)) rfl ?_
            refine WL.pv (PV.fieldAddrA rfl TryzT.fd34_0 rfl) rfl ?_
            refine WL.loadR rfl TryzT.ag31 rfl rfl ((SlE.rdk (by exact (H.p 0 rfl : (SlE sA a_) _)) hkA 0 hla)) (by (rw [TryzT.sz31]; refine congrArg some ?_; (simp only [kc_length, kw_length, List.length_replicate, List.length_append, List.length_cons, List.length_nil]; omega))) ?_
            refine WL.pv (PV.buildS rfl TryzT.pl69 TryzT.ze69 (Fl.cons rfl (by rfl) (by (simp only [kc_length, kw_length, List.length_replicate, List.length_append, List.length_cons, List.length_nil]; omega)) (Laid.left (Laid.all (by (simp only [kc_length, kw_length, List.length_replicate, List.length_append, List.length_cons, List.length_nil]; omega)))) (Fl.cons rfl (by rfl) (by (simp only [kc_length, kw_length, List.length_replicate, List.length_append, List.length_cons, List.length_nil]; done)) (Laid.right (Laid.right (Laid.all (by (simp only [kc_length, kw_length, List.length_replicate, List.length_append, List.length_cons, List.length_nil]; done))) (by with_reducible rfl)) (by (simp only [kc_length, kw_length, List.length_replicate, List.length_append, List.length_cons, List.length_nil]; omega))) Fl.nil))) rfl ?_
            refine WL.buildSliceF (l0 := ((kc (List.replicate 32 0) ++ ([.slice none 0 0] ++ ([.bool false]))))) H rfl TryzT.st47 (by decide) (by rfl) (Fl.cons rfl (by rfl) (by (simp only [kc_length, kw_length, List.length_replicate, List.length_append, List.length_cons, List.length_nil]; omega)) (Laid.all (by (simp only [kc_length, kw_length, List.length_replicate, List.length_append, List.length_cons, List.length_nil]; omega))) Fl.nil) rfl ?_
            intro b41 w15 H
            refine WL.append (m := 1) H 1 TryzT.st47 (by decide) rfl rfl rfl (SlC.of_blk (n := 1) (H.l 0 rfl) (delX_len hka0)) (by exact one_chC (c := delX a_[0]) rfl) (by omega) (by decide) rfl ?_
            intro v42 w16 H
            have hSl : (outs ++ stepX a_ b_).length = outs.length + 1 := by rw [hst, List.length_append]; rfl
            have hSf : (outs ++ stepX a_ b_).flatMap chC = outs.flatMap chC ++ chC (delX a_[0]) := by rw [hst, List.flatMap_append, List.flatMap_singleton]
            replace H := H.forget 0
            replace H := H.conv (L' := [Ent.osl w.heap.size v42 69 34 ((outs ++ stepX a_ b_).length) ((outs ++ stepX a_ b_).flatMap chC)]) (by rw [hSl, hSf]; rfl)
            refine WL.as rfl rfl ?_
            refine WL.nil ?_
            exact ⟨v42, (by repeat (first | with_reducible exact Off.refl _ _ | refine Off.upd rfl ?_)), ⟨rfl, trivial⟩, rfl, H⟩
          · skip
            try simp only [decide_eq_true_eq, decide_eq_false_iff_not, ne_eq, Decidable.not_not, Bool.not_eq_true', Bool.not_eq_false', Bool.and_eq_true, Bool.or_eq_true, Bool.not_not, Bool.and_eq_false_iff, Bool.or_eq_false_iff, Int.not_lt, Int.not_le] at hc32
            have hon : ¬ ordX a_ b_ < 0 := by omega
            refine WE.seq_draw (.take 0 (.take 1 (.take 2 (.take 3 (.take 4 (.take 5 (.take 6 (.take 7 (.take 8 (.take 9 (.take 10 (.pick1 11 (.take 12 (.take 13 (.take 14 .done))))))))))))))) TryzT.mixed (by kernel_rfl) ?_
            replace H := H.out (Out.drew _)
            refine WP.mv rfl rfl rfl ?_
            refine WP.take_pure rfl rfl (PV.gtr rfl rfl rfl) ?_
            refine WP.mv rfl rfl rfl ?_
            refine WP.split (t := 46) rfl (fun hg46 => ?_) (fun hg46 => ?_)
            · skip
              refine WP.known (t := 45) (c := true) rfl hg46 ?_
              try simp only [decide_eq_true_eq, decide_eq_false_iff_not, ne_eq, Decidable.not_not, Bool.not_eq_true', Bool.not_eq_false', Bool.and_eq_true, Bool.or_eq_true, Bool.not_not, Bool.and_eq_false_iff, Bool.or_eq_false_iff, Int.not_lt, Int.not_le] at hg46
              have hop : 0 < ordX a_ b_ := by omega
              have hlb := (ord_pos hop hne).1
              have hst := (ord_pos hop hne).2 hlb
              have hkb0 := hkB _ (List.getElem_mem hlb)
              have hob := OneS.of (by exact (H.p 3 rfl : (Vals b_) _)) _ (List.getElem_mem hlb)
              refine WP.take_off rfl rfl ?_
              refine WP.take_off rfl rfl ?_
              refine WP.take_off rfl rfl ?_
              refine WP.take_off rfl rfl ?_
              refine WP.take_off rfl rfl ?_
              refine WP.take_off rfl rfl ?_
              refine WP.take_off rfl rfl ?_
              refine WP.take_off rfl rfl ?_
              refine WP.pick1 rfl ?_
              refine WL.off rfl ?_
              refine WL.nil ⟨(fun _ h => by cases h), ?_⟩
              refine WP.take_off rfl rfl ?_
              refine WP.take_pure rfl rfl (PV.pick_t rfl rfl rfl) ?_
              refine WP.as rfl rfl rfl ?_
              refine WP.done ?_
              refine WE.cond_t rfl ?_
              refine WE.draw (.take 0 (.take 1 (.take 2 (.take 3 (.take 4 (.take 5 (.take 6 (.take 7 (.take 8 (.take 9 (.pick1 10 (.pick1 11 (.take 12 .done))))))))))))) TryzT.mixed (by kernel_rfl) ?_
              replace H := H.out (Out.drew _)
              refine WP.mv rfl rfl rfl ?_
              refine WP.mv rfl rfl rfl ?_
              refine WP.take_pure rfl rfl (PV.idxS rfl (by exact (H.p 1 rfl : (SlE sB b_) _)) TryzT.sl22 TryzT.sz34 rfl rfl (by decide) (by omega)) ?_
              refine WP.take_pure rfl rfl (PV.fieldAddrA rfl TryzT.fd34_0 rfl) ?_
              refine WP.readA rfl rfl rfl TryzT.ag31 rfl ((SlE.rdk (by exact (H.p 1 rfl : (SlE sB b_) _)) hkB 0 hlb)) (by (rw [TryzT.sz31]; refine congrArg some ?_; (simp only [kc_length, kw_length, List.length_replicate, List.length_append, List.length_cons, List.length_nil]; omega))) ?_
              refine WP.mv rfl rfl rfl ?_
              refine WP.take_pure rfl rfl (PV.idxS rfl (by exact (H.p 1 rfl : (SlE sB b_) _)) TryzT.sl22 TryzT.sz34 rfl rfl (by decide) (by omega)) ?_
              refine WP.take_pure rfl rfl (PV.fieldAddrA rfl TryzT.fd34_1 rfl) ?_
              refine WP.take_read rfl rfl (RV.loadOne rfl TryzT.ag32 rfl) ((SlE.rdv (by exact (H.p 1 rfl : (SlE sB b_) _)) hkB 0 hlb)) ?_
              refine WP.take_pure rfl rfl (PV.buildS rfl TryzT.pl69 TryzT.ze69 (Fl.cons rfl (by rfl) (by (simp only [kc_length, kw_length, List.length_replicate, List.length_append, List.length_cons, List.length_nil]; omega)) (Laid.left (Laid.all (by (simp only [kc_length, kw_length, List.length_replicate, List.length_append, List.length_cons, List.length_nil]; omega)))) (Fl.cons rfl (cells_one hob) (by (simp only [kc_length, kw_length, List.length_replicate, List.length_append, List.length_cons, List.length_nil]; done)) (Laid.right (Laid.left (Laid.all (by (simp only [kc_length, kw_length, List.length_replicate, List.length_append, List.length_cons, List.length_nil]; done)))) (by (simp only [kc_length, kw_length, List.length_replicate, List.length_append, List.length_cons, List.length_nil]; omega))) Fl.nil))) ?_
              refine WP.pick1 rfl ?_
              refine WL.buildSliceF (l0 := ((kc (List.replicate 32 0) ++ ([.slice none 0 0] ++ ([.bool false]))))) H rfl TryzT.st47 (by decide) (by rfl) (Fl.cons rfl (by rfl) (by (simp only [kc_length, kw_length, List.length_replicate, List.length_append, List.length_cons, List.length_nil]; omega)) (Laid.all (by (simp only [kc_length, kw_length, List.length_replicate, List.length_append, List.length_cons, List.length_nil]; omega))) Fl.nil) rfl ?_
              intro b68 w17 H
              refine WL.nil ⟨(List.forall_mem_cons.2 ⟨(by exact (fun h => absurd (show waits _ 10 8 = false from h) (by decide +kernel))), (List.forall_mem_cons.2 ⟨(by exact (fun h => absurd (show waits _ 10 4 = false from h) (by decide +kernel))), (fun _ h => by cases h)⟩)⟩), ?_⟩
              refine WP.pick1 rfl ?_
              refine WL.append (m := 1) H 1 TryzT.st47 (by decide) rfl rfl rfl (SlC.of_blk (n := 1) (H.l 0 rfl) (chE_len hkb0)) (by exact one_chC (c := chE b_[0]) hob) (by omega) (by decide) rfl ?_
              intro v69 w18 H
              have hSl : (outs ++ stepX a_ b_).length = outs.length + 1 := by rw [hst, List.length_append]; rfl
              have hSf : (outs ++ stepX a_ b_).flatMap chC = outs.flatMap chC ++ chC (chE b_[0]) := by rw [hst, List.flatMap_append, List.flatMap_singleton]
              replace H := H.forget 0
              replace H := H.conv (L' := [Ent.osl w.heap.size v69 69 34 ((outs ++ stepX a_ b_).length) ((outs ++ stepX a_ b_).flatMap chC)]) (by rw [hSl, hSf]; rfl)
              refine WL.nil ⟨(List.forall_mem_cons.2 ⟨(by exact (fun h => absurd (show waits _ 11 8 = false from h) (by decide +kernel))), (List.forall_mem_cons.2 ⟨(by exact (fun h => absurd (show waits _ 11 4 = false from h) (by decide +kernel))), (fun _ h => by cases h)⟩)⟩), ?_⟩
              refine WP.as rfl rfl rfl ?_
              refine WP.done ?_
              exact ⟨v69, (by repeat (first | with_reducible exact Off.refl _ _ | refine Off.upd rfl ?_)), ⟨rfl, trivial⟩, rfl, H⟩
            · skip
              refine WP.known (t := 45) (c := false) rfl hg46 ?_
              try simp only [decide_eq_true_eq, decide_eq_false_iff_not, ne_eq, Decidable.not_not, Bool.not_eq_true', Bool.not_eq_false', Bool.and_eq_true, Bool.or_eq_true, Bool.not_not, Bool.and_eq_false_iff, Bool.or_eq_false_iff, Int.not_lt, Int.not_le] at hg46
              have hoz : ordX a_ b_ = 0 := by omega
              have hla := (ord_zero hoz).1
              have hlb := (ord_zero hoz).2.1
              have hst := (ord_zero hoz).2.2 hla hlb
              have hkb0 := hkB _ (List.getElem_mem hlb)
              have hob := OneS.of (by exact (H.p 3 rfl : (Vals b_) _)) _ (List.getElem_mem hlb)
              refine WP.mv rfl rfl rfl ?_
              refine WP.take_pure rfl rfl (PV.idxS rfl (by exact (H.p 0 rfl : (SlE sA a_) _)) TryzT.sl22 TryzT.sz34 rfl rfl (by decide) (by omega)) ?_
              refine WP.take_pure rfl rfl (PV.fieldAddrA rfl TryzT.fd34_1 rfl) ?_
              refine WP.take_read rfl rfl (RV.loadOne rfl TryzT.ag32 rfl) ((SlE.rdv (by exact (H.p 0 rfl : (SlE sA a_) _)) hkA 0 hla)) ?_
              refine WP.mv rfl rfl rfl ?_
              refine WP.take_pure rfl rfl (PV.idxS rfl (by exact (H.p 1 rfl : (SlE sB b_) _)) TryzT.sl22 TryzT.sz34 rfl rfl (by decide) (by omega)) ?_
              refine WP.take_pure rfl rfl (PV.fieldAddrA rfl TryzT.fd34_1 rfl) ?_
              refine WP.take_read rfl rfl (RV.loadOne rfl TryzT.ag32 rfl) ((SlE.rdv (by exact (H.p 1 rfl : (SlE sB b_) _)) hkB 0 hlb)) ?_
              refine WP.pick1 rfl ?_
              refine WL.call TryzT.fb45 rfl (BEqual_c (la := a_[0].v) (lb := b_[0].v) H.yylt (by exact (H.rob 2 rfl : Rob _ (Vals a_) _).imp fun _ h => h _ (List.getElem_mem hla)) (by exact (H.rob 3 rfl : Rob _ (Vals b_) _).imp fun _ h => h _ (List.getElem_mem hlb))) ?_
              rintro _ w19 ⟨rfl, hO⟩
              replace H := H.out hO
              refine WL.nil ⟨(List.forall_mem_cons.2 ⟨(by exact (fun h => absurd (show waits _ 11 10 = false from h) (by decide +kernel))), (List.forall_mem_cons.2 ⟨(by exact (fun h => absurd (show waits _ 11 6 = false from h) (by decide +kernel))), (fun _ h => by cases h)⟩)⟩), ?_⟩
              refine WP.take_pure rfl rfl (PV.not rfl rfl) ?_
              refine WP.take_pure rfl rfl (PV.pick_f rfl rfl rfl) ?_
              refine WP.as rfl rfl rfl ?_
              refine WP.done ?_
              refine WE.cond rfl (fun hc43 => ?_) (fun hc43 => ?_)
              · skip
                try simp only [decide_eq_true_eq, decide_eq_false_iff_not, ne_eq, Decidable.not_not, Bool.not_eq_true', Bool.not_eq_false', Bool.and_eq_true, Bool.or_eq_true, Bool.not_not, Bool.and_eq_false_iff, Bool.or_eq_false_iff, Int.not_lt, Int.not_le] at hc43
                rw [if_neg (by simpa using hc43)] at hst
                refine WE.draw (.take 0 (.take 1 (.take 2 (.take 3 (.take 4 (.take 5 (.take 6 (.take 7 (.take 8 (.take 9 (.pick1 10 (.pick1 11 (.take 12 .done))))))))))))) TryzT.mixed (by kernel_rfl) ?_
                replace H := H.out (Out.drew _)
                refine WP.mv rfl rfl rfl ?_
                refine WP.mv rfl rfl rfl ?_
                refine WP.take_pure rfl rfl (PV.idxS rfl (by exact (H.p 1 rfl : (SlE sB b_) _)) TryzT.sl22 TryzT.sz34 rfl rfl (by decide) (by omega)) ?_
                refine WP.take_pure rfl rfl (PV.fieldAddrA rfl TryzT.fd34_0 rfl) ?_
                refine WP.readA rfl rfl rfl TryzT.ag31 rfl ((SlE.rdk (by exact (H.p 1 rfl : (SlE sB b_) _)) hkB 0 hlb)) (by (rw [TryzT.sz31]; refine congrArg some ?_; (simp only [kc_length, kw_length, List.length_replicate, List.length_append, List.length_cons, List.length_nil]; omega))) ?_
                refine WP.mv rfl rfl rfl ?_
                refine WP.take_pure rfl rfl (PV.idxS rfl (by exact (H.p 1 rfl : (SlE sB b_) _)) TryzT.sl22 TryzT.sz34 rfl rfl (by decide) (by omega)) ?_
                refine WP.take_pure rfl rfl (PV.fieldAddrA rfl TryzT.fd34_1 rfl) ?_
                refine WP.take_read rfl rfl (RV.loadOne rfl TryzT.ag32 rfl) ((SlE.rdv (by exact (H.p 1 rfl : (SlE sB b_) _)) hkB 0 hlb)) ?_
                refine WP.take_pure rfl rfl (PV.buildS rfl TryzT.pl69 TryzT.ze69 (Fl.cons rfl (by rfl) (by (simp only [kc_length, kw_length, List.length_replicate, List.length_append, List.length_cons, List.length_nil]; omega)) (Laid.left (Laid.all (by (simp only [kc_length, kw_length, List.length_replicate, List.length_append, List.length_cons, List.length_nil]; omega)))) (Fl.cons rfl (cells_one hob) (by (simp only [kc_length, kw_length, List.length_replicate, List.length_append, List.length_cons, List.length_nil]; done)) (Laid.right (Laid.left (Laid.all (by (simp only [kc_length, kw_length, List.length_replicate, List.length_append, List.length_cons, List.length_nil]; done)))) (by (simp only [kc_length, kw_length, List.length_replicate, List.length_append, List.length_cons, List.length_nil]; omega))) Fl.nil))) ?_
                refine WP.pick1 rfl ?_
                refine WL.buildSliceF (l0 := ((kc (List.replicate 32 0) ++ ([.slice none 0 0] ++ ([.bool false]))))) H rfl TryzT.st47 (by decide) (by rfl) (Fl.cons rfl (by rfl) (by (simp only [kc_length, kw_length, List.length_replicate, List.length_append, List.length_cons, List.length_nil]; omega)) (Laid.all (by (simp only [kc_length, kw_length, List.length_replicate, List.length_append, List.length_cons, List.length_nil]; omega))) Fl.nil) rfl ?_
                intro b68 w20 H
                refine WL.nil ⟨(List.forall_mem_cons.2 ⟨(by exact (fun h => absurd (show waits _ 10 8 = false from h) (by decide +kernel))), (List.forall_mem_cons.2 ⟨(by exact (fun h => absurd (show waits _ 10 4 = false from h) (by decide +kernel))), (fun _ h => by cases h)⟩)⟩), ?_⟩
                refine WP.pick1 rfl ?_
                refine WL.append (m := 1) H 1 TryzT.st47 (by decide) rfl rfl rfl (SlC.of_blk (n := 1) (H.l 0 rfl) (chE_len hkb0)) (by exact one_chC (c := chE b_[0]) hob) (by omega) (by decide) rfl ?_
                intro v69 w21 H
                have hSl : (outs ++ stepX a_ b_).length = outs.length + 1 := by rw [hst, List.length_append]; rfl
                have hSf : (outs ++ stepX a_ b_).flatMap chC = outs.flatMap chC ++ chC (chE b_[0]) := by rw [hst, List.flatMap_append, List.flatMap_singleton]
                replace H := H.forget 0
                replace H := H.conv (L' := [Ent.osl w.heap.size v69 69 34 ((outs ++ stepX a_ b_).length) ((outs ++ stepX a_ b_).flatMap chC)]) (by rw [hSl, hSf]; rfl)
                refine WL.nil ⟨(List.forall_mem_cons.2 ⟨(by exact (fun h => absurd (show waits _ 11 8 = false from h) (by decide +kernel))), (List.forall_mem_cons.2 ⟨(by exact (fun h => absurd (show waits _ 11 4 = false from h) (by decide +kernel))), (fun _ h => by cases h)⟩)⟩), ?_⟩
                refine WP.as rfl rfl rfl ?_
                refine WP.done ?_
                exact ⟨v69, (by repeat (first | with_reducible exact Off.refl _ _ | refine Off.upd rfl ?_)), ⟨rfl, trivial⟩, rfl, H⟩
              · skip
                try simp only [decide_eq_true_eq, decide_eq_false_iff_not, ne_eq, Decidable.not_not, Bool.not_eq_true', Bool.not_eq_false', Bool.and_eq_true, Bool.or_eq_true, Bool.not_not, Bool.and_eq_false_iff, Bool.or_eq_false_iff, Int.not_lt, Int.not_le] at hc43
                rw [if_pos (by simpa using hc43)] at hst
                refine WE.skip ?_
                exact ⟨v_, (by repeat (first | with_reducible exact Off.refl _ _ | refine Off.upd rfl ?_)), ⟨rfl, trivial⟩, rfl, H.conv (by rw [hst, List.append_nil])⟩
        · skip
          intro g1_ γ w22 hI
          try dsimp only at hI
          replace H := hI
          refine WE.cut (α := Value) [0, 70, 71, 72, 73] (fun g2_ => [(0, g2_)]) (fun g2_ wl => St X w wl [] [Ent.osl w.heap.size g1_ 69 34 ((outs ++ stepX a_ b_).length) ((outs ++ stepX a_ b_).flatMap chC)] [SlE g2_ (tlA a_ b_), Vals (tlA a_ b_), SlE sB b_, Vals b_]) ?_ ?_
          · skip
            refine WE.seq_reg ?_
            refine WL.mv rfl rfl ?_
            refine WL.pv (PV.leq rfl rfl rfl) rfl ?_
            refine WL.nil ?_
            refine WE.cond rfl (fun hc71 => ?_) (fun hc71 => ?_)
            · skip
              try simp only [decide_eq_true_eq, decide_eq_false_iff_not, ne_eq, Decidable.not_not, Bool.not_eq_true', Bool.not_eq_false', Bool.and_eq_true, Bool.or_eq_true, Bool.not_not, Bool.and_eq_false_iff, Bool.or_eq_false_iff, Int.not_lt, Int.not_le] at hc71
              have hle : ordX a_ b_ ≤ 0 := by exact hc71
              have hla := ord_neg_a hle
              have htA : tlA a_ b_ = a_.tail := by unfold tlA; rw [if_pos hle]
              refine WE.reg ?_
              refine WL.mv rfl rfl ?_
              refine WL.pv (PV.subL rfl (by exact (H.p 0 rfl : (SlE sA a_) _)) TryzT.sl22 TryzT.sz34 rfl rfl (by decide) (by omega)) rfl ?_
              refine WL.as rfl rfl ?_
              refine WL.nil ?_
              exact ⟨(subSl sA 33 (Int.toNat 1) a_.length), (by repeat (first | with_reducible exact Off.refl _ _ | refine Off.upd rfl ?_)), ⟨rfl, trivial⟩, rfl, (show St X w _ [] [_] [SlE (subSl sA 33 (Int.toNat 1) a_.length) (tlA a_ b_), Vals (tlA a_ b_), SlE sB b_, Vals b_] by rw [htA]; exact ((H.add ((H.rob 2 rfl : Rob _ (Vals a_) _).imp fun _ h => h.tail)).add ((H.rob 0 rfl : Rob _ (SlE sA a_) _).imp fun _ h => h.tl hkA hla)).sel [0, 1, 3, 5])⟩
            · skip
              try simp only [decide_eq_true_eq, decide_eq_false_iff_not, ne_eq, Decidable.not_not, Bool.not_eq_true', Bool.not_eq_false', Bool.and_eq_true, Bool.or_eq_true, Bool.not_not, Bool.and_eq_false_iff, Bool.or_eq_false_iff, Int.not_lt, Int.not_le] at hc71
              have hle : ¬ ordX a_ b_ ≤ 0 := by omega
              have htA : tlA a_ b_ = a_ := by unfold tlA; rw [if_neg hle]
              refine WE.skip ?_
              exact ⟨sA, (by repeat (first | with_reducible exact Off.refl _ _ | refine Off.upd rfl ?_)), ⟨rfl, trivial⟩, rfl, (show St X w _ [] [_] [SlE sA (tlA a_ b_), Vals (tlA a_ b_), SlE sB b_, Vals b_] by rw [htA]; exact H.sel [0, 2, 1, 3])⟩
          · skip
            intro g2_ γ w23 hI
            try dsimp only at hI
            replace H := hI
            refine WE.seq_reg ?_
            refine WL.mv rfl rfl ?_
            refine WL.pv (PV.geq rfl rfl rfl) rfl ?_
            refine WL.nil ?_
            refine WE.cond rfl (fun hc75 => ?_) (fun hc75 => ?_)
            · skip
              try simp only [decide_eq_true_eq, decide_eq_false_iff_not, ne_eq, Decidable.not_not, Bool.not_eq_true', Bool.not_eq_false', Bool.and_eq_true, Bool.or_eq_true, Bool.not_not, Bool.and_eq_false_iff, Bool.or_eq_false_iff, Int.not_lt, Int.not_le] at hc75
              have hge : 0 ≤ ordX a_ b_ := by exact hc75
              have hlb := ord_pos_b hge hne
              have htB : tlB a_ b_ = b_.tail := by unfold tlB; rw [if_pos hge]
              let sB2 := subSl sB 33 (Int.toNat 1) b_.length
              replace H := H.add (show Rob _ (Vals (tlB a_ b_)) _ from by rw [htB]; exact (by exact (H.rob 3 rfl : Rob _ (Vals b_) _).imp fun _ h => h.tail))
              replace H := H.add (show Rob _ (SlE sB2 (tlB a_ b_)) _ from by rw [htB]; exact (by exact (H.rob 3 rfl : Rob _ (SlE sB b_) _).imp fun _ h => h.tl hkB hlb))
              refine WE.reg ?_
              refine WL.mv rfl rfl ?_
              refine WL.pv (PV.subL rfl (by exact (H.p 4 rfl : (SlE sB b_) _)) TryzT.sl22 TryzT.sz34 rfl rfl (by decide) (by omega)) rfl ?_
              refine WL.as rfl rfl ?_
              refine WL.nil ?_
              have htl := tl_lt hne
              have hsl := stepX_len a_ b_
              exact ⟨((tlA a_ b_, tlB a_ b_), (g2_, sB2, g1_), outs ++ stepX a_ b_), (by repeat (first | with_reducible exact Off.refl _ _ | refine Off.upd rfl ?_ | refine Off.setAll rfl ?_ | refine Off.forget' rfl ?_)), ⟨rfl, rfl, rfl, trivial⟩, rfl, ⟨⟨by dsimp only; rw [List.append_assoc, ← diffX_step hne]; exact hdx, (by dsimp only; unfold tlA; split <;> first | exact hkA.tail | exact hkA), (by dsimp only; unfold tlB; split <;> exact hkB.tail), by dsimp only; rw [List.length_append]; omega⟩, H.sel [2, 0, 3, 1]⟩, (by dsimp only; exact htl)⟩
            · skip
              try simp only [decide_eq_true_eq, decide_eq_false_iff_not, ne_eq, Decidable.not_not, Bool.not_eq_true', Bool.not_eq_false', Bool.and_eq_true, Bool.or_eq_true, Bool.not_not, Bool.and_eq_false_iff, Bool.or_eq_false_iff, Int.not_lt, Int.not_le] at hc75
              have htB : tlB a_ b_ = b_ := by unfold tlB; rw [if_neg (by omega)]
              let sB2 := sB
              replace H := H.add (show Rob _ (Vals (tlB a_ b_)) _ from by rw [htB]; exact (by exact (H.rob 3 rfl : Rob _ (Vals b_) _)))
              replace H := H.add (show Rob _ (SlE sB2 (tlB a_ b_)) _ from by rw [htB]; exact (by exact (H.rob 3 rfl : Rob _ (SlE sB b_) _)))
              refine WE.skip ?_
              have htl := tl_lt hne
              have hsl := stepX_len a_ b_
              exact ⟨((tlA a_ b_, tlB a_ b_), (g2_, sB2, g1_), outs ++ stepX a_ b_), (by repeat (first | with_reducible exact Off.refl _ _ | refine Off.upd rfl ?_ | refine Off.setAll rfl ?_ | refine Off.forget' rfl ?_)), ⟨rfl, rfl, rfl, trivial⟩, rfl, ⟨⟨by dsimp only; rw [List.append_assoc, ← diffX_step hne]; exact hdx, (by dsimp only; unfold tlA; split <;> first | exact hkA.tail | exact hkA), (by dsimp only; unfold tlB; split <;> first | exact hkB.tail | exact hkB), by dsimp only; rw [List.length_append]; omega⟩, H.sel [2, 0, 3, 1]⟩, (by dsimp only; exact htl)⟩
    · skip
      try simp only [decide_eq_true_eq, decide_eq_false_iff_not, ne_eq, Decidable.not_not, Bool.not_eq_true', Bool.not_eq_false', Bool.and_eq_true, Bool.or_eq_true, Bool.not_not, Bool.and_eq_false_iff, Bool.or_eq_false_iff, Int.not_lt, Int.not_le] at hc14
      have hb0 : b_ = [] := List.eq_nil_of_length_eq_zero (by omega)
      refine WE.exit ?_
      refine WE.seq_reg ?_
      refine WL.mv rfl rfl ?_
      refine WL.as rfl rfl ?_
      refine WL.nil ?_
      refine WE.ret ?_
      refine ⟨[_], _, .nil _, ⟨rfl, trivial⟩, ?_⟩
      subst ha0
      subst hb0
      rw [diffX_nil, List.append_nil] at hdx
      rw [hdx] at H
      exact ⟨H.toOut0, H.l 0 rfl⟩

end Go.Sp.Tryz

