/- Walks of functions, printed by a program of this session (gen.py) from notes on each function. -/
import Derived.Test.YtdllpckpfkjkeaaDoorQa
set_option maxRecDepth 100000
set_option maxHeartbeats 1000000
set_option linter.unusedVariables false
set_option linter.unusedSimpArgs false
namespace Go.Sp.Tryd
open Go.Proofs Go.RowKit Go.Sp

def backV (bs : List Tr) (j : Nat) (xs : List Value) (_ : World) : Prop := ∃ h : bs.length - 1 - j < bs.length, xs = [.int .i64 ((bs.length - 1 - j : Nat) : Int), (bs[bs.length - 1 - j]).ptr]
def AllA (bits : Int) (bs : List Tr) (w : World) : Prop := ∀ b ∈ bs, TrA bits b w
theorem slv_own {w : World} {base n : Nat} {e : TypeId} {v : Value} {xs : List Value} (h : w.ownsRow base e 1 v n xs) : SlV v xs w := by
  have hl := h.1
  unfold SlV
  have := SlC.of_own h
  rw [show n = xs.length by omega] at this
  exact this
theorem besA {bits : Int} {T : Tr} {k : List UInt8} {d n : Nat} {w : World} (h : TrA bits T w) : AllA bits (besL T k d n) w := fun b hb => by
  obtain ⟨j, _, rfl⟩ := List.mem_map.1 hb
  exact (h.atN j).beside
theorem SlV.get {w : World} {s : Value} {bs : List Tr} (h : SlV s (bs.map Tr.ptr) w) (i : Nat) (hi : i < bs.length) : RdA w (sAddr s (i * 1)) [(bs[i]).ptr] := by
  have := SlV.rd h i (by simpa using hi)
  rwa [List.getElem_map] at this

theorem Backward_c {X : Nat → Prop} {w : World} {s : Value} {cs : List Value} (hX : ∀ b, X b → b < w.heap.size) (hf0 : Rob X (SlV s cs) w) :
    Ret Tryd.prog 76 [s].toArray w fun r w' => ∃ b1, r = .func (.func 93) [].toArray [.pointer (some ⟨b1, 0, none⟩)].toArray ∧ Out Nil w w' ∧ Rob X (fun w => RdA w ⟨b1, 0, none⟩ [s]) w' := by
  refine Ret.of_body (N := 4) Tryd.func76 rfl rfl (by simp) ?_
  have H := St.begin hX
  replace H := H.add (rob0 hf0)
  refine WE.seq_reg ?_
  refine WL.box (l := [s]) H rfl (SlC.cells (H.p 0 rfl)) rfl ?_
  intro b1 w1 H
  refine WL.as rfl rfl ?_
  refine WL.nil ?_
  refine WE.seq_reg ?_
  refine WL.pv (PV.makeFunc rfl) rfl ?_
  refine WL.as rfl rfl ?_
  refine WL.nil ?_
  refine WE.ret ?_
  refine ⟨[_], _, .nil _, ⟨rfl, trivial⟩, ?_⟩
  replace H := H.freeze (i := 0) rfl
  exact ⟨_, rfl, H.toOut0, H.give ((H.rob 0 rfl).imp fun _ h => h.rd)⟩

theorem back1_seq {C : Nat → Prop} {w : World} {b1 : Nat} {s : Value} {bs : List Tr} (hC : ∀ b, C b → b < w.heap.size) (hf0 : Rob C (fun w => RdA w ⟨b1, 0, none⟩ [s]) w) (hf1 : Rob C (SlV s (bs.map Tr.ptr)) w) (hlen : bs.length ≤ 1000000) : SeqV Tryd.prog 93 [] [.pointer (some ⟨b1, 0, none⟩)] (bs.length) (backV bs) Nil C w := by
  intro f J Jx hst hsta hstx hround hf
  show Ret Tryd.prog 93 ([f, .pointer (some ⟨b1, 0, none⟩)] : List Value).toArray w _
  refine Ret.of_body (N := 19) Tryd.func93 rfl rfl (by simp) ?_
  have H := St.begin (X := C) hC
  replace H := H.add (rob0 hf1)
  replace H := H.add (rob0 hf0)
  have hml : (bs.map Tr.ptr).length = bs.length := List.length_map ..
  refine WE.seq_reg ?_
  refine WL.load1 rfl TrydT.ag50 rfl rfl (H.p 0 rfl) ?_
  refine WL.pv (PV.lenS (H.p 1 rfl : SlV s (bs.map Tr.ptr) _) TrydT.sl50 rfl) rfl ?_
  refine WL.pv (PV.eq (v' := .int .i64 (((bs.length - 0 : Nat) : Int) - 1)) (PV.sub64 rfl rfl rfl (by omega) (by omega)) (by rw [hml]; rfl)) rfl ?_
  refine WL.as rfl rfl ?_
  refine WL.nil ?_
  refine WE.block ?_
  refine WE.loop (α := Nat) [3, 7, 8, 9, 10, 11, 12, 13, 14, 15, 16, 17, 18] (fun j => [(3, .int .i64 (((bs.length - j : Nat) : Int) - 1))]) (fun j wl => j ≤ bs.length ∧ J Nil j wl ∧ St C wl wl [] [] [fun w => RdA w ⟨b1, 0, none⟩ [s], SlV s (bs.map Tr.ptr)]) (fun j => bs.length - j) 0 ⟨rfl, trivial⟩ ⟨Nat.zero_le _, hst Nil w (Out.refl _ _) (fun _ h => h.elim) (fun _ h => h), H⟩ ?_
  intro j γ0 w1 hI
  try dsimp only at hI
  obtain ⟨hj, hJ, H⟩ := hI
  have hwl : ∃ wl1, wl1 = w1 := ⟨_, rfl⟩
  obtain ⟨wl1, hwl⟩ := hwl
  rw [← hwl] at hJ H ⊢
  clear hwl
  refine WE.seq ?_
  refine WE.seq_reg ?_
  refine WL.mv rfl rfl ?_
  refine WL.pv (PV.geq rfl rfl rfl) rfl ?_
  refine WL.nil ?_
  refine WE.cond rfl (fun hc8 => ?_) (fun hc8 => ?_)
  · skip
    try simp only [decide_eq_true_eq, decide_eq_false_iff_not, ne_eq, Decidable.not_not, Bool.not_eq_true', Bool.not_eq_false', Bool.and_eq_true, Bool.or_eq_true, Bool.not_not, Bool.and_eq_false_iff, Bool.or_eq_false_iff, Int.not_lt, Int.not_le] at hc8
    have hlt : j < bs.length := by omega
    have he_ : ((bs.length - j : Nat) : Int) - 1 = ((bs.length - 1 - j : Nat) : Int) := by omega
    rw [he_]
    refine WE.skip ?_
    refine WE.seq ?_
    refine WE.block ?_
    refine WE.seq_reg ?_
    refine WL.mv rfl rfl ?_
    refine WL.mv rfl rfl ?_
    refine WL.load1 rfl TrydT.ag50 rfl rfl (H.p 0 rfl) ?_
    refine WL.mv rfl rfl ?_
    refine WL.pv (PV.idxS rfl (H.p 1 rfl : SlV s (bs.map Tr.ptr) _) TrydT.sl50 TrydT.sz29 rfl rfl (by omega) (by omega)) rfl ?_
    refine WL.load1 rfl TrydT.ag29 rfl rfl (SlV.get (H.p 1 rfl) (bs.length - 1 - j) (by omega)) ?_
    refine WL.callV rfl rfl (hround Nil j _ wl1 _ (by omega) hJ H.toOut0 (Rob.pure ⟨by omega, rfl⟩)) ?_
    rintro _ w2 ⟨hk, ⟨rfl, hJ⟩ | ⟨rfl, hJ⟩⟩
    · skip
      replace H := St.again0 (Ps := [fun w => RdA w ⟨b1, 0, none⟩ [s], SlV s (bs.map Tr.ptr)]) hC hk (fun _ h => h.elim) (by intro p hp; simp at hp; rcases hp with rfl | rfl <;> assumption)
      refine WL.pv (PV.not rfl rfl) rfl ?_
      refine WL.nil ?_
      refine WE.cond_f rfl ?_
      refine WE.skip ?_
      refine WE.reg ?_
      refine WL.mv rfl rfl ?_
      refine WL.pv (PV.eq (v' := .int .i64 (((bs.length - (j + 1) : Nat) : Int) - 1)) (PV.sub64 rfl rfl rfl (by omega) (by omega)) (by congr 1; omega)) rfl ?_
      refine WL.as rfl rfl ?_
      refine WL.nil ?_
      exact ⟨j + 1, (by repeat (first | with_reducible exact Off.refl _ _ | refine Off.upd rfl ?_ | refine Off.setAll rfl ?_ | refine Off.forget' rfl ?_)), ⟨rfl, trivial⟩, rfl, ⟨by omega, hJ, H⟩, (by omega)⟩
    · skip
      refine WL.pv (PV.not rfl rfl) rfl ?_
      refine WL.nil ?_
      refine WE.cond_t rfl ?_
      refine WE.ret ?_
      refine ⟨[], _, .nil _, trivial, ?_⟩
      exact ⟨rfl, Nil, .inr hJ⟩
  · skip
    try simp only [decide_eq_true_eq, decide_eq_false_iff_not, ne_eq, Decidable.not_not, Bool.not_eq_true', Bool.not_eq_false', Bool.and_eq_true, Bool.or_eq_true, Bool.not_not, Bool.and_eq_false_iff, Bool.or_eq_false_iff, Int.not_lt, Int.not_le] at hc8
    have hj_ : j = bs.length := by omega
    refine WE.exit ?_
    refine ⟨[], _, .nil _, trivial, ?_⟩
    subst hj_
    exact ⟨rfl, Nil, .inl (hsta _ _ _ _ hJ H.toOut0)⟩

theorem up_c {X : Nat → Prop} {w : World} {bh bc b9 b4 b6 b7 : Nat} {bits c0 : Int} {E : Tr} {bs : List Tr} {k : List UInt8} {s sl : Value} {d : Nat} (hX : ∀ b, X b → b < w.heap.size) (ho0 : Blk w bc 127 ([.int .i64 c0])) (hf0 : Rob (fun c_ => X c_ ∨ c_ = bc) (HAt bh bc bits) w) (hf1 : Rob (fun c_ => X c_ ∨ c_ = bc) (TrA bits E) w) (hf2 : Rob (fun c_ => X c_ ∨ c_ = bc) (AllA bits bs) w) (hf3 : Rob (fun c_ => X c_ ∨ c_ = bc) (SlV sl (bs.map Tr.ptr)) w) (hf4 : Rob (fun c_ => X c_ ∨ c_ = bc) (fun w => RdA w ⟨b9, 0, none⟩ [sl]) w) (hf5 : Rob (fun c_ => X c_ ∨ c_ = bc) (fun w => RdA w ⟨b4, 0, none⟩ [.pointer (some ⟨bh, 0, none⟩)]) w) (hf6 : Rob (fun c_ => X c_ ∨ c_ = bc) (fun w => RdA w ⟨b6, 0, none⟩ (kc k ++ [s])) w) (hf7 : Rob (fun c_ => X c_ ∨ c_ = bc) (fun w => RdA w ⟨b7, 0, none⟩ [.int .i64 (d : Int)]) w) (hf8 : Rob (fun c_ => X c_ ∨ c_ = bc) (Rounds) w) (hbits : 0 ≤ bits ∧ bits ≤ 256) (hk : k.length = 32) (hd : d + bs.length ≤ 256) (hcnt : E.er.cnt + ((bs.map Tr.er).map Sh.cnt).sum ≤ 1000000000) :
    Ret Tryd.prog 75 [E.ptr, .pointer (some ⟨b9, 0, none⟩), .pointer (some ⟨b4, 0, none⟩), .pointer (some ⟨b6, 0, none⟩), .pointer (some ⟨b7, 0, none⟩)].toArray w fun v w' => ∃ (T : Tr) (m : Int), v = T.ptr ∧ T.er = upS k d (bs.map Tr.er) E.er ∧ Out (· = bc) w w' ∧ Blk w' bc 127 [.int .i64 m] ∧ Rob (fun c => X c ∨ c = bc) (TrA bits T) w' := by
  refine Ret.of_body (N := 23) Tryd.func75 rfl rfl (by simp) ?_
  have H := St.begin1 (b := bc) (t := 127) (l := [.int .i64 c0]) hX ho0
  replace H := H.add (rob1 hf8)
  replace H := H.add (rob1 hf7)
  replace H := H.add (rob1 hf6)
  replace H := H.add (rob1 hf5)
  replace H := H.add (rob1 hf4)
  replace H := H.add (rob1 hf3)
  replace H := H.add (rob1 hf2)
  replace H := H.add (rob1 hf1)
  replace H := H.add (rob1 hf0)
  refine WE.seq_reg ?_
  refine WL.box (l := [E.ptr]) H rfl (by rfl) rfl ?_
  intro b5 w1 H
  refine WL.as rfl rfl ?_
  refine WL.nil ?_
  refine WE.seq ?_
  refine WE.seq_reg ?_
  refine WL.load1 rfl TrydT.ag50 rfl rfl (H.p 4 rfl) ?_
  refine WL.call TrydT.fb76 rfl (Backward_c (s := sl) (cs := bs.map Tr.ptr) H.yylt (by exact H.rob 3 rfl) ) ?_
  rintro _ w2 ⟨bbv10, rfl, hO, hR⟩
  replace H := (H.out hO).add hR
  refine WL.nil ?_
  refine WE.block ?_
  replace H := H.sel [0, 1, 2, 3, 4, 5, 6, 7, 8, 9]
  replace H := H.pushNil
  refine WE.rangeF (α := Tr × Int) (fun i g => g.1.er = upS k (d + (bs.length - i)) ((bs.map Tr.er).drop (bs.length - i)) E.er) (fun i g => [Ent.blk bc 127 [.int .i64 g.2]]) (fun i g => [Ent.blk b5 29 [g.1.ptr]]) (fun i g => [fun w => RdA w ⟨bbv10, 0, none⟩ [sl], HAt bh bc bits, TrA bits g.1, AllA bits bs, SlV sl (bs.map Tr.ptr), fun w => RdA w ⟨b9, 0, none⟩ [sl], fun w => RdA w ⟨b4, 0, none⟩ [.pointer (some ⟨bh, 0, none⟩)], fun w => RdA w ⟨b6, 0, none⟩ (kc k ++ [s]), fun w => RdA w ⟨b7, 0, none⟩ [.int .i64 (d : Int)], Rounds]) (fun _ _ => False) (fun _ _ => []) (fun _ _ => []) (fun _ _ => []) (E, c0) H rfl TrydT.fb93 (fun W0 hO => back1_seq (bs := bs) (H.ccLt hO) (H.ccRob0 hO 0 rfl) (H.ccRob0 hO 4 rfl) (by omega)) (by rintro _ _ _ ⟨_, rfl⟩; rfl) ⟨by show E.er = _; rw [Nat.sub_zero, List.drop_eq_nil_of_le (by simp)]; rfl, rfl, rfl, rfl⟩ ?_ ?_ ?_
  · skip
    intro i g xs_ l_ d_ o_ T_ sc_ w3 hi_ hR_ hV_
    obtain ⟨hlt_, rfl⟩ := hV_
    have hud := upS_drop k d (bs.map Tr.er) E.er (bs.length - 1 - i) (by simpa using hlt_)
    rw [List.getElem_map] at hud
    have hcn : g.1.er.cnt + (bs[bs.length - 1 - i]).er.cnt ≤ 1000000000 := upS_bound hcnt hR_ hlt_ hi_
    refine WE.seq_reg ?_
    refine WL.as rfl rfl ?_
    refine WL.nil ?_
    refine WE.reg ?_
    refine WL.as rfl rfl ?_
    refine WL.nil ?_
    refine ⟨rfl, rfl, rfl, ?_⟩
    intro w4 H
    refine WE.block ?_
    refine WE.reg ?_
    refine WL.load1 rfl TrydT.ag32 rfl rfl (H.p 7 rfl) ?_
    refine WL.load1 rfl TrydT.ag29 rfl rfl (by exact Blk.segAt (H.l 0 rfl) (Seg.all _) (by rfl)) ?_
    refine WL.mv rfl rfl ?_
    refine WL.pv (PV.fieldAddr rfl TrydT.fd27_0 rfl) rfl ?_
    refine WL.loadR rfl TrydT.ag24 rfl rfl (RdA.segAt (H.p 8 rfl) (Seg.l (Seg.all (kc k))) rfl) (by (rw [TrydT.sz24]; refine congrArg some ?_; (simp only [kc_length, kw_length, List.length_replicate, List.length_append, List.length_cons, List.length_nil, cutI_length, shaOf_length, dig_length, valD_length, rootM_length]; omega))) ?_
    refine WL.load1 rfl TrydT.ag3 rfl rfl (H.p 9 rfl) ?_
    refine WL.mv rfl rfl ?_
    refine WL.pv (PV.eq (v' := .int .i64 ((d + (bs.length - 1 - i) : Nat) : Int)) (PV.add64 rfl rfl rfl (by omega) (by omega)) rfl) rfl ?_
    refine WL.call TrydT.fb68 rfl (pjoin_c (n := g.1) (b := bs[bs.length - 1 - i]) (k := k) (d := d + (bs.length - 1 - i)) (bits := bits) H.yylt (H.o 0 rfl) (by exact H.robOld 0 rfl 2 rfl) (by exact H.robOld 0 rfl 3 rfl) (by exact (H.robOld 0 rfl 4 rfl).imp fun _ h => h _ (List.getElem_mem hlt_)) (by exact H.robOld 0 rfl 10 rfl) hbits hk (by omega) hcn) ?_
    rintro _ w5 ⟨Tv21, mv21, rfl, hTv21, hO, hB, hR⟩
    replace H := H.calledOR 0 rfl hO hB hR
    refine WL.storeL H 0 rfl rfl rfl (new := _) rfl (by exact TrydT.sz29) (one_lit _ rfl) (Laid.at (Laid.all (by (simp only [kc_length, kw_length, List.length_replicate, List.length_append, List.length_cons, List.length_nil, cutI_length, shaOf_length, dig_length, valD_length, rootM_length]; done))) (by rfl)) rfl ?_
    intro w6 H
    refine WL.nil ?_
    replace H := H.sel [2, 3, 0, 5, 6, 7, 8, 9, 10, 11, 12]
    exact ⟨(Tv21, mv21), (by dsimp only; rw [hTv21, hR_, show bs.length - (i + 1) = bs.length - 1 - i by omega, hud, show bs.length - i = bs.length - 1 - i + 1 by omega]), H⟩
  · skip
    intro g d_0 w7 hR_ H
    refine WE.seq_reg ?_
    refine WL.load1 rfl TrydT.ag29 rfl rfl (by exact Blk.segAt (H.l 1 rfl) (Seg.all _) (by rfl)) ?_
    refine WL.as rfl rfl ?_
    refine WL.nil ?_
    refine WE.ret ?_
    (obtain ⟨w8, hl_0, H⟩ := H.unmark 0 rfl)
    refine ⟨[_], _, (hl_0 _ (.nil _)), ⟨rfl, trivial⟩, ?_⟩
    refine ⟨g.1, g.2, rfl, ?_, H.toOut1, H.o 0 rfl, H.giveO (H.rob 2 rfl)⟩
    rw [hR_, Nat.sub_self]; rfl
  · skip
    intro e_ g d_0 w9 he_ hR_ H
    exact hR_.elim

end Go.Sp.Tryd
