/- Walks of functions, printed by a program of this session (gen.py) from notes on each function. -/
import Derived.Test.YtcclagdjpoimaaaGreatDoorNk
import Derived.Test.YtcclagdjpoimaaaGreatDoorMore
set_option maxRecDepth 100000
set_option maxHeartbeats 1000000
set_option linter.unusedVariables false
set_option linter.unusedSimpArgs false
namespace Go.Sp.Tryz
open Go.Proofs Go.RowKit Go.Sp

theorem and1 {m : Nat} (h : m < 256) : IntKind.u8.wrap ((BitVec.ofInt IntKind.u8.bits (m : Int) &&& BitVec.ofInt IntKind.u8.bits 1).toNat : Int) = ((m % 2 : Nat) : Int) := by
  rw [wrap8]
  have e : (BitVec.ofInt IntKind.u8.bits (m : Int) &&& BitVec.ofInt IntKind.u8.bits 1).toNat = m % 2 := by
    show (BitVec.ofInt 8 (m : Int) &&& 1#8).toNat = _
    rw [BitVec.ofInt_natCast, BitVec.toNat_and]
    simp [Nat.and_one_is_mod]
  rw [e]
  omega

theorem bitsBit_c {X : Nat → Prop} {w : World} {k : List UInt8} {d : Nat} (hX : ∀ b, X b → b < w.heap.size) (hk : k.length = 32) (hd : d < 256) :
    Ret Tryz.prog 87 [.agg (kc k).toArray, .int .i64 (d : Int)].toArray w fun v w' => v = .int .i64 (bitN k d : Int) ∧ Out Nil w w' := by
  refine Ret.of_body (N := 21) Tryz.func87 rfl rfl (by simp) ?_
  have H := St.begin hX
  have hx := (k.getD (d / 8) 0).toNat_lt
  have hb2 := bitN_lt k d
  refine WE.seq_reg ?_
  refine WL.box (l := kc k) H rfl (by rfl) rfl ?_
  intro b2 w1 H
  refine WL.as rfl rfl ?_
  refine WL.nil ?_
  refine WE.seq ?_
  refine WE.seq_reg ?_
  refine WL.mv rfl rfl ?_
  refine WL.pv (PV.lss rfl rfl rfl) rfl ?_
  refine WL.mv rfl rfl ?_
  refine WL.known (t := 7) (c := false) rfl (by (simp; done)) ?_
  refine WL.mv rfl rfl ?_
  refine WL.pv (PV.geq rfl rfl rfl) rfl ?_
  refine WL.pv (PV.pick_f rfl rfl rfl) rfl ?_
  refine WL.nil ?_
  refine WE.cond_f' rfl (by (simp; omega)) ?_
  refine WE.skip ?_
  refine WE.seq_reg ?_
  refine WL.mv rfl rfl ?_
  refine WL.pv (PV.eq (v' := .int .i64 ((d / 8 : Nat) : Int)) (PV.quo64 rfl rfl rfl (by omega) (by omega) (by omega)) (by rfl)) rfl ?_
  refine WL.pv (PV.indexArr rfl TryzT.ar31 TryzT.sz5 rfl rfl (by omega) (by omega)) rfl ?_
  refine WL.load1 rfl TryzT.ag5 rfl rfl (Blk.bytD (H.l 0 rfl) (d / 8) (by omega) (by omega)) ?_
  refine WL.mv rfl rfl ?_
  refine WL.pv (PV.eq (v' := .int .i64 ((d % 8 : Nat) : Int)) (PV.rem64 rfl rfl rfl (by omega) (by omega)) (by rfl)) rfl ?_
  refine WL.pv (PV.eq (v' := .int .i64 ((7 - d % 8 : Nat) : Int)) (PV.sub64 rfl rfl rfl (by omega) (by omega)) (by (congr 1; omega))) rfl ?_
  refine WL.pv (PV.eq (v' := .int .u8 (((k.getD (d / 8) 0).toNat / 2 ^ (7 - d % 8) : Nat) : Int)) (PV.shrN rfl rfl rfl (by show _ < 8; omega)) rfl) rfl ?_
  refine WL.pv (PV.eq (v' := .int .u8 ((bitN k d : Nat) : Int)) (PV.andw rfl rfl rfl) (congrArg (Value.int .u8) (and1 (Nat.lt_of_le_of_lt (Nat.div_le_self _ _) hx)))) rfl ?_
  refine WL.pv (PV.conv64 rfl TryzT.in5 TryzT.in3 rfl (by omega) (by omega)) rfl ?_
  refine WL.as rfl rfl ?_
  refine WL.nil ?_
  refine WE.ret ?_
  refine ⟨[_], _, .nil _, ⟨rfl, trivial⟩, ?_⟩
  exact ⟨rfl, H.toOut0⟩

theorem Child_c {X : Nat → Prop} {w : World} {bits : Int} {T : Tr} {b : Nat} (hX : ∀ b, X b → b < w.heap.size) (hf0 : Rob X (TrA bits T) w) :
    Ret Tryz.prog 76 [T.ptr, .int .i64 (b : Int)].toArray w fun v w' => v = (T.child b).ptr ∧ Out Nil w w' := by
  refine Ret.of_body (N := 11) Tryz.func76 rfl rfl (by simp) ?_
  have H := St.begin hX
  replace H := H.add (rob0 hf0)
  refine WE.seq_reg ?_
  refine WL.as rfl rfl ?_
  refine WL.nil ?_
  refine WE.seq ?_
  refine WE.seq_reg ?_
  refine WL.mv rfl rfl ?_
  refine WL.pv (PV.eql rfl rfl rfl) rfl ?_
  refine WL.nil ?_
  refine WE.cond rfl (fun hc6 => ?_) (fun hc6 => ?_)
  · skip
    try simp only [decide_eq_true_eq, decide_eq_false_iff_not, ne_eq, Decidable.not_not, Bool.not_eq_true', Bool.not_eq_false', Bool.and_eq_true, Bool.or_eq_true, Bool.not_not, Bool.and_eq_false_iff, Bool.or_eq_false_iff, Int.not_lt, Int.not_le] at hc6
    have hb : b = 0 := by omega
    refine WE.seq_reg ?_
    refine WL.mv rfl rfl ?_
    refine WL.call TryzT.fb85 rfl (Left_c (T := T) (bits := bits) H.yylt (by exact H.rob 0 rfl) ) ?_
    rintro _ w1 ⟨rfl, hO⟩
    replace H := H.out hO
    refine WL.as rfl rfl ?_
    refine WL.nil ?_
    refine WE.ret ?_
    refine ⟨[_], _, .nil _, ⟨rfl, trivial⟩, ?_⟩
    refine ⟨?_, H.toOut0⟩
    rw [Tr.child, if_pos hb]; rfl
  · skip
    try simp only [decide_eq_true_eq, decide_eq_false_iff_not, ne_eq, Decidable.not_not, Bool.not_eq_true', Bool.not_eq_false', Bool.and_eq_true, Bool.or_eq_true, Bool.not_not, Bool.and_eq_false_iff, Bool.or_eq_false_iff, Int.not_lt, Int.not_le] at hc6
    have hb : b ≠ 0 := by omega
    refine WE.skip ?_
    refine WE.seq_reg ?_
    refine WL.mv rfl rfl ?_
    refine WL.call TryzT.fb86 rfl (Right2_c (T := T) (bits := bits) H.yylt (by exact H.rob 0 rfl) ) ?_
    rintro _ w2 ⟨rfl, hO⟩
    replace H := H.out hO
    refine WL.as rfl rfl ?_
    refine WL.nil ?_
    refine WE.ret ?_
    refine ⟨[_], _, .nil _, ⟨rfl, trivial⟩, ?_⟩
    refine ⟨?_, H.toOut0⟩
    rw [Tr.child, if_neg hb]; rfl

def wayV (T : Tr) (k : List UInt8) (i : Nat) (xs : List Value) (_ : World) : Prop := xs = [.int .i64 (i : Int), (T.atN k 0 i).ptr]
def wayF (b1 b2 : Nat) : Value := .func (.func 119) [].toArray [.pointer (some ⟨b1, 0, none⟩), .pointer (some ⟨b2, 0, none⟩)].toArray

theorem way_c {X : Nat → Prop} {w : World} {T : Tr} {k : List UInt8} (hX : ∀ b, X b → b < w.heap.size) (hk : k.length = 32) :
    Ret Tryz.prog 95 [T.ptr, .agg (kc k).toArray].toArray w fun v w' => ∃ b1 b2, v = wayF b1 b2 ∧ Out Nil w w' ∧ w.heap.size ≤ b1 ∧ Blk w' b1 23 [T.ptr] ∧ Rob (fun c => X c ∨ c = b1) (fun w => RdA w ⟨b2, 0, none⟩ (kc k)) w' := by
  refine Ret.of_body (N := 6) Tryz.func95 rfl rfl (by simp) ?_
  have H := St.begin hX
  refine WE.seq_reg ?_
  refine WL.box (l := [T.ptr]) H rfl (rfl) rfl ?_
  intro b2 w1 H
  refine WL.box (l := kc k) H rfl (by rfl) rfl ?_
  intro b3 w2 H
  refine WL.as rfl rfl ?_
  refine WL.nil ?_
  refine WE.seq_reg ?_
  refine WL.pv (PV.makeFunc rfl) rfl ?_
  refine WL.as rfl rfl ?_
  refine WL.nil ?_
  refine WE.ret ?_
  refine ⟨[_], _, .nil _, ⟨rfl, trivial⟩, ?_⟩
  replace H := H.freeze (i := 0) rfl
  exact ⟨_, _, rfl, H.toOut0, H.geL _ (List.mem_of_getElem? (i := 0) rfl) _ rfl, H.l 0 rfl, (H.give1 0 rfl).imp fun _ h => h.rd⟩

theorem way1_seq {C : Nat → Prop} {w : World} {b1 b2 : Nat} {bits : Int} {T : Tr} {k : List UInt8} (hC : ∀ b, C b → b < w.heap.size) (ho0 : Blk w b1 23 ([T.ptr])) (hn0 : ¬ C b1) (hf0 : Rob (fun c_ => C c_ ∨ c_ = b1) (fun w => RdA w ⟨b2, 0, none⟩ (kc k)) w) (hf1 : Rob (fun c_ => C c_ ∨ c_ = b1) (TrA bits T) w) (hk : k.length = 32) (hfit : T.er.fit 0) : SeqV Tryz.prog 119 [] [.pointer (some ⟨b1, 0, none⟩), .pointer (some ⟨b2, 0, none⟩)] (T.dp k 0 + 1) (wayV T k) (· = b1) C w := by
  intro f J Jx hst hsta hstx hround hf
  show Ret Tryz.prog 119 ([f, .pointer (some ⟨b1, 0, none⟩), .pointer (some ⟨b2, 0, none⟩)] : List Value).toArray w _
  refine Ret.of_body (N := 21) Tryz.func119 rfl rfl (by simp) ?_
  have H := St.begin1 (X := C) (b := b1) (t := 23) (l := [T.ptr]) hC ho0
  replace H := H.add (rob1 hf1)
  replace H := H.add (rob1 hf0)
  have hdp := Tr.dp_fit (k := k) _ 0 T rfl hfit (by omega)
  refine WE.seq_reg ?_
  refine WL.as rfl rfl ?_
  refine WL.nil ?_
  refine WE.block ?_
  refine WE.loop (α := Nat) [4, 5, 6, 7, 8, 9, 10, 11, 12, 13, 14, 15, 16, 17, 18, 19, 20] (fun i => [(4, .int .i64 i)]) (fun i wl => i ≤ T.dp k 0 ∧ J (· = b1) i wl ∧ St C wl wl [Ent.blk b1 23 [(T.atN k 0 i).ptr]] [] [fun w => RdA w ⟨b2, 0, none⟩ (kc k), TrA bits T]) (fun i => T.dp k 0 - i) 0 ⟨rfl, trivial⟩ ⟨Nat.zero_le _, hst (· = b1) w (Out.refl _ _) (fun _ h => .inl h) (fun _ h => h), H⟩ ?_
  intro i γ0 w1 hI
  try dsimp only at hI
  obtain ⟨hi, hJ, H⟩ := hI
  have hwl : ∃ wl1, wl1 = w1 := ⟨_, rfl⟩
  obtain ⟨wl1, hwl⟩ := hwl
  rw [← hwl] at hJ H ⊢
  clear hwl
  refine WE.seq ?_
  refine WE.seq_reg ?_
  refine WL.mv rfl rfl ?_
  refine WL.mv rfl rfl ?_
  refine WL.load1 rfl TryzT.ag23 rfl rfl (by exact Blk.segAt (H.o 0 rfl) (Seg.all _) (by rfl)) ?_
  refine WL.callV rfl rfl (hround (· = b1) i _ wl1 _ (by omega) hJ H.toOut1 (Rob.pure rfl)) ?_
  rintro _ w2 ⟨hk, ⟨rfl, hJ⟩ | ⟨rfl, hJ⟩⟩
  · skip
    replace H := St.again1 (Ps := [fun w => RdA w ⟨b2, 0, none⟩ (kc k), TrA bits T]) hC hk (fun _ h => .inl h) rfl (H.o 0 rfl) (by intro p hp; simp at hp; rcases hp with rfl | rfl <;> assumption)
    refine WL.mv rfl rfl ?_
    refine WL.load1 rfl TryzT.ag23 rfl rfl (by exact Blk.segAt (H.o 0 rfl) (Seg.all _) (by rfl)) ?_
    refine WL.call TryzT.fb56 rfl (NKind_c (T := T.atN k 0 i) (bits := bits) H.yylt (by exact (H.rob 1 rfl).imp fun _ h => h.atN i) ) ?_
    rintro _ w3 ⟨rfl, hO⟩
    replace H := H.out hO
    refine WL.pv (PV.eql rfl rfl rfl) rfl ?_
    refine WL.pv (PV.pick_t rfl rfl rfl) rfl ?_
    refine WL.nil ?_
    refine WE.cond rfl (fun hc13 => ?_) (fun hc13 => ?_)
    · skip
      try simp only [decide_eq_true_eq, decide_eq_false_iff_not, ne_eq, Decidable.not_not, Bool.not_eq_true', Bool.not_eq_false', Bool.and_eq_true, Bool.or_eq_true, Bool.not_not, Bool.and_eq_false_iff, Bool.or_eq_false_iff, Int.not_lt, Int.not_le] at hc13
      have hlt : i < T.dp k 0 := by rcases Nat.lt_or_ge i (T.dp k 0) with h | h; exact h; exact absurd (show (T.atN k 0 i).er.kind = 2 by exact hc13) (by rw [show i = T.dp k 0 by omega]; exact Tr.atN_out _ 0 T rfl)
      refine WE.skip ?_
      refine WE.seq ?_
      refine WE.block ?_
      refine WE.draw (.take 0 (.take 1 (.take 2 (.pick1 3 (.pick1 4 (.pick1 5 .done)))))) TryzT.mixed (by kernel_rfl) ?_
      replace H := H.out (Out.drew _)
      refine WP.take_read rfl rfl (RV.loadOne rfl TryzT.ag23 rfl) (by exact Blk.segAt (H.o 0 rfl) (Seg.all _) (by rfl)) ?_
      refine WP.readA rfl rfl rfl TryzT.ag31 rfl (H.p 0 rfl) (by (rw [TryzT.sz31]; refine congrArg some ?_; (simp only [kc_length, kw_length, List.length_replicate, List.length_append, List.length_cons, List.length_nil, cutI_length, shaOf_length, dig_length, valD_length, rootM_length]; omega))) ?_
      refine WP.mv rfl rfl rfl ?_
      refine WP.pick1 rfl ?_
      refine WL.call TryzT.fb87 rfl (bitsBit_c (k := k) (d := i) H.yylt  (by assumption) (by omega)) ?_
      rintro _ w4 ⟨rfl, hO⟩
      replace H := H.out hO
      refine WL.nil ⟨(List.forall_mem_cons.2 ⟨(by exact (fun h => absurd (show waits _ 3 1 = false from h) (by decide +kernel))), (List.forall_mem_cons.2 ⟨(fun _ _ => (by exact Blk.segAt (H.o 0 rfl) (Seg.all _) (by rfl))), (fun _ h => by cases h)⟩)⟩), ?_⟩
      refine WP.pick1 rfl ?_
      refine WL.call TryzT.fb76 rfl (Child_c (T := T.atN k 0 i) (bits := bits) (b := bitN k i) H.yylt (by exact (H.rob 1 rfl).imp fun _ h => h.atN i) ) ?_
      rintro _ w5 ⟨rfl, hO⟩
      replace H := H.out hO
      refine WL.nil ⟨(List.forall_mem_cons.2 ⟨(by exact (fun h => absurd (show waits _ 4 1 = false from h) (by decide +kernel))), (List.forall_mem_cons.2 ⟨(by exact (fun h => absurd (show waits _ 4 0 = false from h) (by decide +kernel))), (fun _ h => by cases h)⟩)⟩), ?_⟩
      refine WP.pick1 rfl ?_
      refine WL.storeO H 0 rfl rfl rfl (new := _) rfl (by exact TryzT.sz23) (one_lit _ rfl) (Laid.at (Laid.all (by (simp only [kc_length, kw_length, List.length_replicate, List.length_append, List.length_cons, List.length_nil, cutI_length, shaOf_length, dig_length, valD_length, rootM_length]; done))) (by rfl)) rfl ?_
      intro w6 H
      refine WL.nil ⟨(List.forall_mem_cons.2 ⟨(by exact (fun h => absurd (show waits _ 5 1 = false from h) (by decide +kernel))), (List.forall_mem_cons.2 ⟨(by exact (fun h => absurd (show waits _ 5 0 = false from h) (by decide +kernel))), (fun _ h => by cases h)⟩)⟩), ?_⟩
      refine WP.done ?_
      refine WE.reg ?_
      refine WL.mv rfl rfl ?_
      refine WL.pv (PV.add64 rfl rfl rfl (by omega) (by omega)) rfl ?_
      refine WL.as rfl rfl ?_
      refine WL.nil ?_
      exact ⟨i + 1, (by repeat (first | with_reducible exact Off.refl _ _ | refine Off.upd rfl ?_ | refine Off.setAll rfl ?_ | refine Off.forget' rfl ?_)), ⟨rfl, trivial⟩, rfl, ⟨by omega, hsta _ _ _ _ hJ H.toOut1, H.rebase⟩, (by omega)⟩
    · skip
      try simp only [decide_eq_true_eq, decide_eq_false_iff_not, ne_eq, Decidable.not_not, Bool.not_eq_true', Bool.not_eq_false', Bool.and_eq_true, Bool.or_eq_true, Bool.not_not, Bool.and_eq_false_iff, Bool.or_eq_false_iff, Int.not_lt, Int.not_le] at hc13
      have hge_ : i = T.dp k 0 := by rcases Nat.lt_or_ge i (T.dp k 0) with h | h; exact absurd (Tr.atN_in (k := k) i 0 T h) (by exact hc13); omega
      refine WE.exit ?_
      refine ⟨[], _, .nil _, trivial, ?_⟩
      (subst hge_; exact ⟨rfl, _, .inl (hsta _ _ _ _ hJ H.toOut1)⟩)
  · skip
    refine WL.mv rfl rfl ?_
    refine WL.off rfl ?_
    refine WL.off rfl ?_
    refine WL.off rfl ?_
    refine WL.pv (PV.pick_f rfl rfl rfl) rfl ?_
    refine WL.nil ?_
    refine WE.cond_f rfl ?_
    refine WE.exit ?_
    refine ⟨[], _, .nil _, trivial, ?_⟩
    exact ⟨rfl, _, .inr hJ⟩

def lastP (T : Tr) (k : List UInt8) : Nat → Value
  | 0 => .pointer none
  | i + 1 => (T.atN k 0 i).ptr
def Tr.fin (T : Tr) (k : List UInt8) : Tr := T.atN k 0 (T.dp k 0)

theorem Locate_c {X : Nat → Prop} {w : World} {bits : Int} {T : Tr} {k : List UInt8} (hX : ∀ b, X b → b < w.heap.size) (hf0 : Rob X (TrA bits T) w) (hk : k.length = 32) (hfit : T.er.fit 0) :
    Ret Tryz.prog 61 [T.ptr, .agg (kc k).toArray].toArray w fun v w' => v = .tuple [(T.fin k).ptr, .int .i64 (T.dp k 0 : Int)].toArray ∧ Out Nil w w' := by
  refine Ret.of_body (N := 17) Tryz.func61 rfl rfl (by simp) ?_
  have H := St.begin hX
  replace H := H.add (rob0 hf0)
  refine WE.seq_reg ?_
  refine WL.box (l := kc k) H rfl (by rfl) rfl ?_
  intro b3 w1 H
  refine WL.alloc H rfl TryzT.ze23 rfl ?_
  intro b4 w2 H
  refine WL.alloc H rfl TryzT.ze3 rfl ?_
  intro b5 w3 H
  refine WL.nil ?_
  refine WE.seq ?_
  refine WE.seq_reg ?_
  refine WL.mv rfl rfl ?_
  refine WL.loadR rfl TryzT.ag31 rfl rfl (by exact Blk.segAt (H.l 2 rfl) (Seg.all _) (by rfl)) (by (rw [TryzT.sz31]; refine congrArg some ?_; (simp only [kc_length, kw_length, List.length_replicate, List.length_append, List.length_cons, List.length_nil, cutI_length, shaOf_length, dig_length, valD_length, rootM_length]; omega))) ?_
  refine WL.call TryzT.fb95 rfl (way_c (T := T) (k := k) H.yylt  (by assumption)) ?_
  rintro _ w4 ⟨bwv10, bkv10, rfl, hO, hge, hBwv10, hR⟩
  replace H := H.pushR hO (Ent.set (· = bwv10)) (fun c hc => by cases hc; exact hBwv10.lt) (fun c hc => by cases hc; exact hge) hR
  refine WL.nil ?_
  refine WE.block ?_
  refine WE.rangeF (α := Unit) (fun i _ => True) (fun i _ => []) (fun i _ => [Ent.blk b5 3 [.int .i64 ((i - 1 : Nat) : Int)], Ent.blk b4 23 [lastP T k i], Ent.blk b3 31 (kc k)]) (fun i _ => [fun w => RdA w ⟨bkv10, 0, none⟩ (kc k), TrA bits T]) (fun _ _ => False) (fun _ _ => []) (fun _ _ => []) (fun _ _ => []) () H rfl TryzT.fb119 (fun W0 hO => way1_seq (T := T) (k := k) (bits := bits) (H.ccLt hO) (hBwv10.of_eq (hO.block _ hBwv10.lt id)) (H.ccNot rfl) (H.ccRob hO 0 rfl) (H.ccRob hO 1 rfl) hk hfit) (by intro _ _ _ h; rw [h]; rfl) ⟨trivial, rfl, rfl, rfl⟩ ?_ ?_ ?_
  · skip
    intro i _ xs_ l_ d_ o_ T_ sc_ w5 hi_ hR_ hV_
    obtain rfl := hV_
    refine WE.seq_reg ?_
    refine WL.as rfl rfl ?_
    refine WL.nil ?_
    refine WE.reg ?_
    refine WL.as rfl rfl ?_
    refine WL.nil ?_
    refine ⟨rfl, rfl, rfl, ?_⟩
    intro w6 H
    refine WE.block ?_
    refine WE.reg ?_
    refine WL.mv rfl rfl ?_
    refine WL.mv rfl rfl ?_
    refine WL.storeL H 1 rfl rfl rfl (new := _) rfl (by exact TryzT.sz23) (one_lit _ rfl) (Laid.at (Laid.all (by (simp only [kc_length, kw_length, List.length_replicate, List.length_append, List.length_cons, List.length_nil, cutI_length, shaOf_length, dig_length, valD_length, rootM_length]; done))) (by rfl)) rfl ?_
    intro w7 H
    refine WL.storeL H 0 rfl rfl rfl (new := _) rfl (by exact TryzT.sz3) (one_lit _ rfl) (Laid.at (Laid.all (by (simp only [kc_length, kw_length, List.length_replicate, List.length_append, List.length_cons, List.length_nil, cutI_length, shaOf_length, dig_length, valD_length, rootM_length]; done))) (by rfl)) rfl ?_
    intro w8 H
    refine WL.nil ?_
    replace H := H.conv (L' := [Ent.blk b5 3 [.int .i64 ((i + 1 - 1 : Nat) : Int)], Ent.blk b4 23 [lastP T k (i + 1)], Ent.blk b3 31 (kc k), Ent.obj l_ o_, Ent.obj d_ (.deferred (some [])), Ent.sn T_ w6]) rfl
    replace H := H.drop (fun p hp => List.mem_cons_of_mem _ hp)
    exact ⟨(), trivial, H⟩
  · skip
    intro _ d_0 w9 hR_ H
    refine WE.seq_draw (.take 0 (.take 1 (.pick1 2 (.pick1 3 .done)))) TryzT.mixed (by kernel_rfl) ?_
    replace H := H.out (Out.drew _)
    refine WP.take_read rfl rfl (RV.loadOne rfl TryzT.ag23 rfl) (by exact Blk.segAt (H.l 2 rfl) (Seg.all _) (by rfl)) ?_
    refine WP.take_read rfl rfl (RV.loadOne rfl TryzT.ag3 rfl) (by exact Blk.segAt (H.l 1 rfl) (Seg.all _) (by rfl)) ?_
    refine WP.pick1 rfl ?_
    refine WL.storeL H 2 rfl rfl rfl (new := _) rfl (by exact TryzT.sz23) (by exact one_lit _ rfl) (Laid.at (Laid.all (by (simp only [kc_length, kw_length, List.length_replicate, List.length_append, List.length_cons, List.length_nil, cutI_length, shaOf_length, dig_length, valD_length, rootM_length]; done))) (by rfl)) rfl ?_
    intro w10 H
    refine WL.nil ⟨(List.forall_mem_cons.2 ⟨(fun _ _ => (by exact Blk.segAt (H.l 1 rfl) (Seg.all _) (by rfl))), (List.forall_mem_cons.2 ⟨(by exact (fun h => absurd (show waits _ 2 0 = false from h) (by decide +kernel))), (fun _ h => by cases h)⟩)⟩), ?_⟩
    refine WP.pick1 rfl ?_
    refine WL.storeL H 1 rfl rfl rfl (new := _) rfl (by exact TryzT.sz3) (by exact one_lit _ rfl) (Laid.at (Laid.all (by (simp only [kc_length, kw_length, List.length_replicate, List.length_append, List.length_cons, List.length_nil, cutI_length, shaOf_length, dig_length, valD_length, rootM_length]; done))) (by rfl)) rfl ?_
    intro w11 H
    refine WL.nil ⟨(List.forall_mem_cons.2 ⟨(by exact (fun h => absurd (show waits _ 3 1 = false from h) (by decide +kernel))), (List.forall_mem_cons.2 ⟨(by exact (fun h => absurd (show waits _ 3 0 = false from h) (by decide +kernel))), (fun _ h => by cases h)⟩)⟩), ?_⟩
    refine WP.done ?_
    refine WE.ret ?_
    (obtain ⟨w12, hl_0, H⟩ := H.unmark 0 rfl)
    refine ⟨[_, _], _, (hl_0 _ (.nil _)), ⟨⟨_, rfl, run_loadVar_one TryzT.ag23 (by exact Blk.segAt (H.l 1 rfl) (Seg.all _) rfl)⟩, ⟨_, rfl, run_loadVar_one TryzT.ag3 (by exact Blk.segAt (H.l 0 rfl) (Seg.all _) rfl)⟩, trivial⟩, ?_⟩
    exact ⟨rfl, H.toOut0⟩
  · skip
    intro e_ _ d_0 w13 he_ hR_ H
    exact hR_.elim

end Go.Sp.Tryz

set_option maxRecDepth 100000
set_option maxHeartbeats 1000000
set_option linter.unusedVariables false
set_option linter.unusedSimpArgs false
namespace Go.Sp.Tryz
open Go.Proofs Go.RowKit Go.Sp

theorem TrA.fin {bits : Int} {T : Tr} {w : World} {k : List UInt8} (h : TrA bits T w) : TrA bits (T.fin k) w := h.atN _
def Tr.getV (T : Tr) (k : List UInt8) : Option (List UInt8) := match T.fin k with
  | .leaf _ q v _ => if q = k then some v else none
  | _ => none

theorem GetA_c {X : Nat → Prop} {w : World} {bits : Int} {T : Tr} {k : List UInt8} (hX : ∀ b, X b → b < w.heap.size) (hf0 : Rob X (TrA bits T) w) (hk : k.length = 32) (hfit : T.er.fit 0) (hkd : (T.fin k).er.kind ≠ 1) :
    Ret Tryz.prog 35 [T.ptr, .agg (kc k).toArray].toArray w fun v w' => v = .tuple [.slice none 0 0, .bool false].toArray ∧ Out Nil w w' := by
  refine Ret.of_body (N := 27) Tryz.func35 rfl rfl (by simp) ?_
  have H := St.begin hX
  replace H := H.add (rob0 hf0)
  have hkl : (T.fin k).key.length = 32 := TrA.key_length (TrA.fin (hf0.here))
  have hvl := TrA.vlen (TrA.fin (k := k) (hf0.here))
  refine WE.seq_reg ?_
  refine WL.box (l := kc k) H rfl (by rfl) rfl ?_
  intro b3 w1 H
  refine WL.as rfl rfl ?_
  refine WL.as rfl rfl ?_
  refine WL.nil ?_
  refine WE.seq_reg ?_
  refine WL.mv rfl rfl ?_
  refine WL.loadR rfl TryzT.ag31 rfl rfl (by exact Blk.segAt (H.l 0 rfl) (Seg.all _) (by rfl)) (by (rw [TryzT.sz31]; refine congrArg some ?_; (simp only [kc_length, kw_length, List.length_replicate, List.length_append, List.length_cons, List.length_nil, cutI_length, shaOf_length, dig_length, valD_length, rootM_length]; omega))) ?_
  refine WL.call TryzT.fb61 rfl (Locate_c (T := T) (k := k) (bits := bits) H.yylt (by exact H.rob 0 rfl) (by assumption) (by assumption)) ?_
  rintro _ w2 ⟨rfl, hO⟩
  replace H := H.out hO
  refine WL.mv rfl rfl ?_
  refine WL.pv (PV.extract rfl rfl rfl) rfl ?_
  refine WL.pv (PV.extract rfl rfl rfl) rfl ?_
  refine WL.as rfl rfl ?_
  refine WL.as rfl rfl ?_
  refine WL.nil ?_
  refine WE.seq ?_
  refine WE.seq_draw (.take 0 (.pick1 1 (.take 2 (.take 3 (.take 4 (.take 7 (.pick1 5 (.take 6 (.take 8 (.take 9 .done)))))))))) TryzT.mixed (by kernel_rfl) ?_
  replace H := H.out (Out.drew _)
  refine WP.mv rfl rfl rfl ?_
  refine WP.pick1 rfl ?_
  refine WL.call TryzT.fb56 rfl (NKind_c (T := T.fin k) (bits := bits) H.yylt (by exact (H.rob 0 rfl).imp fun _ h => h.fin) ) ?_
  rintro _ w3 ⟨rfl, hO⟩
  replace H := H.out hO
  refine WL.nil ⟨(fun _ h => by cases h), ?_⟩
  refine WP.take_pure rfl rfl (PV.neq rfl rfl rfl) ?_
  refine WP.mv rfl rfl rfl ?_
  refine WP.known (t := 17) (c := true) rfl (by simp [hkd]) ?_
  refine WP.take_off rfl rfl ?_
  refine WP.take_off rfl rfl ?_
  refine WP.pick1 rfl ?_
  refine WL.off rfl ?_
  refine WL.nil ⟨(fun _ h => by cases h), ?_⟩
  refine WP.take_off rfl rfl ?_
  refine WP.take_off rfl rfl ?_
  refine WP.take_pure rfl rfl (PV.pick_t rfl rfl rfl) ?_
  refine WP.done ?_
  refine WE.cond_t rfl ?_
  refine WE.seq_reg ?_
  refine WL.as rfl rfl ?_
  refine WL.as rfl rfl ?_
  refine WL.nil ?_
  refine WE.ret ?_
  refine ⟨[_, _], _, .nil _, ⟨rfl, rfl, trivial⟩, ?_⟩
  exact ⟨rfl, H.toOut0⟩

theorem GetB_c {X : Nat → Prop} {w : World} {bits : Int} {T : Tr} {k : List UInt8} (hX : ∀ b, X b → b < w.heap.size) (hf0 : Rob X (TrA bits T) w) (hk : k.length = 32) (hfit : T.er.fit 0) (hkd : (T.fin k).er.kind = 1) (hkey : (T.fin k).key ≠ k) :
    Ret Tryz.prog 35 [T.ptr, .agg (kc k).toArray].toArray w fun v w' => v = .tuple [.slice none 0 0, .bool false].toArray ∧ Out Nil w w' := by
  refine Ret.of_body (N := 27) Tryz.func35 rfl rfl (by simp) ?_
  have H := St.begin hX
  replace H := H.add (rob0 hf0)
  have hkl : (T.fin k).key.length = 32 := TrA.key_length (TrA.fin (hf0.here))
  have hvl := TrA.vlen (TrA.fin (k := k) (hf0.here))
  refine WE.seq_reg ?_
  refine WL.box (l := kc k) H rfl (by rfl) rfl ?_
  intro b3 w1 H
  refine WL.as rfl rfl ?_
  refine WL.as rfl rfl ?_
  refine WL.nil ?_
  refine WE.seq_reg ?_
  refine WL.mv rfl rfl ?_
  refine WL.loadR rfl TryzT.ag31 rfl rfl (by exact Blk.segAt (H.l 0 rfl) (Seg.all _) (by rfl)) (by (rw [TryzT.sz31]; refine congrArg some ?_; (simp only [kc_length, kw_length, List.length_replicate, List.length_append, List.length_cons, List.length_nil, cutI_length, shaOf_length, dig_length, valD_length, rootM_length]; omega))) ?_
  refine WL.call TryzT.fb61 rfl (Locate_c (T := T) (k := k) (bits := bits) H.yylt (by exact H.rob 0 rfl) (by assumption) (by assumption)) ?_
  rintro _ w2 ⟨rfl, hO⟩
  replace H := H.out hO
  refine WL.mv rfl rfl ?_
  refine WL.pv (PV.extract rfl rfl rfl) rfl ?_
  refine WL.pv (PV.extract rfl rfl rfl) rfl ?_
  refine WL.as rfl rfl ?_
  refine WL.as rfl rfl ?_
  refine WL.nil ?_
  refine WE.seq ?_
  refine WE.seq_draw (.take 0 (.pick1 1 (.take 2 (.take 3 (.take 4 (.take 7 (.pick1 5 (.take 6 (.take 8 (.take 9 .done)))))))))) TryzT.mixed (by kernel_rfl) ?_
  replace H := H.out (Out.drew _)
  refine WP.mv rfl rfl rfl ?_
  refine WP.pick1 rfl ?_
  refine WL.call TryzT.fb56 rfl (NKind_c (T := T.fin k) (bits := bits) H.yylt (by exact (H.rob 0 rfl).imp fun _ h => h.fin) ) ?_
  rintro _ w3 ⟨rfl, hO⟩
  replace H := H.out hO
  refine WL.nil ⟨(fun _ h => by cases h), ?_⟩
  refine WP.take_pure rfl rfl (PV.neq rfl rfl rfl) ?_
  refine WP.mv rfl rfl rfl ?_
  refine WP.known (t := 17) (c := false) rfl (by simp [hkd]) ?_
  refine WP.mv rfl rfl rfl ?_
  refine WP.readA rfl rfl rfl TryzT.ag31 rfl (by exact Blk.segAt (H.l 0 rfl) (Seg.all _) (by rfl)) (by (rw [TryzT.sz31]; refine congrArg some ?_; (simp only [kc_length, kw_length, List.length_replicate, List.length_append, List.length_cons, List.length_nil, cutI_length, shaOf_length, dig_length, valD_length, rootM_length]; omega))) ?_
  refine WP.pick1 rfl ?_
  refine WL.call TryzT.fb62 rfl (Leaf2_c (T := T.fin k) (bits := bits) H.yylt (by exact (H.rob 0 rfl).imp fun _ h => h.fin) ) ?_
  rintro _ w4 ⟨rfl, hO⟩
  replace H := H.out hO
  refine WL.nil ⟨(List.forall_mem_cons.2 ⟨(fun _ _ => (by exact Blk.segAt (H.l 0 rfl) (Seg.all _) (by rfl))), (fun _ h => by cases h)⟩), ?_⟩
  refine WP.take_pure rfl rfl (PV.fieldV rfl TryzT.fd93_0 rfl (PartAt.agg TryzT.ag31 (by (rw [TryzT.sz31]; refine congrArg some ?_; (simp only [kc_length, kw_length, List.length_replicate, List.length_append, List.length_cons, List.length_nil, cutI_length, shaOf_length, dig_length, valD_length, rootM_length]; omega))) (Seg.l (Seg.all _)))) ?_
  refine WP.take_pure rfl rfl (PV.neqB rfl TryzT.ar31 TryzT.in5 TryzT.sz5 (by kernel_rfl) rfl rfl (by assumption) (by assumption)) ?_
  refine WP.take_pure rfl rfl (PV.pick_f rfl rfl rfl) ?_
  refine WP.done ?_
  refine WE.cond_t' rfl (by simp [hkey]) ?_
  refine WE.seq_reg ?_
  refine WL.as rfl rfl ?_
  refine WL.as rfl rfl ?_
  refine WL.nil ?_
  refine WE.ret ?_
  refine ⟨[_, _], _, .nil _, ⟨rfl, rfl, trivial⟩, ?_⟩
  exact ⟨rfl, H.toOut0⟩

theorem GetC_c {X : Nat → Prop} {w : World} {bits : Int} {T : Tr} {k : List UInt8} (hX : ∀ b, X b → b < w.heap.size) (hf0 : Rob X (TrA bits T) w) (hk : k.length = 32) (hfit : T.er.fit 0) (hkd : (T.fin k).er.kind = 1) (hkey : (T.fin k).key = k) :
    Ret Tryz.prog 35 [T.ptr, .agg (kc k).toArray].toArray w fun v w' => ∃ s, v = .tuple [s, .bool true].toArray ∧ Out Nil w w' ∧ w'.ownsRow w.heap.size 5 1 s (T.fin k).val.length (kc (T.fin k).val) := by
  refine Ret.of_body (N := 27) Tryz.func35 rfl rfl (by simp) ?_
  have H := St.begin hX
  replace H := H.add (rob0 hf0)
  have hkl : (T.fin k).key.length = 32 := TrA.key_length (TrA.fin (hf0.here))
  have hvl := TrA.vlen (TrA.fin (k := k) (hf0.here))
  refine WE.seq_reg ?_
  refine WL.box (l := kc k) H rfl (by rfl) rfl ?_
  intro b3 w1 H
  refine WL.as rfl rfl ?_
  refine WL.as rfl rfl ?_
  refine WL.nil ?_
  refine WE.seq_reg ?_
  refine WL.mv rfl rfl ?_
  refine WL.loadR rfl TryzT.ag31 rfl rfl (by exact Blk.segAt (H.l 0 rfl) (Seg.all _) (by rfl)) (by (rw [TryzT.sz31]; refine congrArg some ?_; (simp only [kc_length, kw_length, List.length_replicate, List.length_append, List.length_cons, List.length_nil, cutI_length, shaOf_length, dig_length, valD_length, rootM_length]; omega))) ?_
  refine WL.call TryzT.fb61 rfl (Locate_c (T := T) (k := k) (bits := bits) H.yylt (by exact H.rob 0 rfl) (by assumption) (by assumption)) ?_
  rintro _ w2 ⟨rfl, hO⟩
  replace H := H.out hO
  refine WL.mv rfl rfl ?_
  refine WL.pv (PV.extract rfl rfl rfl) rfl ?_
  refine WL.pv (PV.extract rfl rfl rfl) rfl ?_
  refine WL.as rfl rfl ?_
  refine WL.as rfl rfl ?_
  refine WL.nil ?_
  refine WE.seq ?_
  refine WE.seq_draw (.take 0 (.pick1 1 (.take 2 (.take 3 (.take 4 (.take 7 (.pick1 5 (.take 6 (.take 8 (.take 9 .done)))))))))) TryzT.mixed (by kernel_rfl) ?_
  replace H := H.out (Out.drew _)
  refine WP.mv rfl rfl rfl ?_
  refine WP.pick1 rfl ?_
  refine WL.call TryzT.fb56 rfl (NKind_c (T := T.fin k) (bits := bits) H.yylt (by exact (H.rob 0 rfl).imp fun _ h => h.fin) ) ?_
  rintro _ w3 ⟨rfl, hO⟩
  replace H := H.out hO
  refine WL.nil ⟨(fun _ h => by cases h), ?_⟩
  refine WP.take_pure rfl rfl (PV.neq rfl rfl rfl) ?_
  refine WP.mv rfl rfl rfl ?_
  refine WP.known (t := 17) (c := false) rfl (by simp [hkd]) ?_
  refine WP.mv rfl rfl rfl ?_
  refine WP.readA rfl rfl rfl TryzT.ag31 rfl (by exact Blk.segAt (H.l 0 rfl) (Seg.all _) (by rfl)) (by (rw [TryzT.sz31]; refine congrArg some ?_; (simp only [kc_length, kw_length, List.length_replicate, List.length_append, List.length_cons, List.length_nil, cutI_length, shaOf_length, dig_length, valD_length, rootM_length]; omega))) ?_
  refine WP.pick1 rfl ?_
  refine WL.call TryzT.fb62 rfl (Leaf2_c (T := T.fin k) (bits := bits) H.yylt (by exact (H.rob 0 rfl).imp fun _ h => h.fin) ) ?_
  rintro _ w4 ⟨rfl, hO⟩
  replace H := H.out hO
  refine WL.nil ⟨(List.forall_mem_cons.2 ⟨(fun _ _ => (by exact Blk.segAt (H.l 0 rfl) (Seg.all _) (by rfl))), (fun _ h => by cases h)⟩), ?_⟩
  refine WP.take_pure rfl rfl (PV.fieldV rfl TryzT.fd93_0 rfl (PartAt.agg TryzT.ag31 (by (rw [TryzT.sz31]; refine congrArg some ?_; (simp only [kc_length, kw_length, List.length_replicate, List.length_append, List.length_cons, List.length_nil, cutI_length, shaOf_length, dig_length, valD_length, rootM_length]; omega))) (Seg.l (Seg.all _)))) ?_
  refine WP.take_pure rfl rfl (PV.neqB rfl TryzT.ar31 TryzT.in5 TryzT.sz5 (by kernel_rfl) rfl rfl (by assumption) (by assumption)) ?_
  refine WP.take_pure rfl rfl (PV.pick_f rfl rfl rfl) ?_
  refine WP.done ?_
  refine WE.cond_f' rfl (by simp [hkey]) ?_
  refine WE.skip ?_
  refine WE.seq_reg ?_
  refine WL.mv rfl rfl ?_
  refine WL.call TryzT.fb63 rfl (Entry_c (T := T.fin k) (bits := bits) H.yylt (by exact (H.rob 0 rfl).imp fun _ h => h.fin)) ?_
  rintro _ w5 ⟨s4, rfl, hO, hOwn⟩
  replace H := H.push hO (Ent.osl w.heap.size s4 5 1 _ _) (ownsRow_base hOwn H.size) (fun b hb => (hOwn.lt b hb).1)
  refine WL.pv (PV.fieldV rfl TryzT.fd34_1 rfl (PartAt.one TryzT.ag32 (Seg.r (Seg.all _) (by (simp only [kc_length, kw_length, List.length_replicate, List.length_append, List.length_cons, List.length_nil, cutI_length, shaOf_length, dig_length, valD_length, rootM_length]; omega))))) rfl ?_
  refine WL.as rfl rfl ?_
  refine WL.as rfl rfl ?_
  refine WL.nil ?_
  refine WE.ret ?_
  refine ⟨[_, _], _, .nil _, ⟨rfl, rfl, trivial⟩, ?_⟩
  exact ⟨s4, rfl, H.toOut0, H.l 0 rfl⟩

theorem GetNo_c {X : Nat → Prop} {w : World} {bits : Int} {T : Tr} {k : List UInt8} (hX : ∀ b, X b → b < w.heap.size) (hf0 : Rob X (TrA bits T) w) (hk : k.length = 32) (hfit : T.er.fit 0) (hg : T.getV k = none) :
    Ret Tryz.prog 35 [T.ptr, .agg (kc k).toArray].toArray w fun v w' => v = .tuple [.slice none 0 0, .bool false].toArray ∧ Out Nil w w' := by
  by_cases h1 : (T.fin k).er.kind = 1
  · refine GetB_c hX hf0 hk hfit h1 fun h2 => ?_
    obtain ⟨a, q, v, s, e⟩ := Tr.kind1 h1
    unfold Tr.getV at hg
    rw [e] at hg h2
    exact absurd hg (by simp [show q = k from h2])
  · exact GetA_c hX hf0 hk hfit h1
theorem GetYes_c {X : Nat → Prop} {w : World} {bits : Int} {T : Tr} {k v0 : List UInt8} (hX : ∀ b, X b → b < w.heap.size) (hf0 : Rob X (TrA bits T) w) (hk : k.length = 32) (hfit : T.er.fit 0) (hg : T.getV k = some v0) :
    Ret Tryz.prog 35 [T.ptr, .agg (kc k).toArray].toArray w fun v w' => ∃ s, v = .tuple [s, .bool true].toArray ∧ Out Nil w w' ∧ w'.ownsRow w.heap.size 5 1 s v0.length (kc v0) := by
  have h : (T.fin k).er.kind = 1 ∧ (T.fin k).key = k ∧ (T.fin k).val = v0 := by
    unfold Tr.getV at hg
    cases e : T.fin k with
    | nil => rw [e] at hg; cases hg
    | inner => rw [e] at hg; cases hg
    | leaf a q v s =>
      rw [e] at hg
      dsimp only at hg
      split at hg
      · injection hg with hg; exact ⟨rfl, by assumption, hg⟩
      · cases hg
  have := GetC_c hX hf0 hk hfit h.1 h.2.1
  rw [h.2.2] at this
  exact this
theorem getV_map {T : Tr} {m : List En} {k : List UInt8} (hT : T.er = grow 0 m) (hp : Pm 0 m) : T.getV k = (getM m k).map (·.v) := by
  have h := at_er (k := k) hT hp _ (Nat.le_refl _)
  have hl := at_end (k := k) hT hp
  rw [← getM_at (k := k) (d := 0) (T.dp k 0)]
  have hf : (T.fin k).er = _ := h.1
  unfold Tr.getV
  match hm : atM k 0 m (T.dp k 0), hl with
  | [], _ =>
    rw [hm, grow_nil] at hf
    rw [Tr.nil_er hf]
    rfl
  | [e], _ =>
    rw [hm, grow_one] at hf
    obtain ⟨a, s, e2⟩ := Tr.leaf_of hf
    rw [e2]
    by_cases hk : e.k = k
    · simp [getM, hk]
    · simp [getM, hk]
  | _ :: _ :: _, h => simp at h

end Go.Sp.Tryz

set_option maxRecDepth 100000
set_option maxHeartbeats 1000000
set_option linter.unusedVariables false
set_option linter.unusedSimpArgs false
namespace Go.Sp.Tryz
open Go.Proofs Go.RowKit Go.Sp

theorem getM_here {m : List En} {k : List UInt8} {i : Nat} (hi : i < m.length) (h : ∀ x ∈ m.take i, x.k ≠ k) (he : m[i].k = k) : getM m k = some m[i] := by
  unfold getM
  rw [List.find?_eq_some_iff_append]
  refine ⟨by simp [he], m.take i, m.drop (i + 1), ?_, fun x hx => by simpa using h x hx⟩
  rw [← List.drop_eq_getElem_cons hi, List.take_append_drop]
theorem getM_none {m : List En} {k : List UInt8} (h : ∀ x ∈ m, x.k ≠ k) : getM m k = none := by
  unfold getM
  rw [List.find?_eq_none]
  intro x hx
  simpa using h x hx
def getR (m : List En) (k : List UInt8) : Value := match getM m k with
  | none => .tuple [.slice none 0 0, .bool false].toArray
  | some e => .tuple [e.s, .bool true].toArray
theorem OneS.at {m : List En} {k : List UInt8} {d i : Nat} (h : OneS m) : OneS (atM k d m i) := fun e he => h e (atM_mem he)
theorem KL.at {m : List En} {k : List UInt8} {d i : Nat} (h : KL m) : KL (atM k d m i) := fun e he => h e (atM_mem he)
def SameE (a b : List En) : Prop := a.length = b.length ∧ ∀ i (h : i < a.length) (h' : i < b.length), a[i].k = b[i].k ∧ a[i].v = b[i].v

theorem refGet_c {X : Nat → Prop} {w : World} {s : Value} {m : List En} {k : List UInt8} (hX : ∀ b, X b → b < w.heap.size) (hf0 : Rob X (SlE s m) w) (hkl : KL m) (hlen : m.length ≤ 1000000) (hk : k.length = 32) :
    Ret Tryz.prog 47 [s, .agg (kc k).toArray].toArray w fun v w' => v = getR m k ∧ Out Nil w w' := by
  refine Ret.of_body (N := 25) Tryz.func47 rfl rfl (by simp) ?_
  have H := St.begin hX
  replace H := H.add (rob0 hf0)
  refine WE.seq_reg ?_
  refine WL.box (l := kc k) H rfl (by rfl) rfl ?_
  intro b3 w1 H
  refine WL.as rfl rfl ?_
  refine WL.as rfl rfl ?_
  refine WL.nil ?_
  refine WE.seq ?_
  refine WE.seq_reg ?_
  refine WL.as rfl rfl ?_
  refine WL.nil ?_
  refine WE.block ?_
  refine WE.loop (α := Nat) [4, 5, 6, 7, 8, 9, 10, 11, 12, 13, 14, 15, 16, 17, 18, 19, 20, 21, 22, 23, 24] (fun i => [(6, .int .i64 i)]) (fun i wl => i ≤ m.length ∧ (∀ x ∈ m.take i, x.k ≠ k) ∧ St X w wl [] [Ent.blk b3 31 (kc k)] [SlE s m]) (fun i => m.length - i) 0 ⟨rfl, trivial⟩ ⟨Nat.zero_le _, by simp, H⟩ ?_
  intro i γ0 w2 hI
  try dsimp only at hI
  obtain ⟨hi, hall, H⟩ := hI
  refine WE.seq ?_
  refine WE.seq_reg ?_
  refine WL.mv rfl rfl ?_
  refine WL.mv rfl rfl ?_
  refine WL.pv (PV.lenS (by exact H.p 0 rfl : SlE s m _) TryzT.sl22 rfl) rfl ?_
  refine WL.pv (PV.lss rfl rfl rfl) rfl ?_
  refine WL.nil ?_
  refine WE.cond rfl (fun hc10 => ?_) (fun hc10 => ?_)
  · skip
    try simp only [decide_eq_true_eq, decide_eq_false_iff_not, ne_eq, Decidable.not_not, Bool.not_eq_true', Bool.not_eq_false', Bool.and_eq_true, Bool.or_eq_true, Bool.not_not, Bool.and_eq_false_iff, Bool.or_eq_false_iff, Int.not_lt, Int.not_le] at hc10
    have hlt : i < m.length := by omega
    have hkk := hkl _ (List.getElem_mem hlt)
    refine WE.skip ?_
    refine WE.seq ?_
    refine WE.block ?_
    refine WE.seq_draw (.take 0 (.take 1 (.take 2 (.take 3 (.take 4 (.take 5 (.take 6 .done))))))) TryzT.mixed (by kernel_rfl) ?_
    replace H := H.out (Out.drew _)
    refine WP.mv rfl rfl rfl ?_
    refine WP.mv rfl rfl rfl ?_
    refine WP.take_pure rfl rfl (PV.idxS rfl (by exact H.p 0 rfl : SlE s m _) TryzT.sl22 TryzT.sz34 rfl rfl (by omega) (by omega)) ?_
    refine WP.take_pure rfl rfl (PV.fieldAddrA rfl TryzT.fd34_0 rfl) ?_
    refine WP.readA rfl rfl rfl TryzT.ag31 rfl (SlE.rdk (H.p 0 rfl) hkl i hlt) (by (rw [TryzT.sz31]; refine congrArg some ?_; (simp only [kc_length, kw_length, List.length_replicate, List.length_append, List.length_cons, List.length_nil, cutI_length, shaOf_length, dig_length, valD_length, rootM_length]; omega))) ?_
    refine WP.readA rfl rfl rfl TryzT.ag31 rfl (by exact Blk.segAt (H.l 0 rfl) (Seg.all _) (by rfl)) (by (rw [TryzT.sz31]; refine congrArg some ?_; (simp only [kc_length, kw_length, List.length_replicate, List.length_append, List.length_cons, List.length_nil, cutI_length, shaOf_length, dig_length, valD_length, rootM_length]; omega))) ?_
    refine WP.take_pure rfl rfl (PV.eqlB rfl TryzT.ar31 TryzT.in5 TryzT.sz5 (by kernel_rfl) rfl rfl (by assumption) (by assumption)) ?_
    refine WP.done ?_
    refine WE.cond rfl (fun hc19 => ?_) (fun hc19 => ?_)
    · skip
      try simp only [decide_eq_true_eq, decide_eq_false_iff_not, ne_eq, Decidable.not_not, Bool.not_eq_true', Bool.not_eq_false', Bool.and_eq_true, Bool.or_eq_true, Bool.not_not, Bool.and_eq_false_iff, Bool.or_eq_false_iff, Int.not_lt, Int.not_le] at hc19
      have he : m[i].k = k := by exact hc19
      refine WE.seq_reg ?_
      refine WL.mv rfl rfl ?_
      refine WL.mv rfl rfl ?_
      refine WL.pv (PV.idxS rfl (by exact H.p 0 rfl : SlE s m _) TryzT.sl22 TryzT.sz34 rfl rfl (by omega) (by omega)) rfl ?_
      refine WL.pv (PV.fieldAddrA rfl TryzT.fd34_1 rfl) rfl ?_
      refine WL.load1 rfl TryzT.ag32 rfl rfl (SlE.rdv (H.p 0 rfl) hkl i hlt) ?_
      refine WL.as rfl rfl ?_
      refine WL.as rfl rfl ?_
      refine WL.nil ?_
      refine WE.ret ?_
      refine ⟨[_, _], _, .nil _, ⟨rfl, rfl, trivial⟩, ?_⟩
      refine ⟨?_, H.toOut0⟩
      rw [getR, getM_here hlt hall he]; rfl
    · skip
      try simp only [decide_eq_true_eq, decide_eq_false_iff_not, ne_eq, Decidable.not_not, Bool.not_eq_true', Bool.not_eq_false', Bool.and_eq_true, Bool.or_eq_true, Bool.not_not, Bool.and_eq_false_iff, Bool.or_eq_false_iff, Int.not_lt, Int.not_le] at hc19
      have he : m[i].k ≠ k := by exact hc19
      refine WE.skip ?_
      refine WE.reg ?_
      refine WL.mv rfl rfl ?_
      refine WL.pv (PV.add64 rfl rfl rfl (by omega) (by omega)) rfl ?_
      refine WL.as rfl rfl ?_
      refine WL.nil ?_
      exact ⟨i + 1, (by repeat (first | with_reducible exact Off.refl _ _ | refine Off.upd rfl ?_ | refine Off.setAll rfl ?_ | refine Off.forget' rfl ?_)), ⟨rfl, trivial⟩, rfl, ⟨by omega, (by rw [List.take_succ_eq_append_getElem hlt]; intro x hx; rcases List.mem_append.1 hx with h | h; exact hall x h; simp at h; subst h; exact he), H⟩, (by omega)⟩
  · skip
    try simp only [decide_eq_true_eq, decide_eq_false_iff_not, ne_eq, Decidable.not_not, Bool.not_eq_true', Bool.not_eq_false', Bool.and_eq_true, Bool.or_eq_true, Bool.not_not, Bool.and_eq_false_iff, Bool.or_eq_false_iff, Int.not_lt, Int.not_le] at hc10
    have hke : m.take i = m := List.take_of_length_le (by omega)
    refine WE.exit ?_
    refine WE.seq_reg ?_
    refine WL.as rfl rfl ?_
    refine WL.as rfl rfl ?_
    refine WL.nil ?_
    refine WE.ret ?_
    refine ⟨[_, _], _, .nil _, ⟨rfl, rfl, trivial⟩, ?_⟩
    refine ⟨?_, H.toOut0⟩
    rw [hke] at hall
    rw [getR, getM_none hall]; rfl

end Go.Sp.Tryz

