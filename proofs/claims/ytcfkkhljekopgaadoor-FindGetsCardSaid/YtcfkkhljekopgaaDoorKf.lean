/- Walks of functions, printed by a program of this session (gen.py) from notes on each function. -/
import Derived.Test.YtcfkkhljekopgaaDoorKe
set_option maxRecDepth 100000
set_option maxHeartbeats 1000000
set_option linter.unusedVariables false
set_option linter.unusedSimpArgs false
namespace Go.Sp.Tryd
open Go.Proofs Go.RowKit Go.Sp

def len8 (n : Nat) : Nat := if n = 0 then 0 else Nat.log2 n + 1
theorem len8_tab : ∀ x : Fin 256, (⟨#[0, 1, 2, 2, 3, 3, 3, 3, 4, 4, 4, 4, 4, 4, 4, 4, 5, 5, 5, 5, 5, 5, 5, 5, 5, 5, 5, 5, 5, 5, 5, 5, 6, 6, 6, 6, 6, 6, 6, 6, 6, 6, 6, 6, 6, 6, 6, 6, 6, 6, 6, 6, 6, 6, 6, 6, 6, 6, 6, 6, 6, 6, 6, 6, 7, 7, 7, 7, 7, 7, 7, 7, 7, 7, 7, 7, 7, 7, 7, 7, 7, 7, 7, 7, 7, 7, 7, 7, 7, 7, 7, 7, 7, 7, 7, 7, 7, 7, 7, 7, 7, 7, 7, 7, 7, 7, 7, 7, 7, 7, 7, 7, 7, 7, 7, 7, 7, 7, 7, 7, 7, 7, 7, 7, 7, 7, 7, 7, 8, 8, 8, 8, 8, 8, 8, 8, 8, 8, 8, 8, 8, 8, 8, 8, 8, 8, 8, 8, 8, 8, 8, 8, 8, 8, 8, 8, 8, 8, 8, 8, 8, 8, 8, 8, 8, 8, 8, 8, 8, 8, 8, 8, 8, 8, 8, 8, 8, 8, 8, 8, 8, 8, 8, 8, 8, 8, 8, 8, 8, 8, 8, 8, 8, 8, 8, 8, 8, 8, 8, 8, 8, 8, 8, 8, 8, 8, 8, 8, 8, 8, 8, 8, 8, 8, 8, 8, 8, 8, 8, 8, 8, 8, 8, 8, 8, 8, 8, 8, 8, 8, 8, 8, 8, 8, 8, 8, 8, 8, 8, 8, 8, 8, 8, 8, 8, 8, 8, 8, 8, 8, 8, 8, 8, 8, 8, 8]⟩ : ByteArray)[x.val]? = some (UInt8.ofNat (len8 x.val)) := by decide +kernel
theorem len8_get (x : UInt8) : (⟨#[0, 1, 2, 2, 3, 3, 3, 3, 4, 4, 4, 4, 4, 4, 4, 4, 5, 5, 5, 5, 5, 5, 5, 5, 5, 5, 5, 5, 5, 5, 5, 5, 6, 6, 6, 6, 6, 6, 6, 6, 6, 6, 6, 6, 6, 6, 6, 6, 6, 6, 6, 6, 6, 6, 6, 6, 6, 6, 6, 6, 6, 6, 6, 6, 7, 7, 7, 7, 7, 7, 7, 7, 7, 7, 7, 7, 7, 7, 7, 7, 7, 7, 7, 7, 7, 7, 7, 7, 7, 7, 7, 7, 7, 7, 7, 7, 7, 7, 7, 7, 7, 7, 7, 7, 7, 7, 7, 7, 7, 7, 7, 7, 7, 7, 7, 7, 7, 7, 7, 7, 7, 7, 7, 7, 7, 7, 7, 7, 8, 8, 8, 8, 8, 8, 8, 8, 8, 8, 8, 8, 8, 8, 8, 8, 8, 8, 8, 8, 8, 8, 8, 8, 8, 8, 8, 8, 8, 8, 8, 8, 8, 8, 8, 8, 8, 8, 8, 8, 8, 8, 8, 8, 8, 8, 8, 8, 8, 8, 8, 8, 8, 8, 8, 8, 8, 8, 8, 8, 8, 8, 8, 8, 8, 8, 8, 8, 8, 8, 8, 8, 8, 8, 8, 8, 8, 8, 8, 8, 8, 8, 8, 8, 8, 8, 8, 8, 8, 8, 8, 8, 8, 8, 8, 8, 8, 8, 8, 8, 8, 8, 8, 8, 8, 8, 8, 8, 8, 8, 8, 8, 8, 8, 8, 8, 8, 8, 8, 8, 8, 8, 8, 8, 8, 8, 8, 8]⟩ : ByteArray)[x.toNat]? = some (UInt8.ofNat (len8 x.toNat)) := len8_tab ⟨x.toNat, x.toNat_lt⟩
theorem len8_spec : ∀ x : Fin 256, len8 x.val ≤ 8 ∧ (x.val ≠ 0 → 1 ≤ len8 x.val ∧ x.val.testBit (len8 x.val - 1) = true ∧ ∀ j : Fin 8, len8 x.val ≤ j.val → x.val.testBit j.val = false) := by decide +kernel
theorem len8_le (x : UInt8) : len8 x.toNat ≤ 8 := (len8_spec ⟨x.toNat, x.toNat_lt⟩).1
theorem bitN_test (k : List UInt8) (i : Nat) : bitN k i = ((k.getD (i / 8) 0).toNat.testBit (7 - i % 8)).toNat := by
  unfold bitN
  rw [Nat.toNat_testBit]
theorem com_byte {a b : List UInt8} (ha : a.length = 32) (hb : b.length = 32) {i : Nat} (hi : i < 32) (he : ∀ j (h : j < i), a.getD j 0 = b.getD j 0) (hx : (a.getD i 0 ^^^ b.getD i 0).toNat ≠ 0) :
    IsCom a b (8 * i + (8 - len8 (a.getD i 0 ^^^ b.getD i 0).toNat)) := by
  have h1 := (len8_spec ⟨(a.getD i 0 ^^^ b.getD i 0).toNat, UInt8.toNat_lt _⟩)
  have h2 := h1.2 hx
  dsimp only at h1 h2
  generalize hL : len8 (a.getD i 0 ^^^ b.getD i 0).toNat = L at *
  refine ⟨by omega, fun j hj => ?_, fun _ => ?_⟩
  · rw [bitN_test, bitN_test]
    rcases Nat.lt_or_ge j (8 * i) with h | h
    · rw [he (j / 8) (by omega)]
    · have e : j / 8 = i := by omega
      have h3 := h2.2.2 ⟨7 - j % 8, by omega⟩ (by dsimp only; omega)
      rw [UInt8.toNat_xor, Nat.testBit_xor] at h3
      rw [e]
      congr 1
      dsimp only at h3
      revert h3
      cases (a.getD i 0).toNat.testBit (7 - j % 8) <;> cases (b.getD i 0).toNat.testBit (7 - j % 8) <;> simp
  · rw [bitN_test, bitN_test, show (8 * i + (8 - L)) / 8 = i by omega, show 7 - (8 * i + (8 - L)) % 8 = L - 1 by omega]
    have h3 := h2.2.1
    rw [UInt8.toNat_xor, Nat.testBit_xor] at h3
    revert h3
    cases (a.getD i 0).toNat.testBit (L - 1) <;> cases (b.getD i 0).toNat.testBit (L - 1) <;> simp
theorem xor8 (a b : UInt8) : IntKind.u8.wrap ((BitVec.ofInt IntKind.u8.bits (a.toNat : Int) ^^^ BitVec.ofInt IntKind.u8.bits (b.toNat : Int)).toNat : Int) = ((a ^^^ b).toNat : Int) := by
  rw [wrap8]
  have e : (BitVec.ofInt IntKind.u8.bits (a.toNat : Int) ^^^ BitVec.ofInt IntKind.u8.bits (b.toNat : Int)).toNat = (a ^^^ b).toNat := by
    show (BitVec.ofInt 8 (a.toNat : Int) ^^^ BitVec.ofInt 8 (b.toNat : Int)).toNat = _
    rw [BitVec.ofInt_natCast, BitVec.ofInt_natCast, BitVec.toNat_xor, UInt8.toNat_xor]
    have h1 := a.toNat_lt
    have h2 := b.toNat_lt
    simp
  rw [e]
  have := (a ^^^ b).toNat_lt
  omega
theorem bytes_eq {a b : List UInt8} (ha : a.length = 32) (hb : b.length = 32) (he : ∀ j, j < 32 → a.getD j 0 = b.getD j 0) : a = b := by
  apply List.ext_getElem (by omega)
  intro i h1 h2
  have := he i (by omega)
  rwa [getD_at h1, getD_at h2] at this

theorem Len8_c {X : Nat → Prop} {w : World} {x : UInt8} (hX : ∀ b, X b → b < w.heap.size) :
    Ret Tryd.prog 104 [.int .u8 (x.toNat : Int)].toArray w fun v w' => v = .int .i64 (len8 x.toNat : Int) ∧ Out Nil w w' := by
  refine Ret.of_body (N := 6) Tryd.func104 rfl rfl (by simp) ?_
  have H := St.begin hX
  have hle := len8_le x
  refine WE.seq_reg ?_
  refine WL.as rfl rfl ?_
  refine WL.nil ?_
  refine WE.seq_reg ?_
  refine WL.mv rfl rfl ?_
  refine WL.pv (PV.indexStr (i := x.toNat) rfl (by kernel_rfl) rfl rfl (len8_get x)) rfl ?_
  refine WL.pv (PV.eq (v' := .int .i64 ((len8 x.toNat : Nat) : Int)) (PV.conv64 rfl TrydT.in5 TrydT.in3 rfl (by omega) (by have := (UInt8.ofNat (len8 x.toNat)).toNat_lt; omega)) (by congr 1; rw [UInt8.toNat_ofNat_of_lt' (by show _ < 256; omega)])) rfl ?_
  refine WL.as rfl rfl ?_
  refine WL.nil ?_
  refine WE.ret ?_
  refine ⟨[_], _, .nil _, ⟨rfl, trivial⟩, ?_⟩
  exact ⟨rfl, H.toOut0⟩

theorem LZ8_c {X : Nat → Prop} {w : World} {x : UInt8} (hX : ∀ b, X b → b < w.heap.size) :
    Ret Tryd.prog 94 [.int .u8 (x.toNat : Int)].toArray w fun v w' => v = .int .i64 ((8 - len8 x.toNat : Nat) : Int) ∧ Out Nil w w' := by
  refine Ret.of_body (N := 6) Tryd.func94 rfl rfl (by simp) ?_
  have H := St.begin hX
  have hle := len8_le x
  refine WE.seq_reg ?_
  refine WL.as rfl rfl ?_
  refine WL.nil ?_
  refine WE.seq_reg ?_
  refine WL.mv rfl rfl ?_
  refine WL.call TrydT.fb104 rfl (Len8_c (x := x) H.yylt  ) ?_
  rintro _ w1 ⟨rfl, hO⟩
  replace H := H.out hO
  refine WL.pv (PV.sub64 rfl rfl rfl (by omega) (by omega)) rfl ?_
  refine WL.as rfl rfl ?_
  refine WL.nil ?_
  refine WE.ret ?_
  refine ⟨[_], _, .nil _, ⟨rfl, trivial⟩, ?_⟩
  refine ⟨?_, H.toOut0⟩
  show Value.int .i64 _ = Value.int .i64 _
  congr 1; omega

theorem refCommon_c {X : Nat → Prop} {w : World} {a b : List UInt8} (hX : ∀ b, X b → b < w.heap.size) (ha : a.length = 32) (hb : b.length = 32) :
    Ret Tryd.prog 80 [.agg (kc a).toArray, .agg (kc b).toArray].toArray w fun v w' => v = .int .i64 (comN a b : Int) ∧ Out Nil w w' := by
  refine Ret.of_body (N := 20) Tryd.func80 rfl rfl (by simp) ?_
  have H := St.begin hX
  refine WE.seq_reg ?_
  refine WL.box (l := kc a) H rfl (by rfl) rfl ?_
  intro b2 w1 H
  refine WL.box (l := kc b) H rfl (by rfl) rfl ?_
  intro b3 w2 H
  refine WL.as rfl rfl ?_
  refine WL.nil ?_
  refine WE.seq_reg ?_
  refine WL.as rfl rfl ?_
  refine WL.nil ?_
  refine WE.seq ?_
  refine WE.block ?_
  refine WE.loop (α := Nat) [5, 6, 7, 8, 9, 10, 11, 12, 13, 14, 15, 16, 17, 18] (fun n => [(5, .int .i64 n)]) (fun n wl => n ≤ 256 ∧ (∀ j, j < n → bitN a j = bitN b j) ∧ St X w wl [] [Ent.blk b3 36 (kc b), Ent.blk b2 36 (kc a)] []) (fun n => 256 - n) 0 ⟨rfl, trivial⟩ ⟨Nat.zero_le _, fun _ h => by omega, H⟩ ?_
  intro n γ0 w3 hI
  try dsimp only at hI
  obtain ⟨hle, hall, H⟩ := hI
  refine WE.seq ?_
  refine WE.seq_draw (.take 0 (.take 1 (.take 2 (.take 3 (.take 4 (.take 6 (.take 7 (.pick1 5 (.pick1 8 (.take 9 (.take 10 .done))))))))))) TrydT.mixed (by kernel_rfl) ?_
  replace H := H.out (Out.drew _)
  refine WP.mv rfl rfl rfl ?_
  refine WP.take_pure rfl rfl (PV.lss rfl rfl rfl) ?_
  refine WP.mv rfl rfl rfl ?_
  refine WP.split (t := 8) rfl (fun hg8 => ?_) (fun hg8 => ?_)
  · skip
    refine WP.known (t := 7) (c := true) rfl hg8 ?_
    try simp only [decide_eq_true_eq, decide_eq_false_iff_not, ne_eq, Decidable.not_not, Bool.not_eq_true', Bool.not_eq_false', Bool.and_eq_true, Bool.or_eq_true, Bool.not_not, Bool.and_eq_false_iff, Bool.or_eq_false_iff, Int.not_lt, Int.not_le] at hg8
    have hn : n < 256 := by omega
    refine WP.readA rfl rfl rfl TrydT.ag36 rfl (by exact Blk.segAt (H.l 1 rfl) (Seg.all _) (by rfl)) (by (rw [TrydT.sz36]; refine congrArg some ?_; (simp only [kc_length, kw_length, List.length_replicate, List.length_append, List.length_cons, List.length_nil, cutI_length, shaOf_length, dig_length, valD_length, rootM_length]; omega))) ?_
    refine WP.mv rfl rfl rfl ?_
    refine WP.readA rfl rfl rfl TrydT.ag36 rfl (by exact Blk.segAt (H.l 0 rfl) (Seg.all _) (by rfl)) (by (rw [TrydT.sz36]; refine congrArg some ?_; (simp only [kc_length, kw_length, List.length_replicate, List.length_append, List.length_cons, List.length_nil, cutI_length, shaOf_length, dig_length, valD_length, rootM_length]; omega))) ?_
    refine WP.mv rfl rfl rfl ?_
    refine WP.pick1 rfl ?_
    refine WL.call TrydT.fb54 rfl (refBitN_c (k := a) (d := n) H.yylt  (by assumption) (by assumption)) ?_
    rintro _ w4 ⟨rfl, hO⟩
    replace H := H.out hO
    refine WL.nil ⟨(List.forall_mem_cons.2 ⟨(fun _ _ => (by exact Blk.segAt (H.l 0 rfl) (Seg.all _) (by rfl))), (List.forall_mem_cons.2 ⟨(by exact (fun h => absurd (show waits _ 5 3 = false from h) (by decide +kernel))), (fun _ h => by cases h)⟩)⟩), ?_⟩
    refine WP.pick1 rfl ?_
    refine WL.call TrydT.fb54 rfl (refBitN_c (k := b) (d := n) H.yylt  (by assumption) (by assumption)) ?_
    rintro _ w5 ⟨rfl, hO⟩
    replace H := H.out hO
    refine WL.nil ⟨(List.forall_mem_cons.2 ⟨(by exact (fun h => absurd (show waits _ 8 6 = false from h) (by decide +kernel))), (List.forall_mem_cons.2 ⟨(by exact (fun h => absurd (show waits _ 8 3 = false from h) (by decide +kernel))), (fun _ h => by cases h)⟩)⟩), ?_⟩
    refine WP.take_pure rfl rfl (PV.eql rfl rfl rfl) ?_
    refine WP.take_pure rfl rfl (PV.pick_t rfl rfl rfl) ?_
    refine WP.done ?_
    refine WE.cond rfl (fun hc16 => ?_) (fun hc16 => ?_)
    · skip
      try simp only [decide_eq_true_eq, decide_eq_false_iff_not, ne_eq, Decidable.not_not, Bool.not_eq_true', Bool.not_eq_false', Bool.and_eq_true, Bool.or_eq_true, Bool.not_not, Bool.and_eq_false_iff, Bool.or_eq_false_iff, Int.not_lt, Int.not_le] at hc16
      have hbit : bitN a n = bitN b n := by omega
      refine WE.skip ?_
      refine WE.block ?_
      refine WE.reg ?_
      refine WL.mv rfl rfl ?_
      refine WL.pv (PV.add64 rfl rfl rfl (by omega) (by omega)) rfl ?_
      refine WL.as rfl rfl ?_
      refine WL.nil ?_
      exact ⟨n + 1, (by repeat (first | with_reducible exact Off.refl _ _ | refine Off.upd rfl ?_ | refine Off.setAll rfl ?_ | refine Off.forget' rfl ?_)), ⟨rfl, trivial⟩, rfl, ⟨by omega, fun j hj => by (by_cases e : j = n; (subst e; exact hbit); exact hall j (by omega)), H⟩, (by omega)⟩
    · skip
      try simp only [decide_eq_true_eq, decide_eq_false_iff_not, ne_eq, Decidable.not_not, Bool.not_eq_true', Bool.not_eq_false', Bool.and_eq_true, Bool.or_eq_true, Bool.not_not, Bool.and_eq_false_iff, Bool.or_eq_false_iff, Int.not_lt, Int.not_le] at hc16
      have hbit : bitN a n ≠ bitN b n := by omega
      refine WE.exit ?_
      refine WE.seq_reg ?_
      refine WL.mv rfl rfl ?_
      refine WL.as rfl rfl ?_
      refine WL.nil ?_
      refine WE.ret ?_
      refine ⟨[_], _, .nil _, ⟨rfl, trivial⟩, ?_⟩
      refine ⟨?_, H.toOut0⟩
      show Value.int .i64 _ = Value.int .i64 _
      rw [(comN_is a b).uniq ⟨hle, hall, fun _ => hbit⟩]
  · skip
    refine WP.known (t := 7) (c := false) rfl hg8 ?_
    try simp only [decide_eq_true_eq, decide_eq_false_iff_not, ne_eq, Decidable.not_not, Bool.not_eq_true', Bool.not_eq_false', Bool.and_eq_true, Bool.or_eq_true, Bool.not_not, Bool.and_eq_false_iff, Bool.or_eq_false_iff, Int.not_lt, Int.not_le] at hg8
    have hn2 : n = 256 := by omega
    refine WP.take_off rfl rfl ?_
    refine WP.take_off rfl rfl ?_
    refine WP.take_off rfl rfl ?_
    refine WP.take_off rfl rfl ?_
    refine WP.pick1 rfl ?_
    refine WL.off rfl ?_
    refine WL.nil ⟨(fun _ h => by cases h), ?_⟩
    refine WP.pick1 rfl ?_
    refine WL.off rfl ?_
    refine WL.nil ⟨(fun _ h => by cases h), ?_⟩
    refine WP.take_off rfl rfl ?_
    refine WP.take_pure rfl rfl (PV.pick_f rfl rfl rfl) ?_
    refine WP.done ?_
    refine WE.cond_f rfl ?_
    refine WE.exit ?_
    refine WE.seq_reg ?_
    refine WL.mv rfl rfl ?_
    refine WL.as rfl rfl ?_
    refine WL.nil ?_
    refine WE.ret ?_
    refine ⟨[_], _, .nil _, ⟨rfl, trivial⟩, ?_⟩
    refine ⟨?_, H.toOut0⟩
    show Value.int .i64 _ = Value.int .i64 _
    rw [(comN_is a b).uniq ⟨hle, hall, fun h => by omega⟩]

theorem Common_c {X : Nat → Prop} {w : World} {a b : List UInt8} (hX : ∀ b, X b → b < w.heap.size) (ha : a.length = 32) (hb : b.length = 32) :
    Ret Tryd.prog 81 [.agg (kc a).toArray, .agg (kc b).toArray].toArray w fun v w' => v = .int .i64 (comN a b : Int) ∧ Out Nil w w' := by
  refine Ret.of_body (N := 28) Tryd.func81 rfl rfl (by simp) ?_
  have H := St.begin hX
  refine WE.seq_reg ?_
  refine WL.box (l := kc a) H rfl (by rfl) rfl ?_
  intro b2 w1 H
  refine WL.box (l := kc b) H rfl (by rfl) rfl ?_
  intro b3 w2 H
  refine WL.as rfl rfl ?_
  refine WL.nil ?_
  refine WE.seq ?_
  refine WE.seq_reg ?_
  refine WL.loadR rfl TrydT.ag36 rfl rfl (by exact Blk.segAt (H.l 1 rfl) (Seg.all _) (by rfl)) (by (rw [TrydT.sz36]; refine congrArg some ?_; (simp only [kc_length, kw_length, List.length_replicate, List.length_append, List.length_cons, List.length_nil, cutI_length, shaOf_length, dig_length, valD_length, rootM_length]; omega))) ?_
  refine WL.loadR rfl TrydT.ag36 rfl rfl (by exact Blk.segAt (H.l 0 rfl) (Seg.all _) (by rfl)) (by (rw [TrydT.sz36]; refine congrArg some ?_; (simp only [kc_length, kw_length, List.length_replicate, List.length_append, List.length_cons, List.length_nil, cutI_length, shaOf_length, dig_length, valD_length, rootM_length]; omega))) ?_
  refine WL.pv (PV.eqlB rfl TrydT.ar36 TrydT.in5 TrydT.sz5 (by kernel_rfl) rfl rfl (by assumption) (by assumption)) rfl ?_
  refine WL.nil ?_
  refine WE.cond rfl (fun hc9 => ?_) (fun hc9 => ?_)
  · skip
    try simp only [decide_eq_true_eq, decide_eq_false_iff_not, ne_eq, Decidable.not_not, Bool.not_eq_true', Bool.not_eq_false', Bool.and_eq_true, Bool.or_eq_true, Bool.not_not, Bool.and_eq_false_iff, Bool.or_eq_false_iff, Int.not_lt, Int.not_le] at hc9
    have hab : a = b := by exact hc9
    refine WE.seq_reg ?_
    refine WL.as rfl rfl ?_
    refine WL.nil ?_
    refine WE.ret ?_
    refine ⟨[_], _, .nil _, ⟨rfl, trivial⟩, ?_⟩
    refine ⟨?_, H.toOut0⟩
    show Value.int .i64 _ = Value.int .i64 _
    have := (comN_full ha hb).2 hab
    have := comN_le a b
    congr 1; omega
  · skip
    try simp only [decide_eq_true_eq, decide_eq_false_iff_not, ne_eq, Decidable.not_not, Bool.not_eq_true', Bool.not_eq_false', Bool.and_eq_true, Bool.or_eq_true, Bool.not_not, Bool.and_eq_false_iff, Bool.or_eq_false_iff, Int.not_lt, Int.not_le] at hc9
    have hab : a ≠ b := by exact hc9
    refine WE.skip ?_
    refine WE.seq ?_
    refine WE.seq_reg ?_
    refine WL.mv rfl rfl ?_
    refine WL.nil ?_
    refine WE.block ?_
    refine WE.loop (α := Nat) [4, 5, 6, 10, 11, 12, 13, 14, 15, 16, 17, 18, 19, 20, 21, 22, 23, 24, 25, 26, 27] (fun i => [(10, .int .i64 i)]) (fun i wl => i ≤ 32 ∧ (∀ j, j < i → a.getD j 0 = b.getD j 0) ∧ St X w wl [] [Ent.blk b3 36 (kc b), Ent.blk b2 36 (kc a)] []) (fun i => 32 - i) 0 ⟨rfl, trivial⟩ ⟨Nat.zero_le _, fun _ h => by omega, H⟩ ?_
    intro i γ0 w3 hI
    try dsimp only at hI
    obtain ⟨hle, hall, H⟩ := hI
    refine WE.seq_reg ?_
    refine WL.pv (PV.lss rfl rfl rfl) rfl ?_
    refine WL.nil ?_
    refine WE.seq ?_
    refine WE.cond rfl (fun hc11 => ?_) (fun hc11 => ?_)
    · skip
      try simp only [decide_eq_true_eq, decide_eq_false_iff_not, ne_eq, Decidable.not_not, Bool.not_eq_true', Bool.not_eq_false', Bool.and_eq_true, Bool.or_eq_true, Bool.not_not, Bool.and_eq_false_iff, Bool.or_eq_false_iff, Int.not_lt, Int.not_le] at hc11
      have hlt : i < 32 := by omega
      refine WE.skip ?_
      refine WE.seq ?_
      refine WE.block ?_
      refine WE.seq_reg ?_
      refine WL.mv rfl rfl ?_
      refine WL.as rfl rfl ?_
      refine WL.nil ?_
      refine WE.seq_draw (.take 0 (.take 1 (.take 2 (.take 3 (.take 4 (.take 5 (.take 6 (.take 7 .done)))))))) TrydT.mixed (by kernel_rfl) ?_
      replace H := H.out (Out.drew _)
      refine WP.mv rfl rfl rfl ?_
      refine WP.take_pure rfl rfl (PV.indexArr rfl TrydT.ar36 TrydT.sz5 rfl rfl (by omega) (by omega)) ?_
      refine WP.take_read rfl rfl (RV.loadOne rfl TrydT.ag5 rfl) (Blk.bytD (H.l 1 rfl) i (by omega) (by omega)) ?_
      refine WP.mv rfl rfl rfl ?_
      refine WP.take_pure rfl rfl (PV.indexArr rfl TrydT.ar36 TrydT.sz5 rfl rfl (by omega) (by omega)) ?_
      refine WP.take_read rfl rfl (RV.loadOne rfl TrydT.ag5 rfl) (Blk.bytD (H.l 0 rfl) i (by omega) (by omega)) ?_
      refine WP.take_pure rfl rfl (PV.eq (v' := .int .u8 ((a.getD i 0 ^^^ b.getD i 0).toNat : Int)) (PV.xorw rfl rfl rfl) (congrArg (Value.int .u8) (xor8 _ _))) ?_
      refine WP.as rfl rfl rfl ?_
      refine WP.done ?_
      refine WE.seq_reg ?_
      refine WL.mv rfl rfl ?_
      refine WL.pv (PV.neq rfl rfl rfl) rfl ?_
      refine WL.nil ?_
      refine WE.cond rfl (fun hc21 => ?_) (fun hc21 => ?_)
      · skip
        try simp only [decide_eq_true_eq, decide_eq_false_iff_not, ne_eq, Decidable.not_not, Bool.not_eq_true', Bool.not_eq_false', Bool.and_eq_true, Bool.or_eq_true, Bool.not_not, Bool.and_eq_false_iff, Bool.or_eq_false_iff, Int.not_lt, Int.not_le] at hc21
        have hx : (a.getD i 0 ^^^ b.getD i 0).toNat ≠ 0 := by omega
        have hle8 := len8_le (a.getD i 0 ^^^ b.getD i 0)
        refine WE.seq_reg ?_
        refine WL.mv rfl rfl ?_
        refine WL.pv (PV.mul64 rfl rfl rfl (by omega) (by omega)) rfl ?_
        refine WL.mv rfl rfl ?_
        refine WL.call TrydT.fb94 rfl (LZ8_c (x := a.getD i 0 ^^^ b.getD i 0) H.yylt  ) ?_
        rintro _ w4 ⟨rfl, hO⟩
        replace H := H.out hO
        refine WL.pv (PV.add64 rfl rfl rfl (by omega) (by omega)) rfl ?_
        refine WL.as rfl rfl ?_
        refine WL.nil ?_
        refine WE.ret ?_
        refine ⟨[_], _, .nil _, ⟨rfl, trivial⟩, ?_⟩
        refine ⟨?_, H.toOut0⟩
        show Value.int .i64 _ = Value.int .i64 _
        rw [(comN_is a b).uniq (com_byte ha hb hlt hall hx)]
        congr 1 <;> omega
      · skip
        try simp only [decide_eq_true_eq, decide_eq_false_iff_not, ne_eq, Decidable.not_not, Bool.not_eq_true', Bool.not_eq_false', Bool.and_eq_true, Bool.or_eq_true, Bool.not_not, Bool.and_eq_false_iff, Bool.or_eq_false_iff, Int.not_lt, Int.not_le] at hc21
        have hx : (a.getD i 0 ^^^ b.getD i 0).toNat = 0 := by omega
        have hxe : a.getD i 0 = b.getD i 0 := UInt8.xor_eq_zero_iff.1 (UInt8.toNat_inj.1 hx)
        refine WE.skip ?_
        refine WE.reg ?_
        refine WL.pv (PV.add64 rfl rfl rfl (by omega) (by omega)) rfl ?_
        refine WL.mv rfl rfl ?_
        refine WL.nil ?_
        exact ⟨i + 1, (by repeat (first | with_reducible exact Off.refl _ _ | refine Off.upd rfl ?_ | refine Off.setAll rfl ?_ | refine Off.forget' rfl ?_)), ⟨rfl, trivial⟩, rfl, ⟨by omega, fun j hj => by (by_cases e : j = i; (subst e; exact hxe); exact hall j (by omega)), H⟩, (by omega)⟩
    · skip
      try simp only [decide_eq_true_eq, decide_eq_false_iff_not, ne_eq, Decidable.not_not, Bool.not_eq_true', Bool.not_eq_false', Bool.and_eq_true, Bool.or_eq_true, Bool.not_not, Bool.and_eq_false_iff, Bool.or_eq_false_iff, Int.not_lt, Int.not_le] at hc11
      have hend : i = 32 := by omega
      refine WE.exit ?_
      refine WE.seq_reg ?_
      refine WL.as rfl rfl ?_
      refine WL.nil ?_
      refine WE.ret ?_
      refine ⟨[_], _, .nil _, ⟨rfl, trivial⟩, ?_⟩
      exact absurd (bytes_eq ha hb fun j hj => hall j (by omega)) hab

theorem refUnder_c {X : Nat → Prop} {w : World} {s : Value} {m : List En} {k : List UInt8} {c : Nat} (hX : ∀ b, X b → b < w.heap.size) (hf0 : Rob X (SlE s m) w) (hkl : KL m) (hone : OneS m) (hlen : m.length ≤ 1000000) (hk : k.length = 32) (hc : c ≤ 256) :
    Ret Tryd.prog 56 [s, .agg (kc k).toArray, .int .i64 (c : Int)].toArray w fun v w' => Out Nil w w' ∧ Rob X (SlE v (underM m k c)) w' := by
  refine Ret.of_body (N := 32) Tryd.func56 rfl rfl (by simp) ?_
  have H := St.begin hX
  replace H := H.add (rob0 hf0)
  refine WE.seq_reg ?_
  refine WL.box (l := kc k) H rfl (by rfl) rfl ?_
  intro b4 w1 H
  refine WL.as rfl rfl ?_
  refine WL.nil ?_
  refine WE.seq_reg ?_
  refine WL.as rfl rfl ?_
  refine WL.nil ?_
  refine WE.seq ?_
  refine WE.seq_reg ?_
  refine WL.as rfl rfl ?_
  refine WL.nil ?_
  refine WE.block ?_
  replace H := H.nilOsl 52 33
  refine WE.loop (α := Nat × Value) [7, 8, 9, 10, 11, 12, 13, 14, 15, 16, 17, 18, 19, 20, 21, 22, 23, 24, 25, 26, 27, 28, 29, 30] (fun p => [(8, .int .i64 p.1), (7, p.2)]) (fun p wl => p.1 ≤ m.length ∧ St X w wl [] [Ent.osl w.heap.size p.2 52 33 (underM (m.take p.1) k c).length ((underM (m.take p.1) k c).flatMap enC), Ent.blk b4 36 (kc k)] [SlE s m]) (fun p => m.length - p.1) (0, .slice none 0 0) ⟨rfl, rfl, trivial⟩ ⟨Nat.zero_le _, H⟩ ?_
  intro ⟨i, v⟩ γ0 w2 hI
  try dsimp only at hI
  obtain ⟨hi, H⟩ := hI
  refine WE.seq ?_
  refine WE.seq_reg ?_
  refine WL.mv rfl rfl ?_
  refine WL.mv rfl rfl ?_
  refine WL.pv (PV.lenS (by exact H.p 0 rfl : SlE s m _) TrydT.sl42 rfl) rfl ?_
  refine WL.pv (PV.lss rfl rfl rfl) rfl ?_
  refine WL.nil ?_
  refine WE.cond rfl (fun hc12 => ?_) (fun hc12 => ?_)
  · skip
    try simp only [decide_eq_true_eq, decide_eq_false_iff_not, ne_eq, Decidable.not_not, Bool.not_eq_true', Bool.not_eq_false', Bool.and_eq_true, Bool.or_eq_true, Bool.not_not, Bool.and_eq_false_iff, Bool.or_eq_false_iff, Int.not_lt, Int.not_le] at hc12
    have hlt : i < m.length := by omega
    have hE : (enC m[i]).length = 1 * 33 := enC_length (hkl _ (List.getElem_mem hlt))
    have hE2 : (enC m[i]).length = 33 := hE
    have hkk := hkl _ (List.getElem_mem hlt)
    have hpl : (underM (m.take i) k c).length ≤ i := Nat.le_trans (underM_le _ _ _) (by simp; omega)
    have hS := underM_snoc m k c i hlt
    refine WE.skip ?_
    refine WE.cut (α := Value) [7, 15, 16, 17, 18, 19, 20, 21, 22, 23, 24, 25, 26, 27, 28, 29, 30] (fun g1_ => [(7, g1_)]) (fun g1_ wl => St X w wl [] [Ent.osl w.heap.size g1_ 52 33 (underM (m.take (i + 1)) k c).length ((underM (m.take (i + 1)) k c).flatMap enC), Ent.blk b4 36 (kc k)] [SlE s m]) ?_ ?_
    · skip
      refine WE.block ?_
      refine WE.seq_draw (.take 0 (.take 1 (.take 2 (.take 3 (.take 4 (.take 5 (.take 7 (.pick1 6 (.take 8 .done))))))))) TrydT.mixed (by kernel_rfl) ?_
      replace H := H.out (Out.drew _)
      refine WP.mv rfl rfl rfl ?_
      refine WP.mv rfl rfl rfl ?_
      refine WP.take_pure rfl rfl (PV.idxS rfl (by exact H.p 0 rfl : SlE s m _) TrydT.sl42 TrydT.sz52 rfl rfl (by omega) (by omega)) ?_
      refine WP.take_pure rfl rfl (PV.fieldAddrA rfl TrydT.fd52_0 rfl) ?_
      refine WP.readA rfl rfl rfl TrydT.ag36 rfl (SlE.rdk (H.p 0 rfl) hkl i hlt) (by (rw [TrydT.sz36]; refine congrArg some ?_; (simp only [kc_length, kw_length, List.length_replicate, List.length_append, List.length_cons, List.length_nil, cutI_length, shaOf_length, dig_length, valD_length, rootM_length]; omega))) ?_
      refine WP.readA rfl rfl rfl TrydT.ag36 rfl (by exact Blk.segAt (H.l 1 rfl) (Seg.all _) (by rfl)) (by (rw [TrydT.sz36]; refine congrArg some ?_; (simp only [kc_length, kw_length, List.length_replicate, List.length_append, List.length_cons, List.length_nil, cutI_length, shaOf_length, dig_length, valD_length, rootM_length]; omega))) ?_
      refine WP.mv rfl rfl rfl ?_
      refine WP.pick1 rfl ?_
      refine WL.call TrydT.fb80 rfl (refCommon_c (a := m[i].k) (b := k) H.yylt  (by assumption) (by assumption)) ?_
      rintro _ w3 ⟨rfl, hO⟩
      replace H := H.out hO
      refine WL.nil ⟨(List.forall_mem_cons.2 ⟨(by exact (fun h => absurd (show waits _ 6 5 = false from h) (by decide +kernel))), (List.forall_mem_cons.2 ⟨(by exact (fun h => absurd (show waits _ 6 4 = false from h) (by decide +kernel))), (fun _ h => by cases h)⟩)⟩), ?_⟩
      refine WP.take_pure rfl rfl (PV.geq rfl rfl rfl) ?_
      refine WP.done ?_
      refine WE.cond rfl (fun hc23 => ?_) (fun hc23 => ?_)
      · skip
        try simp only [decide_eq_true_eq, decide_eq_false_iff_not, ne_eq, Decidable.not_not, Bool.not_eq_true', Bool.not_eq_false', Bool.and_eq_true, Bool.or_eq_true, Bool.not_not, Bool.and_eq_false_iff, Bool.or_eq_false_iff, Int.not_lt, Int.not_le] at hc23
        rw [if_pos (by omega)] at hS
        refine WE.reg ?_
        refine WL.mv rfl rfl ?_
        refine WL.mv rfl rfl ?_
        refine WL.mv rfl rfl ?_
        refine WL.pv (PV.idxS rfl (by exact H.p 0 rfl : SlE s m _) TrydT.sl42 TrydT.sz52 rfl rfl (by omega) (by omega)) rfl ?_
        refine WL.loadR rfl TrydT.ag52 rfl rfl (SlE.rd (H.p 0 rfl) hkl i hlt) (by (rw [TrydT.sz52]; refine congrArg some ?_; (simp [kc_length, kw_length, *]; done))) ?_
        refine WL.buildSliceF (l0 := ((kc (List.replicate 32 0) ++ ([.slice none 0 0])))) H rfl TrydT.st42 (by decide) (by rfl) (Fl.cons rfl (by rfl) (by (simp only [kc_length, kw_length, List.length_replicate, List.length_append, List.length_cons, List.length_nil, cutI_length, shaOf_length, dig_length, valD_length, rootM_length]; omega)) (Laid.all (by (simp only [kc_length, kw_length, List.length_replicate, List.length_append, List.length_cons, List.length_nil, cutI_length, shaOf_length, dig_length, valD_length, rootM_length]; omega))) Fl.nil) rfl ?_
        intro b29 w4 H
        refine WL.append (m := 1) H 1 TrydT.st42 (by decide) rfl rfl rfl (SlC.of_blk (n := 1) (H.l 0 rfl) hE) (one_enC (hone _ (List.getElem_mem hlt))) (by omega) (by decide) rfl ?_
        intro v30 w5 H
        have hSl := congrArg List.length hS
        rw [List.length_append, show [m[i]].length = 1 from rfl] at hSl
        have hSf := congrArg (List.flatMap enC) hS
        rw [List.flatMap_append, List.flatMap_singleton] at hSf
        replace H := H.forget 0
        replace H := H.conv (L' := [Ent.osl w.heap.size v30 52 33 (underM (m.take (i + 1)) k c).length ((underM (m.take (i + 1)) k c).flatMap enC), Ent.blk b4 36 (kc k)]) (by rw [hSl, hSf]; rfl)
        refine WL.as rfl rfl ?_
        refine WL.nil ?_
        exact ⟨v30, (by repeat (first | with_reducible exact Off.refl _ _ | refine Off.upd rfl ?_)), ⟨rfl, trivial⟩, rfl, H⟩
      · skip
        try simp only [decide_eq_true_eq, decide_eq_false_iff_not, ne_eq, Decidable.not_not, Bool.not_eq_true', Bool.not_eq_false', Bool.and_eq_true, Bool.or_eq_true, Bool.not_not, Bool.and_eq_false_iff, Bool.or_eq_false_iff, Int.not_lt, Int.not_le] at hc23
        rw [if_neg (by omega), List.append_nil] at hS
        refine WE.skip ?_
        exact ⟨v, (by repeat (first | with_reducible exact Off.refl _ _ | refine Off.upd rfl ?_)), ⟨rfl, trivial⟩, rfl, H.conv (by rw [hS])⟩
    · skip
      intro g1_ γ w6 hI
      try dsimp only at hI
      replace H := hI
      refine WE.reg ?_
      refine WL.mv rfl rfl ?_
      refine WL.pv (PV.add64 rfl rfl rfl (by omega) (by omega)) rfl ?_
      refine WL.as rfl rfl ?_
      refine WL.nil ?_
      exact ⟨(i + 1, g1_), (by repeat (first | with_reducible exact Off.refl _ _ | refine Off.upd rfl ?_ | refine Off.setAll rfl ?_ | refine Off.forget' rfl ?_)), ⟨rfl, rfl, trivial⟩, rfl, ⟨by dsimp only; omega, H⟩, (by dsimp only; omega)⟩
  · skip
    try simp only [decide_eq_true_eq, decide_eq_false_iff_not, ne_eq, Decidable.not_not, Bool.not_eq_true', Bool.not_eq_false', Bool.and_eq_true, Bool.or_eq_true, Bool.not_not, Bool.and_eq_false_iff, Bool.or_eq_false_iff, Int.not_lt, Int.not_le] at hc12
    have hke : m.take i = m := List.take_of_length_le (by omega)
    refine WE.exit ?_
    refine WE.seq_reg ?_
    refine WL.mv rfl rfl ?_
    refine WL.as rfl rfl ?_
    refine WL.nil ?_
    refine WE.ret ?_
    refine ⟨[_], _, .nil _, ⟨rfl, trivial⟩, ?_⟩
    replace H := H.freeze (i := 0) rfl
    exact ⟨H.toOut0, H.give ((H.rob 0 rfl).imp fun _ h => by rw [hke] at h; exact SlC.of_own h)⟩

end Go.Sp.Tryd
