/- Walks of functions, printed by a program of this session (gen.py) from notes on each function. -/
import Derived.Test.YtcclagdjpoimaaaGreatDoorG7
set_option maxRecDepth 100000
set_option maxHeartbeats 1000000
set_option linter.unusedVariables false
set_option linter.unusedSimpArgs false
namespace Go.Sp.Tryz
open Go.Proofs Go.RowKit Go.Sp

def sibL (T : Tr) (k : List UInt8) (n : Nat) : List Value := (List.range n).map fun j => ((T.atN k 0 j).beside k j).ptr
def wayL (T : Tr) (k : List UInt8) (n : Nat) : List Value := (List.range n).map fun j => (T.atN k 0 j).ptr
end Go.Sp.Tryz

set_option maxRecDepth 100000
set_option maxHeartbeats 1000000
set_option linter.unusedVariables false
set_option linter.unusedSimpArgs false
namespace Go.Sp.Tryz
open Go.Proofs Go.RowKit Go.Sp

def comF (a b : List UInt8) : Nat → Nat → Nat
  | 0, i => i
  | f + 1, i => if bitN a i = bitN b i then comF a b f (i + 1) else i
def comN (a b : List UInt8) : Nat := comF a b 256 0
structure IsCom (a b : List UInt8) (c : Nat) : Prop where
  le : c ≤ 256
  eq : ∀ i, i < c → bitN a i = bitN b i
  ne : c < 256 → bitN a c ≠ bitN b c
theorem comF_is (a b : List UInt8) : ∀ (f i : Nat), f + i = 256 → (∀ j, j < i → bitN a j = bitN b j) → IsCom a b (comF a b f i) := by
  intro f
  induction f with
  | zero => intro i h he; exact ⟨by show i ≤ 256; omega, he, fun hl => absurd hl (by show ¬ i < 256; omega)⟩
  | succ f ih =>
    intro i h he
    unfold comF
    by_cases hb : bitN a i = bitN b i
    · rw [if_pos hb]
      refine ih (i + 1) (by omega) fun j hj => ?_
      by_cases e : j = i
      · subst e; exact hb
      · exact he j (by omega)
    · rw [if_neg hb]
      exact ⟨by omega, he, fun _ => hb⟩
theorem comN_is (a b : List UInt8) : IsCom a b (comN a b) := comF_is a b 256 0 rfl fun _ h => by omega
theorem IsCom.uniq {a b : List UInt8} {c d : Nat} (h : IsCom a b c) (g : IsCom a b d) : c = d := by
  have h1 := h.le
  have h2 := g.le
  rcases Nat.lt_trichotomy c d with hl | hl | hl
  · exact absurd (g.eq c hl) (h.ne (by omega))
  · exact hl
  · exact absurd (h.eq d hl) (g.ne (by omega))
theorem comN_le (a b : List UInt8) : comN a b ≤ 256 := (comN_is a b).le
theorem comN_succ {a b : List UInt8} {c : Nat} (hc : c < 256) : c + 1 ≤ comN a b ↔ c ≤ comN a b ∧ bitN a c = bitN b c := by
  have h := comN_is a b
  constructor
  · intro hl; exact ⟨by omega, h.eq c (by omega)⟩
  · rintro ⟨h1, h2⟩
    rcases Nat.lt_or_ge c (comN a b) with hl | hl
    · exact hl
    · have e : comN a b = c := by omega
      exact absurd (e ▸ h2 : bitN a (comN a b) = bitN b (comN a b)) (h.ne (by omega))
theorem pre_com {a b : List UInt8} (ha : a.length = 32) (hb : b.length = 32) : ∀ d, d ≤ 256 → (pre d a = pre d b ↔ d ≤ comN a b) := by
  intro d
  induction d with
  | zero => intro _; rw [pre_zero a ha, pre_zero b hb]; simp
  | succ d ih =>
    intro hd
    have h1 := bitN_lt a d
    have h2 := bitN_lt b d
    rw [pre_succ a ha d (by omega), pre_succ b hb d (by omega), comN_succ (by omega), ← ih (by omega)]
    constructor
    · intro h; omega
    · rintro ⟨h3, h4⟩; rw [h3, h4]
theorem comN_full {a b : List UInt8} (ha : a.length = 32) (hb : b.length = 32) : 256 ≤ comN a b ↔ a = b := by
  rw [← pre_com ha hb 256 (by omega), pre_full, pre_full]
  exact ⟨num_inj a b (by rw [ha, hb]), fun h => by rw [h]⟩
def underM (m : List En) (k : List UInt8) (c : Nat) : List En := m.filter fun e => decide (c ≤ comN e.k k)
def Tr.und (T : Tr) (k : List UInt8) (c : Nat) : Tr := if c ≤ T.dp k 0 then T.atN k 0 c else if (T.fin k).er.kind = 1 ∧ comN (T.fin k).key k < c then .nil else T.fin k
end Go.Sp.Tryz

set_option maxRecDepth 100000
set_option maxHeartbeats 1000000
set_option linter.unusedVariables false
set_option linter.unusedSimpArgs false
namespace Go.Sp.Tryz
open Go.Proofs Go.RowKit Go.Sp

def len8 (n : Nat) : Nat := if n = 0 then 0 else Nat.log2 n + 1
theorem len8_tab : ∀ x : Fin 256, (⟨#[0, 1, 2, 2, 3, 3, 3, 3, 4, 4, 4, 4, 4, 4, 4, 4, 5, 5, 5, 5, 5, 5, 5, 5, 5, 5, 5, 5, 5, 5, 5, 5, 6, 6, 6, 6, 6, 6, 6, 6, 6, 6, 6, 6, 6, 6, 6, 6, 6, 6, 6, 6, 6, 6, 6, 6, 6, 6, 6, 6, 6, 6, 6, 6, 7, 7, 7, 7, 7, 7, 7, 7, 7, 7, 7, 7, 7, 7, 7, 7, 7, 7, 7, 7, 7, 7, 7, 7, 7, 7, 7, 7, 7, 7, 7, 7, 7, 7, 7, 7, 7, 7, 7, 7, 7, 7, 7, 7, 7, 7, 7, 7, 7, 7, 7, 7, 7, 7, 7, 7, 7, 7, 7, 7, 7, 7, 7, 7, 8, 8, 8, 8, 8, 8, 8, 8, 8, 8, 8, 8, 8, 8, 8, 8, 8, 8, 8, 8, 8, 8, 8, 8, 8, 8, 8, 8, 8, 8, 8, 8, 8, 8, 8, 8, 8, 8, 8, 8, 8, 8, 8, 8, 8, 8, 8, 8, 8, 8, 8, 8, 8, 8, 8, 8, 8, 8, 8, 8, 8, 8, 8, 8, 8, 8, 8, 8, 8, 8, 8, 8, 8, 8, 8, 8, 8, 8, 8, 8, 8, 8, 8, 8, 8, 8, 8, 8, 8, 8, 8, 8, 8, 8, 8, 8, 8, 8, 8, 8, 8, 8, 8, 8, 8, 8, 8, 8, 8, 8, 8, 8, 8, 8, 8, 8, 8, 8, 8, 8, 8, 8, 8, 8, 8, 8, 8, 8]⟩ : ByteArray)[x.val]? = some (UInt8.ofNat (len8 x.val)) := by decide +kernel
theorem len8_get (x : UInt8) : (⟨#[0, 1, 2, 2, 3, 3, 3, 3, 4, 4, 4, 4, 4, 4, 4, 4, 5, 5, 5, 5, 5, 5, 5, 5, 5, 5, 5, 5, 5, 5, 5, 5, 6, 6, 6, 6, 6, 6, 6, 6, 6, 6, 6, 6, 6, 6, 6, 6, 6, 6, 6, 6, 6, 6, 6, 6, 6, 6, 6, 6, 6, 6, 6, 6, 7, 7, 7, 7, 7, 7, 7, 7, 7, 7, 7, 7, 7, 7, 7, 7, 7, 7, 7, 7, 7, 7, 7, 7, 7, 7, 7, 7, 7, 7, 7, 7, 7, 7, 7, 7, 7, 7, 7, 7, 7, 7, 7, 7, 7, 7, 7, 7, 7, 7, 7, 7, 7, 7, 7, 7, 7, 7, 7, 7, 7, 7, 7, 7, 8, 8, 8, 8, 8, 8, 8, 8, 8, 8, 8, 8, 8, 8, 8, 8, 8, 8, 8, 8, 8, 8, 8, 8, 8, 8, 8, 8, 8, 8, 8, 8, 8, 8, 8, 8, 8, 8, 8, 8, 8, 8, 8, 8, 8, 8, 8, 8, 8, 8, 8, 8, 8, 8, 8, 8, 8, 8, 8, 8, 8, 8, 8, 8, 8, 8, 8, 8, 8, 8, 8, 8, 8, 8, 8, 8, 8, 8, 8, 8, 8, 8, 8, 8, 8, 8, 8, 8, 8, 8, 8, 8, 8, 8, 8, 8, 8, 8, 8, 8, 8, 8, 8, 8, 8, 8, 8, 8, 8, 8, 8, 8, 8, 8, 8, 8, 8, 8, 8, 8, 8, 8, 8, 8, 8, 8, 8, 8]⟩ : ByteArray)[x.toNat]? = some (UInt8.ofNat (len8 x.toNat)) := len8_tab ⟨x.toNat, x.toNat_lt⟩
theorem len8_spec : ∀ x : Fin 256, len8 x.val ≤ 8 ∧ (x.val ≠ 0 → 1 ≤ len8 x.val ∧ x.val.testBit (len8 x.val - 1) = true ∧ ∀ j : Fin 8, len8 x.val ≤ j.val → x.val.testBit j.val = false) := by decide +kernel
theorem len8_le (x : UInt8) : len8 x.toNat ≤ 8 := (len8_spec ⟨x.toNat, x.toNat_lt⟩).1
theorem bitN_test (k : List UInt8) (i : Nat) : bitN k i = ((k.getD (i / 8) 0).toNat.testBit (7 - i % 8)).toNat := by
  unfold bitN
  rw [Nat.toNat_testBit]
theorem com_byte {a b : List UInt8} (ha : a.length = 32) (hb : b.length = 32) {i : Nat} (hi : i < 32) (he : ∀ j (h : j < i), a.getD j 0 = b.getD j 0) (hx : (a.getD i 0 ^^^ b.getD i 0).toNat ≠ 0) :
    IsCom a b (8 * i + (8 - len8 (a.getD i 0 ^^^ b.getD i 0).toNat)) := by
  have h1 := (len8_spec ⟨(a.getD i 0 ^^^ b.getD i 0).toNat, UInt8.toNat_lt _⟩)
  have h2 := h1.2 hx
  dsimp only at h1 h2
  generalize hL : len8 (a.getD i 0 ^^^ b.getD i 0).toNat = L at *
  refine ⟨by omega, fun j hj => ?_, fun _ => ?_⟩
  · rw [bitN_test, bitN_test]
    rcases Nat.lt_or_ge j (8 * i) with h | h
    · rw [he (j / 8) (by omega)]
    · have e : j / 8 = i := by omega
      have h3 := h2.2.2 ⟨7 - j % 8, by omega⟩ (by dsimp only; omega)
      rw [UInt8.toNat_xor, Nat.testBit_xor] at h3
      rw [e]
      congr 1
      dsimp only at h3
      revert h3
      cases (a.getD i 0).toNat.testBit (7 - j % 8) <;> cases (b.getD i 0).toNat.testBit (7 - j % 8) <;> simp
  · rw [bitN_test, bitN_test, show (8 * i + (8 - L)) / 8 = i by omega, show 7 - (8 * i + (8 - L)) % 8 = L - 1 by omega]
    have h3 := h2.2.1
    rw [UInt8.toNat_xor, Nat.testBit_xor] at h3
    revert h3
    cases (a.getD i 0).toNat.testBit (L - 1) <;> cases (b.getD i 0).toNat.testBit (L - 1) <;> simp
theorem xor8 (a b : UInt8) : IntKind.u8.wrap ((BitVec.ofInt IntKind.u8.bits (a.toNat : Int) ^^^ BitVec.ofInt IntKind.u8.bits (b.toNat : Int)).toNat : Int) = ((a ^^^ b).toNat : Int) := by
  rw [wrap8]
  have e : (BitVec.ofInt IntKind.u8.bits (a.toNat : Int) ^^^ BitVec.ofInt IntKind.u8.bits (b.toNat : Int)).toNat = (a ^^^ b).toNat := by
    show (BitVec.ofInt 8 (a.toNat : Int) ^^^ BitVec.ofInt 8 (b.toNat : Int)).toNat = _
    rw [BitVec.ofInt_natCast, BitVec.ofInt_natCast, BitVec.toNat_xor, UInt8.toNat_xor]
    have h1 := a.toNat_lt
    have h2 := b.toNat_lt
    simp
  rw [e]
  have := (a ^^^ b).toNat_lt
  omega
theorem bytes_eq {a b : List UInt8} (ha : a.length = 32) (hb : b.length = 32) (he : ∀ j, j < 32 → a.getD j 0 = b.getD j 0) : a = b := by
  apply List.ext_getElem (by omega)
  intro i h1 h2
  have := he i (by omega)
  rwa [getD_at h1, getD_at h2] at this

theorem Len8_c {X : Nat → Prop} {w : World} {x : UInt8} (hX : ∀ b, X b → b < w.heap.size) :
    Ret Tryz.prog 132 [.int .u8 (x.toNat : Int)].toArray w fun v w' => v = .int .i64 (len8 x.toNat : Int) ∧ Out Nil w w' := by
  refine Ret.of_body (N := 6) Tryz.func132 rfl rfl (by simp) ?_
  have H := St.begin hX
  have hle := len8_le x
  refine WE.seq_reg ?_
  refine WL.as rfl rfl ?_
  refine WL.nil ?_
  refine WE.seq_reg ?_
  refine WL.mv rfl rfl ?_
  refine WL.pv (PV.indexStr (i := x.toNat) rfl (by kernel_rfl) rfl rfl (len8_get x)) rfl ?_
  refine WL.pv (PV.eq (v' := .int .i64 ((len8 x.toNat : Nat) : Int)) (PV.conv64 rfl TryzT.in5 TryzT.in3 rfl (by omega) (by have := (UInt8.ofNat (len8 x.toNat)).toNat_lt; omega)) (by congr 1; rw [UInt8.toNat_ofNat_of_lt' (by show _ < 256; omega)])) rfl ?_
  refine WL.as rfl rfl ?_
  refine WL.nil ?_
  refine WE.ret ?_
  refine ⟨[_], _, .nil _, ⟨rfl, trivial⟩, ?_⟩
  exact ⟨rfl, H.toOut0⟩

theorem LZ8_c {X : Nat → Prop} {w : World} {x : UInt8} (hX : ∀ b, X b → b < w.heap.size) :
    Ret Tryz.prog 128 [.int .u8 (x.toNat : Int)].toArray w fun v w' => v = .int .i64 ((8 - len8 x.toNat : Nat) : Int) ∧ Out Nil w w' := by
  refine Ret.of_body (N := 6) Tryz.func128 rfl rfl (by simp) ?_
  have H := St.begin hX
  have hle := len8_le x
  refine WE.seq_reg ?_
  refine WL.as rfl rfl ?_
  refine WL.nil ?_
  refine WE.seq_reg ?_
  refine WL.mv rfl rfl ?_
  refine WL.call TryzT.fb132 rfl (Len8_c (x := x) H.yylt  ) ?_
  rintro _ w1 ⟨rfl, hO⟩
  replace H := H.out hO
  refine WL.pv (PV.sub64 rfl rfl rfl (by omega) (by omega)) rfl ?_
  refine WL.as rfl rfl ?_
  refine WL.nil ?_
  refine WE.ret ?_
  refine ⟨[_], _, .nil _, ⟨rfl, trivial⟩, ?_⟩
  refine ⟨?_, H.toOut0⟩
  show Value.int .i64 _ = Value.int .i64 _
  congr 1; omega

theorem Common_c {X : Nat → Prop} {w : World} {a b : List UInt8} (hX : ∀ b, X b → b < w.heap.size) (ha : a.length = 32) (hb : b.length = 32) :
    Ret Tryz.prog 117 [.agg (kc a).toArray, .agg (kc b).toArray].toArray w fun v w' => v = .int .i64 (comN a b : Int) ∧ Out Nil w w' := by
  refine Ret.of_body (N := 28) Tryz.func117 rfl rfl (by simp) ?_
  have H := St.begin hX
  refine WE.seq_reg ?_
  refine WL.box (l := kc a) H rfl (by rfl) rfl ?_
  intro b2 w1 H
  refine WL.box (l := kc b) H rfl (by rfl) rfl ?_
  intro b3 w2 H
  refine WL.as rfl rfl ?_
  refine WL.nil ?_
  refine WE.seq ?_
  refine WE.seq_reg ?_
  refine WL.loadR rfl TryzT.ag31 rfl rfl (by exact Blk.segAt (H.l 1 rfl) (Seg.all _) (by rfl)) (by (rw [TryzT.sz31]; refine congrArg some ?_; (simp only [kc_length, kw_length, List.length_replicate, List.length_append, List.length_cons, List.length_nil, cutI_length, shaOf_length, dig_length, valD_length, rootM_length]; omega))) ?_
  refine WL.loadR rfl TryzT.ag31 rfl rfl (by exact Blk.segAt (H.l 0 rfl) (Seg.all _) (by rfl)) (by (rw [TryzT.sz31]; refine congrArg some ?_; (simp only [kc_length, kw_length, List.length_replicate, List.length_append, List.length_cons, List.length_nil, cutI_length, shaOf_length, dig_length, valD_length, rootM_length]; omega))) ?_
  refine WL.pv (PV.eqlB rfl TryzT.ar31 TryzT.in5 TryzT.sz5 (by kernel_rfl) rfl rfl (by assumption) (by assumption)) rfl ?_
  refine WL.nil ?_
  refine WE.cond rfl (fun hc9 => ?_) (fun hc9 => ?_)
  · skip
    try simp only [decide_eq_true_eq, decide_eq_false_iff_not, ne_eq, Decidable.not_not, Bool.not_eq_true', Bool.not_eq_false', Bool.and_eq_true, Bool.or_eq_true, Bool.not_not, Bool.and_eq_false_iff, Bool.or_eq_false_iff, Int.not_lt, Int.not_le] at hc9
    have hab : a = b := by exact hc9
    refine WE.seq_reg ?_
    refine WL.as rfl rfl ?_
    refine WL.nil ?_
    refine WE.ret ?_
    refine ⟨[_], _, .nil _, ⟨rfl, trivial⟩, ?_⟩
    refine ⟨?_, H.toOut0⟩
    show Value.int .i64 _ = Value.int .i64 _
    have := (comN_full ha hb).2 hab
    have := comN_le a b
    congr 1; omega
  · skip
    try simp only [decide_eq_true_eq, decide_eq_false_iff_not, ne_eq, Decidable.not_not, Bool.not_eq_true', Bool.not_eq_false', Bool.and_eq_true, Bool.or_eq_true, Bool.not_not, Bool.and_eq_false_iff, Bool.or_eq_false_iff, Int.not_lt, Int.not_le] at hc9
    have hab : a ≠ b := by exact hc9
    refine WE.skip ?_
    refine WE.seq ?_
    refine WE.seq_reg ?_
    refine WL.mv rfl rfl ?_
    refine WL.nil ?_
    refine WE.block ?_
    refine WE.loop (α := Nat) [4, 5, 6, 10, 11, 12, 13, 14, 15, 16, 17, 18, 19, 20, 21, 22, 23, 24, 25, 26, 27] (fun i => [(10, .int .i64 i)]) (fun i wl => i ≤ 32 ∧ (∀ j, j < i → a.getD j 0 = b.getD j 0) ∧ St X w wl [] [Ent.blk b3 31 (kc b), Ent.blk b2 31 (kc a)] []) (fun i => 32 - i) 0 ⟨rfl, trivial⟩ ⟨Nat.zero_le _, fun _ h => by omega, H⟩ ?_
    intro i γ0 w3 hI
    try dsimp only at hI
    obtain ⟨hle, hall, H⟩ := hI
    refine WE.seq_reg ?_
    refine WL.pv (PV.lss rfl rfl rfl) rfl ?_
    refine WL.nil ?_
    refine WE.seq ?_
    refine WE.cond rfl (fun hc11 => ?_) (fun hc11 => ?_)
    · skip
      try simp only [decide_eq_true_eq, decide_eq_false_iff_not, ne_eq, Decidable.not_not, Bool.not_eq_true', Bool.not_eq_false', Bool.and_eq_true, Bool.or_eq_true, Bool.not_not, Bool.and_eq_false_iff, Bool.or_eq_false_iff, Int.not_lt, Int.not_le] at hc11
      have hlt : i < 32 := by omega
      refine WE.skip ?_
      refine WE.seq ?_
      refine WE.block ?_
      refine WE.seq_reg ?_
      refine WL.mv rfl rfl ?_
      refine WL.as rfl rfl ?_
      refine WL.nil ?_
      refine WE.seq_draw (.take 0 (.take 1 (.take 2 (.take 3 (.take 4 (.take 5 (.take 6 (.take 7 .done)))))))) TryzT.mixed (by kernel_rfl) ?_
      replace H := H.out (Out.drew _)
      refine WP.mv rfl rfl rfl ?_
      refine WP.take_pure rfl rfl (PV.indexArr rfl TryzT.ar31 TryzT.sz5 rfl rfl (by omega) (by omega)) ?_
      refine WP.take_read rfl rfl (RV.loadOne rfl TryzT.ag5 rfl) (Blk.bytD (H.l 1 rfl) i (by omega) (by omega)) ?_
      refine WP.mv rfl rfl rfl ?_
      refine WP.take_pure rfl rfl (PV.indexArr rfl TryzT.ar31 TryzT.sz5 rfl rfl (by omega) (by omega)) ?_
      refine WP.take_read rfl rfl (RV.loadOne rfl TryzT.ag5 rfl) (Blk.bytD (H.l 0 rfl) i (by omega) (by omega)) ?_
      refine WP.take_pure rfl rfl (PV.eq (v' := .int .u8 ((a.getD i 0 ^^^ b.getD i 0).toNat : Int)) (PV.xorw rfl rfl rfl) (congrArg (Value.int .u8) (xor8 _ _))) ?_
      refine WP.as rfl rfl rfl ?_
      refine WP.done ?_
      refine WE.seq_reg ?_
      refine WL.mv rfl rfl ?_
      refine WL.pv (PV.neq rfl rfl rfl) rfl ?_
      refine WL.nil ?_
      refine WE.cond rfl (fun hc21 => ?_) (fun hc21 => ?_)
      · skip
        try simp only [decide_eq_true_eq, decide_eq_false_iff_not, ne_eq, Decidable.not_not, Bool.not_eq_true', Bool.not_eq_false', Bool.and_eq_true, Bool.or_eq_true, Bool.not_not, Bool.and_eq_false_iff, Bool.or_eq_false_iff, Int.not_lt, Int.not_le] at hc21
        have hx : (a.getD i 0 ^^^ b.getD i 0).toNat ≠ 0 := by omega
        have hle8 := len8_le (a.getD i 0 ^^^ b.getD i 0)
        refine WE.seq_reg ?_
        refine WL.mv rfl rfl ?_
        refine WL.pv (PV.mul64 rfl rfl rfl (by omega) (by omega)) rfl ?_
        refine WL.mv rfl rfl ?_
        refine WL.call TryzT.fb128 rfl (LZ8_c (x := a.getD i 0 ^^^ b.getD i 0) H.yylt  ) ?_
        rintro _ w4 ⟨rfl, hO⟩
        replace H := H.out hO
        refine WL.pv (PV.add64 rfl rfl rfl (by omega) (by omega)) rfl ?_
        refine WL.as rfl rfl ?_
        refine WL.nil ?_
        refine WE.ret ?_
        refine ⟨[_], _, .nil _, ⟨rfl, trivial⟩, ?_⟩
        refine ⟨?_, H.toOut0⟩
        show Value.int .i64 _ = Value.int .i64 _
        rw [(comN_is a b).uniq (com_byte ha hb hlt hall hx)]
        congr 1 <;> omega
      · skip
        try simp only [decide_eq_true_eq, decide_eq_false_iff_not, ne_eq, Decidable.not_not, Bool.not_eq_true', Bool.not_eq_false', Bool.and_eq_true, Bool.or_eq_true, Bool.not_not, Bool.and_eq_false_iff, Bool.or_eq_false_iff, Int.not_lt, Int.not_le] at hc21
        have hx : (a.getD i 0 ^^^ b.getD i 0).toNat = 0 := by omega
        have hxe : a.getD i 0 = b.getD i 0 := UInt8.xor_eq_zero_iff.1 (UInt8.toNat_inj.1 hx)
        refine WE.skip ?_
        refine WE.reg ?_
        refine WL.pv (PV.add64 rfl rfl rfl (by omega) (by omega)) rfl ?_
        refine WL.mv rfl rfl ?_
        refine WL.nil ?_
        exact ⟨i + 1, (by repeat (first | with_reducible exact Off.refl _ _ | refine Off.upd rfl ?_ | refine Off.setAll rfl ?_ | refine Off.forget' rfl ?_)), ⟨rfl, trivial⟩, rfl, ⟨by omega, fun j hj => by (by_cases e : j = i; (subst e; exact hxe); exact hall j (by omega)), H⟩, (by omega)⟩
    · skip
      try simp only [decide_eq_true_eq, decide_eq_false_iff_not, ne_eq, Decidable.not_not, Bool.not_eq_true', Bool.not_eq_false', Bool.and_eq_true, Bool.or_eq_true, Bool.not_not, Bool.and_eq_false_iff, Bool.or_eq_false_iff, Int.not_lt, Int.not_le] at hc11
      have hend : i = 32 := by omega
      refine WE.exit ?_
      refine WE.seq_reg ?_
      refine WL.as rfl rfl ?_
      refine WL.nil ?_
      refine WE.ret ?_
      refine ⟨[_], _, .nil _, ⟨rfl, trivial⟩, ?_⟩
      exact absurd (bytes_eq ha hb fun j hj => hall j (by omega)) hab

end Go.Sp.Tryz

set_option maxRecDepth 100000
set_option maxHeartbeats 1000000
set_option linter.unusedVariables false
set_option linter.unusedSimpArgs false
namespace Go.Sp.Tryz
open Go.Proofs Go.RowKit Go.Sp

def undP (T : Tr) (k : List UInt8) (c : Nat) : Nat → Value
  | 0 => .pointer none
  | i + 1 => if (T.atN k 0 i).er.kind = 1 ∧ comN (T.atN k 0 i).key k < c then .pointer none else (T.atN k 0 i).ptr
end Go.Sp.Tryz

