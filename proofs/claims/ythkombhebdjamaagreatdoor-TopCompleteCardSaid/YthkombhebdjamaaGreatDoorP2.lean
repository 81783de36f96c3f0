/- Part of the proof of this claim: walks through the program's functions and the plain laws that they need, printed by a program of this session. -/
import Derived.Test.YthkombhebdjamaaGreatDoorP1
import Derived.Test.YthkombhebdjamaaGreatDoorMore
import Derived.Test.YthkombhebdjamaaGreatDoorExt
import Derived.Test.YthkombhebdjamaaGreatDoorDfr
import Derived.Test.YthkombhebdjamaaGreatDoorStr
import Derived.Test.YthkombhebdjamaaGreatDoorOpen
import Derived.Test.YthkombhebdjamaaGreatDoorIns
import Derived.LaidEqlPtr
set_option maxRecDepth 100000
set_option maxHeartbeats 1000000
set_option linter.unusedVariables false
set_option linter.unusedSimpArgs false
namespace Go.Sp.Tryz
open Go.Proofs Go.RowKit Go.Sp Go.Sp.TryzT
variable {X : Nat → Prop} {w : World}
def WU (a b : List UInt8) : Nat → Nat → Nat
 | 0, i => i
 | f + 1, i => if bH a i = bH b i then WU a b f (i + 1) else i
def fF (a b : List UInt8) : Nat := WU a b 256 0
structure AU (a b : List UInt8) (c : Nat) : Prop where
 le : c ≤ 256
 eq : ∀ i, i < c → bH a i = bH b i
 ne : c < 256 → bH a c ≠ bH b c
theorem WT (a b : List UInt8) : ∀ (f i : Nat), f + i = 256 → (∀ j, j < i → bH a j = bH b j) → AU a b (WU a b f i) := by
 intro f
 induction f with
 | zero => intro i h he; exact ⟨by show i ≤ 256; omega, he, fun hl => absurd hl (by show ¬ i < 256; omega)⟩
 | succ f ih =>
  intro i h he
  unfold WU
  by_cases hb : bH a i = bH b i
  ·
   rw [if_pos hb]
   refine ih (i + 1) (by omega) fun j hj => ?_
   by_cases e : j = i
   ·
    subst e; exact hb
   ·
    exact he j (by omega)
  ·
   rw [if_neg hb]
   exact ⟨by omega, he, fun _ => hb⟩
theorem oJ (a b : List UInt8) : AU a b (fF a b) := WT a b 256 0 rfl fun _ h => by omega
theorem AU.uniq {a b : List UInt8} {c d : Nat} (h : AU a b c) (g : AU a b d) : c = d := by
 have h1 := h.le
 have h2 := g.le
 rcases Nat.lt_trichotomy c d with hl | hl | hl
 ·
  exact absurd (g.eq c hl) (h.ne (by omega))
 ·
  exact hl
 ·
  exact absurd (h.eq d hl) (g.ne (by omega))
theorem JW (a b : List UInt8) : fF a b ≤ 256 := (oJ a b).le
theorem AD {a b : List UInt8} {c : Nat} (hc : c < 256) : c + 1 ≤ fF a b ↔ c ≤ fF a b ∧ bH a c = bH b c := by
 have h := oJ a b
 constructor
 ·
  intro hl; exact ⟨by omega, h.eq c (by omega)⟩
 ·
  rintro ⟨h1, h2⟩
  rcases Nat.lt_or_ge c (fF a b) with hl | hl
  ·
   exact hl
  ·
   have e : fF a b = c := by omega
   exact absurd (e ▸ h2 : bH a (fF a b) = bH b (fF a b)) (h.ne (by omega))
theorem A7 {a b : List UInt8} (ha : a.length = 32) (hb : b.length = 32) : ∀ d, d ≤ 256 → (pre d a = pre d b ↔ d ≤ fF a b) := by
 intro d
 induction d with
 | zero => intro _; rw [mU a ha, mU b hb]; simp
 | succ d ih =>
  intro hd
  have h1 := eA a d
  have h2 := eA b d
  rw [kP a ha d (by omega), kP b hb d (by omega), AD (by omega), ← ih (by omega)]
  constructor
  ·
   intro h; omega
  ·
   rintro ⟨h3, h4⟩; rw [h3, h4]
theorem nH {a b : List UInt8} (ha : a.length = 32) (hb : b.length = 32) : 256 ≤ fF a b ↔ a = b := by
 rw [← A7 ha hb 256 (by omega), pE, pE]
 exact ⟨sA a b (by rw [ha, hb]), fun h => by rw [h]⟩
def len8 (n : Nat) : Nat := if n = 0 then 0 else Nat.log2 n + 1
theorem PJ : ∀ x : Fin 256, (⟨#[0, 1, 2, 2, 3, 3, 3, 3, 4, 4, 4, 4, 4, 4, 4, 4, 5, 5, 5, 5, 5, 5, 5, 5, 5, 5, 5, 5, 5, 5, 5, 5, 6, 6, 6, 6, 6, 6, 6, 6, 6, 6, 6, 6, 6, 6, 6, 6, 6, 6, 6, 6, 6, 6, 6, 6, 6, 6, 6, 6, 6, 6, 6, 6, 7, 7, 7, 7, 7, 7, 7, 7, 7, 7, 7, 7, 7, 7, 7, 7, 7, 7, 7, 7, 7, 7, 7, 7, 7, 7, 7, 7, 7, 7, 7, 7, 7, 7, 7, 7, 7, 7, 7, 7, 7, 7, 7, 7, 7, 7, 7, 7, 7, 7, 7, 7, 7, 7, 7, 7, 7, 7, 7, 7, 7, 7, 7, 7, 8, 8, 8, 8, 8, 8, 8, 8, 8, 8, 8, 8, 8, 8, 8, 8, 8, 8, 8, 8, 8, 8, 8, 8, 8, 8, 8, 8, 8, 8, 8, 8, 8, 8, 8, 8, 8, 8, 8, 8, 8, 8, 8, 8, 8, 8, 8, 8, 8, 8, 8, 8, 8, 8, 8, 8, 8, 8, 8, 8, 8, 8, 8, 8, 8, 8, 8, 8, 8, 8, 8, 8, 8, 8, 8, 8, 8, 8, 8, 8, 8, 8, 8, 8, 8, 8, 8, 8, 8, 8, 8, 8, 8, 8, 8, 8, 8, 8, 8, 8, 8, 8, 8, 8, 8, 8, 8, 8, 8, 8, 8, 8, 8, 8, 8, 8, 8, 8, 8, 8, 8, 8, 8, 8, 8, 8, 8, 8]⟩ : ByteArray)[x.val]? = some (UInt8.ofNat (len8 x.val)) := by decide +kernel
theorem PK (x : UInt8) : (⟨#[0, 1, 2, 2, 3, 3, 3, 3, 4, 4, 4, 4, 4, 4, 4, 4, 5, 5, 5, 5, 5, 5, 5, 5, 5, 5, 5, 5, 5, 5, 5, 5, 6, 6, 6, 6, 6, 6, 6, 6, 6, 6, 6, 6, 6, 6, 6, 6, 6, 6, 6, 6, 6, 6, 6, 6, 6, 6, 6, 6, 6, 6, 6, 6, 7, 7, 7, 7, 7, 7, 7, 7, 7, 7, 7, 7, 7, 7, 7, 7, 7, 7, 7, 7, 7, 7, 7, 7, 7, 7, 7, 7, 7, 7, 7, 7, 7, 7, 7, 7, 7, 7, 7, 7, 7, 7, 7, 7, 7, 7, 7, 7, 7, 7, 7, 7, 7, 7, 7, 7, 7, 7, 7, 7, 7, 7, 7, 7, 8, 8, 8, 8, 8, 8, 8, 8, 8, 8, 8, 8, 8, 8, 8, 8, 8, 8, 8, 8, 8, 8, 8, 8, 8, 8, 8, 8, 8, 8, 8, 8, 8, 8, 8, 8, 8, 8, 8, 8, 8, 8, 8, 8, 8, 8, 8, 8, 8, 8, 8, 8, 8, 8, 8, 8, 8, 8, 8, 8, 8, 8, 8, 8, 8, 8, 8, 8, 8, 8, 8, 8, 8, 8, 8, 8, 8, 8, 8, 8, 8, 8, 8, 8, 8, 8, 8, 8, 8, 8, 8, 8, 8, 8, 8, 8, 8, 8, 8, 8, 8, 8, 8, 8, 8, 8, 8, 8, 8, 8, 8, 8, 8, 8, 8, 8, 8, 8, 8, 8, 8, 8, 8, 8, 8, 8, 8, 8]⟩ : ByteArray)[x.toNat]? = some (UInt8.ofNat (len8 x.toNat)) := PJ ⟨x.toNat, x.toNat_lt⟩
theorem zP : ∀ x : Fin 256, len8 x.val ≤ 8 ∧ (x.val ≠ 0 → 1 ≤ len8 x.val ∧ x.val.testBit (len8 x.val - 1) = true ∧ ∀ j : Fin 8, len8 x.val ≤ j.val → x.val.testBit j.val = false) := by decide +kernel
theorem BF (x : UInt8) : len8 x.toNat ≤ 8 := (zP ⟨x.toNat, x.toNat_lt⟩).1
theorem p8 (k : List UInt8) (i : Nat) : bH k i = ((k.getD (i / 8) 0).toNat.testBit (7 - i % 8)).toNat := by
 unfold bH
 rw [Nat.toNat_testBit]
theorem RP {a b : List UInt8} (ha : a.length = 32) (hb : b.length = 32) {i : Nat} (hi : i < 32) (he : ∀ j (h : j < i), a.getD j 0 = b.getD j 0) (hx : (a.getD i 0 ^^^ b.getD i 0).toNat ≠ 0) :
  AU a b (8 * i + (8 - len8 (a.getD i 0 ^^^ b.getD i 0).toNat)) := by
 have h1 := (zP ⟨(a.getD i 0 ^^^ b.getD i 0).toNat, UInt8.toNat_lt _⟩)
 have h2 := h1.2 hx
 dsimp only at h1 h2
 generalize hL : len8 (a.getD i 0 ^^^ b.getD i 0).toNat = L at *
 refine ⟨by omega, fun j hj => ?_, fun _ => ?_⟩
 ·
  rw [p8, p8]
  rcases Nat.lt_or_ge j (8 * i) with h | h
  ·
   rw [he (j / 8) (by omega)]
  ·
   have e : j / 8 = i := by omega
   have h3 := h2.2.2 ⟨7 - j % 8, by omega⟩ (by dsimp only; omega)
   rw [UInt8.toNat_xor, Nat.testBit_xor] at h3
   rw [e]
   congr 1
   dsimp only at h3
   revert h3
   cases (a.getD i 0).toNat.testBit (7 - j % 8) <;> cases (b.getD i 0).toNat.testBit (7 - j % 8) <;> simp
 ·
  rw [p8, p8, show (8 * i + (8 - L)) / 8 = i by omega, show 7 - (8 * i + (8 - L)) % 8 = L - 1 by omega]
  have h3 := h2.2.1
  rw [UInt8.toNat_xor, Nat.testBit_xor] at h3
  revert h3
  cases (a.getD i 0).toNat.testBit (L - 1) <;> cases (b.getD i 0).toNat.testBit (L - 1) <;> simp
theorem aCs (a b : UInt8) : IntKind.u8.wrap ((BitVec.ofInt IntKind.u8.bits (a.toNat : Int) ^^^ BitVec.ofInt IntKind.u8.bits (b.toNat : Int)).toNat : Int) = ((a ^^^ b).toNat : Int) := by
 rw [IB]
 have e : (BitVec.ofInt IntKind.u8.bits (a.toNat : Int) ^^^ BitVec.ofInt IntKind.u8.bits (b.toNat : Int)).toNat = (a ^^^ b).toNat := by
  show (BitVec.ofInt 8 (a.toNat : Int) ^^^ BitVec.ofInt 8 (b.toNat : Int)).toNat = _
  rw [BitVec.ofInt_natCast, BitVec.ofInt_natCast, BitVec.toNat_xor, UInt8.toNat_xor]
  have h1 := a.toNat_lt
  have h2 := b.toNat_lt
  simp
 rw [e]
 have := (a ^^^ b).toNat_lt
 omega
theorem bytes_eq {a b : List UInt8} (ha : a.length = 32) (hb : b.length = 32) (he : ∀ j, j < 32 → a.getD j 0 = b.getD j 0) : a = b := by
 apply List.ext_getElem (by omega)
 intro i h1 h2
 have := he i (by omega)
 rwa [jQ h1, jQ h2] at this
theorem aB3 {X : Nat → Prop} {w : World} {x : UInt8} (hX : cW X w) :
  bD Tryz.prog 206 [.int .u8 (x.toNat : Int)].toArray w fun v w' => v = .int .i64 (len8 x.toNat : Int) ∧ Out Nil w w' := by
 refine bD.aI (N := 6) Tryz.func206 rfl rfl (by simp) ?_
 have H := St.begin hX
 have hle := BF x
 refine WE.aA (WL.as rfl rfl (WL.nil (WE.aA (WL.mv rfl rfl (WL.pv (PV.DQ (i := x.toNat) rfl (by kernel_rfl) rfl rfl (PK x)) rfl ?_)))))
 refine WL.pv (PV.eq (v' := .int .i64 ((len8 x.toNat : Nat) : Int)) (PV.mL rfl pI yD rfl (by omega) (by have := (UInt8.ofNat (len8 x.toNat)).toNat_lt; omega)) (by congr 1; rw [UInt8.toNat_ofNat_of_lt' (by show _ < 256; omega)])) rfl ?_
 refine WL.as rfl rfl (WL.nil (WE.ret ⟨[_], _, .nil _, ⟨rfl, trivial⟩, ?_⟩))
 exact ⟨rfl, H.aM⟩
theorem aGq {X : Nat → Prop} {w : World} {x : UInt8} (hX : cW X w) :
  bD Tryz.prog 195 [.int .u8 (x.toNat : Int)].toArray w fun v w' => v = .int .i64 ((8 - len8 x.toNat : Nat) : Int) ∧ Out Nil w w' := by
 refine bD.aI (N := 6) Tryz.func195 rfl rfl (by simp) ?_
 have H := St.begin hX
 have hle := BF x
 refine WE.aA (WL.as rfl rfl (WL.nil (WE.aA (WL.mv rfl rfl ?_))))
 refine WL.call aET rfl (aB3 (x := x) H.aS  ) ?_
 rintro _ w1 ⟨rfl, hO⟩
 replace H := H.out hO
 refine WL.pv (PV.iT rfl rfl rfl (by omega) (by omega)) rfl (WL.as rfl rfl (WL.nil (WE.ret ⟨[_], _, .nil _, ⟨rfl, trivial⟩, ?_⟩)))
 refine ⟨?_, H.aM⟩
 show Value.int .i64 _ = Value.int .i64 _
 congr 1; omega
theorem yA {X : Nat → Prop} {w : World} {a b : List UInt8} (hX : cW X w) (ha : a.length = 32) (hb : b.length = 32) :
  bD Tryz.prog 164 [.agg (kc a).toArray, .agg (kc b).toArray].toArray w fun v w' => v = .int .i64 (fF a b : Int) ∧ Out Nil w w' := by
 refine bD.aI (N := 28) Tryz.func164 rfl rfl (by simp) ?_
 have H := St.begin hX
 refine WE.aA ?_
 refine WL.box (l := kc a) H rfl (by rfl) rfl ?_
 intro b2 w1 H
 refine WL.box (l := kc b) H rfl (by rfl) rfl ?_
 intro b3 w2 H
 refine WL.as rfl rfl (WL.nil (WE.seq (WE.aA ?_)))
 refine WL.bG rfl cU rfl rfl (by exact aK.aF (H.l 1 rfl) (aJ.all _) (by rfl)) (cI cN (by simp only [aR, aU, aB]; omega)) ?_
 refine WL.bG rfl cU rfl rfl (by exact aK.aF (H.l 0 rfl) (aJ.all _) (by rfl)) (cI cN (by simp only [aR, aU, aB]; omega)) ?_
 refine WL.pv (PV.EI rfl gQ pI iB (by kernel_rfl) rfl rfl (by assumption) (by assumption)) rfl (WL.nil ?_)
 refine WE.cond rfl (fun xA => ?_) (fun xA => ?_)
 ·
  try simp only [bW] at xA
  have hab : a = b := by exact xA
  refine WE.aA (WL.as rfl rfl (WL.nil (WE.ret ⟨[_], _, .nil _, ⟨rfl, trivial⟩, ?_⟩)))
  refine ⟨?_, H.aM⟩
  show Value.int .i64 _ = Value.int .i64 _
  have := (nH ha hb).2 hab
  have := JW a b
  congr 1; omega
 ·
  try simp only [bW] at xA
  have hab : a ≠ b := by exact xA
  refine WE.skip (WE.seq (WE.aA (WL.mv rfl rfl (WL.nil (WE.block ?_)))))
  refine WE.loop (α := Nat) [4, 5, 6, 10, 11, 12, 13, 14, 15, 16, 17, 18, 19, 20, 21, 22, 23, 24, 25, 26, 27] (fun i => [(10, .int .i64 i)]) (fun i wl => i ≤ 32 ∧ (∀ j, j < i → a.getD j 0 = b.getD j 0) ∧ St X w wl [] [aO.blk b3 24 (kc b), aO.blk b2 24 (kc a)] []) (fun i => 32 - i) 0 ⟨rfl, trivial⟩ ⟨Nat.zero_le _, fun _ h => by omega, H⟩ ?_
  intro i γ0 w3 hI
  try dsimp only at hI
  obtain ⟨hle, hall, H⟩ := hI
  refine WE.aA (WL.pv (PV.lss rfl rfl rfl) rfl (WL.nil (WE.seq ?_)))
  refine WE.cond rfl (fun kC => ?_) (fun kC => ?_)
  ·
   try simp only [bW] at kC
   have hlt : i < 32 := by omega
   refine WE.skip (WE.seq (WE.block (WE.aA (WL.mv rfl rfl (WL.as rfl rfl (WL.nil ?_))))))
   refine WE.bF (.take 0 (.take 1 (.take 2 (.take 3 (.take 4 (.take 5 (.take 6 (.take 7 .done)))))))) mixed (by kernel_rfl) ?_
   replace H := H.out (Out.drew _)
   refine WP.mv rfl rfl rfl (WP.aC rfl rfl (PV.cG rfl gQ iB rfl rfl (by omega) (by omega)) (WP.aQ rfl rfl (RV.aY rfl B7 rfl) (aK.RX (H.l 1 rfl) i (by omega) (by omega)) (WP.mv rfl rfl rfl (WP.aC rfl rfl (PV.cG rfl gQ iB rfl rfl (by omega) (by omega)) (WP.aQ rfl rfl (RV.aY rfl B7 rfl) (aK.RX (H.l 0 rfl) i (by omega) (by omega)) ?_)))))
   refine WP.aC rfl rfl (PV.eq (v' := .int .u8 ((a.getD i 0 ^^^ b.getD i 0).toNat : Int)) (PV.aAn rfl rfl rfl) (congrArg (Value.int .u8) (aCs _ _))) ?_
   refine WP.as rfl rfl rfl (WP.done (WE.aA (WL.mv rfl rfl (WL.pv (PV.neq rfl rfl rfl) rfl (WL.nil ?_)))))
   refine WE.cond rfl (fun oE => ?_) (fun oE => ?_)
   ·
    try simp only [bW] at oE
    have hx : (a.getD i 0 ^^^ b.getD i 0).toNat ≠ 0 := by omega
    have aJm := BF (a.getD i 0 ^^^ b.getD i 0)
    refine WE.aA (WL.mv rfl rfl (WL.pv (PV.qJ rfl rfl rfl (by omega) (by omega)) rfl (WL.mv rfl rfl ?_)))
    refine WL.call aEW rfl (aGq (x := a.getD i 0 ^^^ b.getD i 0) H.aS  ) ?_
    rintro _ w4 ⟨rfl, hO⟩
    replace H := H.out hO
    refine WL.pv (PV.bZ rfl rfl rfl (by omega) (by omega)) rfl (WL.as rfl rfl (WL.nil (WE.ret ⟨[_], _, .nil _, ⟨rfl, trivial⟩, ?_⟩)))
    refine ⟨?_, H.aM⟩
    show Value.int .i64 _ = Value.int .i64 _
    rw [(oJ a b).uniq (RP ha hb hlt hall hx)]
    congr 1 <;> omega
   ·
    try simp only [bW] at oE
    have hx : (a.getD i 0 ^^^ b.getD i 0).toNat = 0 := by omega
    have TP : a.getD i 0 = b.getD i 0 := UInt8.xor_eq_zero_iff.1 (UInt8.toNat_inj.1 hx)
    refine WE.skip (WE.eM (WL.pv (PV.bZ rfl rfl rfl (by omega) (by omega)) rfl (WL.mv rfl rfl (WL.nil ?_))))
    exact ⟨i + 1, (by repeat (first | with_reducible exact bQ.refl _ _ | refine bQ.dB rfl ?_ | refine bQ.cE rfl ?_ | refine bQ.cB rfl ?_)), ⟨rfl, trivial⟩, rfl, ⟨by omega, fun j hj => by (by_cases e : j = i; (subst e; exact TP); exact hall j (by omega)), H⟩, (by omega)⟩
  ·
   try simp only [bW] at kC
   have hend : i = 32 := by omega
   refine WE.exit (WE.aA (WL.as rfl rfl (WL.nil (WE.ret ⟨[_], _, .nil _, ⟨rfl, trivial⟩, ?_⟩))))
   exact absurd (bytes_eq ha hb fun j hj => hall j (by omega)) hab
theorem OT {a b : List UInt8} {d : Nat} (h : num a ≤ num b) : pre d a ≤ pre d b := Nat.div_le_div_right h
theorem LD {a b : List UInt8} {d : Nat} (h : pre d a < pre d b) : num a < num b := by
 rcases Nat.lt_or_ge (num a) (num b) with hl | hl
 ·
  exact hl
 ·
  exact absurd (OT (d := d) hl) (by omega)
theorem LF {a b : List UInt8} {d : Nat} (ha : a.length = 32) (hb : b.length = 32) (hd : d < 256) (hp : pre d a = pre d b) (h0 : bH a d = 0) (h1 : bH b d = 1) : num a < num b := by
 apply LD (d := d + 1)
 rw [kP a ha d hd, kP b hb d hd, hp, h0, h1]
 omega
theorem x6 {X : Nat → Prop} {w : World} {bh bc : Nat} {bits n : Int} {k lv : List UInt8} {s : Value} (hX : cW X w) (eR : aK w bc 213 ([.int .i64 n])) (bU : aH (fun c_ => X c_ ∨ c_ = bc) (fJ bh bc bits) w) (dA : aH (fun c_ => X c_ ∨ c_ = bc) (aW) w) (bS : 0 ≤ bits ∧ bits ≤ 256) (wX : lv.length ≤ 1000000) (hk : k.length = 32) (hw : aH (fun c => c = bc) (bI s lv) w) :
  bD Tryz.prog 137 [.pointer (some ⟨bh, 0, none⟩), .agg (kc k ++ [s]).toArray].toArray w fun v w' => ∃ (T : Tr) (m : Int), v = T.ptr ∧ T.er = .leaf k lv ∧ Out (· = bc) w w' ∧ aK w' bc 213 [.int .i64 m] ∧ aH (fun c => X c ∨ c = bc) (cQ bits T) w' := by
 refine bD.aI (N := 18) Tryz.func137 rfl rfl (by simp) ?_
 have H := St.c6 (b := bc) (t := 213) (l := [.int .i64 n]) hX eR
 replace H := H.add (bY dA)
 replace H := H.add (bY bU)
 have JB := fY bits lv
 have hs1 : s.oneCell' = true := cS.fG hw.here
 refine WE.aA ?_
 refine WL.box (l := kc k ++ [s]) H rfl (rfl) rfl ?_
 intro b3 w1 H
 refine WL.as rfl rfl (WL.nil ?_)
 refine WE.bF (.take 0 (.take 1 (.take 2 (.take 3 (.take 4 (.take 5 (.take 7 (.take 8 (.aG 6 (.aG 9 (.take 10 (.take 11 (.aG 12 (.take 13 .done)))))))))))))) mixed (by kernel_rfl) ?_
 replace H := H.out (Out.drew _)
 refine WP.mv rfl rfl rfl (WP.mv rfl rfl rfl (WP.aC rfl rfl (PV.fieldAddr rfl gW rfl) ?_))
 refine WP.dF rfl rfl rfl cU rfl (by exact aK.aF (H.l 0 rfl) (aJ.l (aJ.all _)) (by rfl)) (cI cN (by simp only [aR, aU, aB]; omega)) ?_
 refine WP.aC rfl rfl (PV.fieldAddr rfl p4 rfl) ?_
 refine WP.aQ rfl rfl (RV.aY rfl eL rfl) (by exact aK.aF (H.l 0 rfl) (aJ.r (aJ.all _) (by with_reducible rfl)) (by (simp [aN, bA, *]; done))) ?_
 refine WP.aC rfl rfl (PV.fieldAddr rfl p4 rfl) ?_
 refine WP.aQ rfl rfl (RV.aY rfl eL rfl) (by exact aK.aF (H.l 0 rfl) (aJ.r (aJ.all _) (by with_reducible rfl)) (by (simp [aN, bA, *]; done))) ?_
 refine WP.aG rfl ?_
 refine WL.call aE4 rfl (SZ (X := Nil) (k := k) (la := lv) (mY _) (H.o 0 rfl) (by exact (H.aL 0 rfl 0 rfl).wk) ((H.CO H.l5 hw rfl).FH) (by exact (H.aL 0 rfl 1 rfl).wk) bS wX hk) ?_
 rintro _ w2 ⟨m1, rfl, hO, hB⟩
 replace H := H.eS 0 rfl hO hB
 refine WL.nil ⟨(fa (fun _ _ => (by exact aK.aF (H.l 0 rfl) (aJ.r (aJ.all _) (by with_reducible rfl)) (by (simp [aN, bA, *]; done)))) (fa (nw 6 5 (by decide +kernel)) (fa (nw 6 3 (by decide +kernel)) cV))), ?_⟩
 refine WP.aG rfl ?_
 refine WL.call Z2 rfl (FF (X := Nil) (la := lv) (mY _) ((H.CO H.l5 hw rfl).wk0) (by omega)) ?_
 rintro s2 w3 ⟨hO, gT⟩
 have hr_ := (pT H.aS gT).imp fun _ h => bI.eH h
 replace H := (H.out hO).add hr_
 refine WL.nil ⟨(fa (nw 9 8 (by decide +kernel)) (fa (nw 9 5 (by decide +kernel)) (fa (nw 9 3 (by decide +kernel)) cV))), ?_⟩
 refine WP.aC rfl rfl (PV.dD rfl YR HZ (Fl.cons rfl (by rfl) (by simp only [aR, aU, aB]; omega) (Laid.left (Laid.all (by simp only [aR, aU, aB]; omega))) (Fl.cons rfl (cS.cells (H.p 0 rfl)) (by simp only [aR, aU, aB]) (Laid.right (Laid.all (by simp only [aR, aU, aB])) (by simp only [aR, aU, aB]; omega)) Fl.nil))) ?_
 refine WP.aC rfl rfl (PV.I3 rfl EO) (WP.aG rfl ?_)
 refine WL.call ZT rfl (FQ (k := k) (d := mQ bits lv) (s := s2) H.aS (H.o 0 rfl) (by exact H.aL 0 rfl 1 rfl) (by exact H.aL 0 rfl 2 rfl) bS hk JB) ?_
 rintro _ w4 ⟨a2, m2, rfl, hO, hB, hR⟩
 replace H := H.c9 0 rfl hO hB hR
 refine WL.nil ⟨(fa (nw 12 8 (by decide +kernel)) (fa (nw 12 5 (by decide +kernel)) (fa (nw 12 3 (by decide +kernel)) cV))), ?_⟩
 refine WP.as rfl rfl rfl (WP.done (WE.ret ⟨[_], _, .nil _, ⟨rfl, trivial⟩, ?_⟩))
 exact ⟨.leaf a2 k lv s2, m2, rfl, rfl, H.cM, H.o 0 rfl, (H.fM ((H.bN 0 rfl).and (H.bN 1 rfl))).imp fun _ h => ⟨hk, h.2, wX, h.1⟩⟩
structure Ong (C : Nat → Prop) (W0 w : World) : Prop where
 os : w.os = W0.os
 tape : w.tape = W0.tape
 output : w.output = W0.output
 size : W0.heap.size ≤ w.heap.size
 old : ∀ b, b < W0.heap.size → ¬ C b → w.heap[b]? = W0.heap[b]?
def aGj (P : Program) (g : FuncId) (fs cs : List Value) (n : Nat) (V : Nat → List Value → World → Prop) (C : Nat → Prop) (W0 : World) : Prop :=
 ∀ (f : Value) (J : Nat → World → Prop) (Jx : World → Prop), J 0 W0 → (∀ i W W', J i W → Out Nil W W' → J i W') → (∀ W W', Jx W → Out Nil W W' → Jx W') →
  (∀ i xs W W2, i < n → J i W → Out Nil W W2 → aH (· < W.heap.size) (V i xs) W2 → eU P f xs W2 fun v W' => Kept Nil C W0 W2 W' ∧ ((v = .bool true ∧ J (i + 1) W') ∨ (v = .bool false ∧ Jx W'))) → MW f →
  bD P g (fs ++ [f] ++ cs).toArray W0 fun v W' => v = .tuple #[] ∧ (J n W' ∨ Jx W')
structure aAk (C : Nat → Prop) (w : World) (l : Nat) (W W' : World) : Prop where
 os : W'.os = W.os
 tape : W'.tape = W.tape
 output : W'.output = W.output
 size : w.heap.size + 2 ≤ W'.heap.size
 old : ∀ b, b < w.heap.size → ¬ C b → W'.heap[b]? = W.heap[b]?
 loop : W'.heap[l]? = W.heap[l]?
theorem MA (x : UInt8) (a b : List UInt8) (h : a.length = b.length) : gP (x :: a) (x :: b) = gP a b := by
 unfold gP
 rw [kQ, kQ, h]
 simp only [Nat.add_lt_add_iff_left]
theorem kF : ∀ (a b : List UInt8), a.length = b.length → Lib.compareBytes a b = gP a b
 | [], [], _ => by simp [Lib.compareBytes, gP]
 | [], _ :: _, h => by cases h
 | _ :: _, [], h => by cases h
 | x :: a, y :: b, h => by
  have hl : a.length = b.length := by simpa using h
  unfold Lib.compareBytes
  by_cases h1 : x < y
  ·
   rw [if_pos h1]
   have := pV (a := x :: a) (b := y :: b) h 0 (by simp) rfl (UInt8.lt_iff_toNat_lt.1 h1)
   rw [gP, if_pos this]
  ·
   rw [if_neg h1]
   by_cases h2 : y < x
   ·
    rw [if_pos h2]
    have := pV (a := y :: b) (b := x :: a) h.symm 0 (by simp) rfl (UInt8.lt_iff_toNat_lt.1 h2)
    rw [gP, if_neg (by omega), if_pos this]
   ·
    rw [if_neg h2]
    have e : x = y := by
     have h3 : ¬ x.toNat < y.toNat := fun h => h1 (UInt8.lt_iff_toNat_lt.2 h)
     have h4 : ¬ y.toNat < x.toNat := fun h => h2 (UInt8.lt_iff_toNat_lt.2 h)
     exact UInt8.toNat_inj.1 (by omega)
    subst e
    rw [kF a b hl, MA _ _ _ hl]
theorem xQ {X : Nat → Prop} {w : World} {a b : Value} {la lb : List UInt8} (hX : cW X w) (bU : aH X (bI a la) w) (dA : aH X (bI b lb) w) :
  bD Tryz.prog 143 [a, b].toArray w fun v w' => v = .int .i64 (Lib.compareBytes la lb) ∧ Out Nil w w' := by
 refine bD.aI (N := 8) Tryz.func143 rfl rfl (by simp) ?_
 have H := St.begin hX
 replace H := H.add (cF dA)
 replace H := H.add (cF bU)
 refine WE.aA (WL.as rfl rfl (WL.nil (WE.aA (WL.mv rfl rfl (WL.mv rfl rfl ?_)))))
 refine WL.extern (e := Extern.BytealgCompare.compare) (v := .int .i64 (Lib.compareBytes la lb)) Tryz.func184 (by kernel_rfl) (by kernel_rfl) (by kernel_rfl) (by kernel_rfl) rfl (rX (H.p 0 rfl) (H.p 1 rfl)) ?_
 refine WL.as rfl rfl (WL.nil (WE.ret ⟨[_], _, .nil _, ⟨rfl, trivial⟩, ?_⟩))
 exact ⟨rfl, H.aM⟩
theorem qR {X : Nat → Prop} {w : World} {k l : List UInt8} (hX : cW X w) (hk : k.length = 32) (hl : l.length = 32) :
  bD Tryz.prog 94 [.agg (kc k).toArray, .agg (kc l).toArray].toArray w fun v w' => v = .int .i64 (gP k l) ∧ Out Nil w w' := by
 refine bD.aI (N := 8) Tryz.func94 rfl rfl (by simp) ?_
 have H := St.begin hX
 refine WE.aA ?_
 refine WL.box (l := kc k) H rfl (by rfl) rfl ?_
 intro b2 w1 H
 refine WL.box (l := kc l) H rfl (by rfl) rfl ?_
 intro b3 w2 H
 refine WL.as rfl rfl (WL.nil ?_)
 refine WE.bF (.take 0 (.take 1 (.aG 2 (.take 3 .done)))) mixed (by kernel_rfl) ?_
 replace H := H.out (Out.drew _)
 replace H := H.freeze (i := 0) rfl
 replace H := H.freeze (i := 0) rfl
 replace H := H.rM [1, 0]
 refine WP.aC rfl rfl (PV.fP rfl gQ (by rw [iB]; rfl) rfl) ?_
 refine WP.aC rfl rfl (PV.fP rfl gQ (by rw [iB]; rfl) rfl) ?_
 refine WP.aG rfl ?_
 refine WL.call ZX rfl (xQ (la := k) (lb := l) H.aS ((H.bN 1 rfl).imp fun _ h => bI.cA h hk) ((H.bN 0 rfl).imp fun _ h => bI.cA h hl)) ?_
 rintro _ w3 ⟨rfl, hO⟩
 replace H := H.out hO
 rw [kF k l (by rw [hk, hl])]
 refine WL.nil ⟨cV, ?_⟩
 refine WP.as rfl rfl rfl (WP.done (WE.ret ⟨[_], _, .nil _, ⟨rfl, trivial⟩, ?_⟩))
 exact ⟨rfl, H.aM⟩
theorem k7.part {m : List En} {d b : Nat} (h : k7 m) : k7 (bR m d b) := h.filter _
theorem oB {d : Nat} {m : List En} (h : Pm d m) (hd : d < 256) : jW (grow (d + 1) (bR m d 0)) (grow (d + 1) (bR m d 1)) = grow d m := by
 match m, h with
 | [], _ => simp [bR, eD, jW]
 | [e], _ =>
  have hb := eA e.k d
  rw [dI]
  by_cases h0 : bH e.k d = 0
  ·
   have e0 : bR [e] d 0 = [e] := by simp [bR, h0]
   have e1 : bR [e] d 1 = [] := by simp [bR, h0]
   rw [e0, e1, dI, eD]; rfl
  ·
   have e0 : bR [e] d 0 = [] := by simp [bR, h0]
   have e1 : bR [e] d 1 = [e] := by simp [bR]; omega
   rw [e0, e1, dI, eD]; rfl
 | a :: b :: m, h =>
  rw [jF d _ hd (by simp)]
  exact DP (by rw [(h.part hd 0).fU, (h.part hd 1).fU, mV]; simp)
theorem rZ (m : List En) (k : List UInt8) (d b : Nat) : bR (eY m k) d b = eY (bR m d b) k := by
 unfold bR eY
 rw [List.filter_filter, List.filter_filter]
 apply List.filter_congr
 intro e _
 rw [Bool.and_comm]
theorem tE {m : List En} {k : List UInt8} {d b : Nat} (hb : bH k d ≠ b) : eY (bR m d b) k = bR m d b := by
 unfold eY
 rw [List.filter_eq_self]
 intro e he
 have := (hZ.1 he).2
 simp
 rintro rfl
 exact hb this
theorem PR {e x : En} {l : List En} (h : num e.k < num x.k) : ins e (x :: l) = e :: x :: l := if_pos h
theorem PS {e x : En} {l : List En} (h : ¬ num e.k < num x.k) : ins e (x :: l) = x :: ins e l := if_neg h
theorem wS {e : En} {p : En → Bool} : ∀ {l : List En}, k7 l → (ins e l).filter p = if p e then ins e (l.filter p) else l.filter p := by
 intro l
 induction l with
 | nil => intro _; cases hp : p e <;> simp [ins, hp]
 | cons x l ih =>
  intro hs
  have h1 := List.pairwise_cons.1 hs
  by_cases hl : num e.k < num x.k
  ·
   rw [PR hl]
   cases hp : p e
   ·
    simp [List.filter_cons, hp]
   ·
    rw [List.filter_cons_of_pos hp, if_pos rfl]
    have hall : ∀ y ∈ (x :: l).filter p, num e.k < num y.k := fun y hy => by
     rcases List.mem_cons.1 (List.mem_filter.1 hy).1 with rfl | hy
     ·
      exact hl
     ·
      exact Nat.lt_trans hl (h1.1 y hy)
    generalize (x :: l).filter p = q at *
    cases q with
    | nil => rfl
    | cons y q => exact (PR (hall y (by simp))).symm
  ·
   rw [PS hl, List.filter_cons, ih h1.2]
   cases hx : p x
   ·
    rw [List.filter_cons, hx]; rfl
   ·
    rw [List.filter_cons, hx]
    cases hp : p e
    ·
     rfl
    ·
     show x :: ins e _ = ins e (x :: _)
     rw [PS hl]
theorem zD {m : List En} {e : En} {d : Nat} (hs : k7 m) : bR (gL m e) d (bH e.k d) = gL (bR m d (bH e.k d)) e := by
 unfold gL
 have := wS (e := e) (p := fun x => bH x.k d == bH e.k d) (hs.filter (p := fun x => decide (x.k ≠ e.k)))
 unfold bR
 show List.filter _ (ins e (eY m e.k)) = _
 rw [show eY m e.k = m.filter fun x => decide (x.k ≠ e.k) from rfl, this]
 rw [if_pos (by simp)]
 congr 1
 exact rZ m e.k d (bH e.k d)
theorem wG {m : List En} {e : En} {d b : Nat} (hs : k7 m) (hb : bH e.k d ≠ b) : bR (gL m e) d b = bR m d b := by
 have := wS (e := e) (p := fun x => bH x.k d == b) (hs.filter (p := fun x => decide (x.k ≠ e.k)))
 unfold bR gL
 rw [show eY m e.k = m.filter fun x => decide (x.k ≠ e.k) from rfl, this]
 rw [if_neg (by simpa using hb)]
 have h2 : bR (eY m e.k) d b = bR m d b := by rw [rZ, tE hb]
 exact h2
def u5 (d : Nat) (m : List En) (k : List UInt8) : Prop := ∀ e ∈ m, d ≤ fF e.k k
theorem u5.part {d : Nat} {m : List En} {k : List UInt8} (h : u5 d m k) (hd : d < 256) : u5 (d + 1) (bR m d (bH k d)) k := fun e he =>
 (AD hd).2 ⟨h e (hZ.1 he).1, (hZ.1 he).2⟩
theorem u5.zero (m : List En) (k : List UInt8) : u5 0 m k := fun _ _ => Nat.zero_le _
theorem aAJ {d : Nat} {m : List En} {e : En} (h : Pm d m) (hs : k7 m) (he : e.k.length = 32) (hn : u5 d m e.k) : Pm d (gL m e) where
 le := h.le
 kl := A5 h.kl he
 L9 := (wF hs h.kl he).L9
 Z6 := by
  have hp : ∀ x ∈ gL m e, pre d x.k = pre d e.k := fun x hx => by
   rcases mZ.1 hx with rfl | ⟨hx, _⟩
   ·
    rfl
   ·
    exact (A7 (h.kl x hx) he d h.le).2 (hn x hx)
  intro a ha b hb
  rw [hp a ha, hp b hb]
def FJ (k : List UInt8) (d : Nat) (n b : Sh) : Sh := if bH k d = 0 then jW n b else jW b n
theorem BH (k : List UInt8) (d : Nat) (n b : Sh) : (FJ k d n b).fU = n.fU + b.fU := by unfold FJ; split <;> rw [LK]; omega
def uK (k : List UInt8) (a b : Sh) : Nat → Nat → Sh
 | 0, c => FJ k c a b
 | f + 1, d => FJ k d (uK k a b f (d + 1)) .nil
theorem K7 {a b : En} (ha : a.k.length = 32) (hb : b.k.length = 32) (hne : num a.k ≠ num b.k) : ∀ (f d : Nat), d + f = fF a.k b.k → ∀ m : List En, (m = [a, b] ∨ m = [b, a]) → uK a.k (.leaf a.k a.v) (.leaf b.k b.v) f d = grow d m := by
 have hc : fF a.k b.k < 256 := by
  rcases Nat.lt_or_ge (fF a.k b.k) 256 with h | h
  ·
   exact h
  ·
   exact absurd (congrArg num ((nH ha hb).1 h)) hne
 have qK : ∀ d, d ≤ fF a.k b.k → ∀ m : List En, (m = [a, b] ∨ m = [b, a]) → Pm d m := fun d hd m hm => by
  have hpre := (A7 ha hb d (by omega)).2 hd
  refine ⟨by omega, ?_, ?_, ?_⟩
  ·
   rcases hm with rfl | rfl <;> (intro e he; simp at he; rcases he with rfl | rfl <;> assumption)
  ·
   rcases hm with rfl | rfl <;> simp <;> first | exact hne | exact hne.symm
  ·
   intro x hx y hy
   have h1 : ∀ z ∈ m, pre d z.k = pre d a.k := by rcases hm with rfl | rfl <;> (intro z hz; simp at hz; rcases hz with rfl | rfl <;> simp [hpre])
   rw [h1 x hx, h1 y hy]
 intro f
 induction f with
 | zero =>
  intro d hd m hm
  have VU : d < 256 := by omega
  have VX : bH a.k d ≠ bH b.k d := by rw [show d = fF a.k b.k by omega]; exact (oJ a.k b.k).ne hc
  have h1 := eA a.k d
  have h2 := eA b.k d
  rw [jF d m VU (by rcases hm with rfl | rfl <;> simp)]
  show FJ a.k d _ _ = _
  unfold FJ
  by_cases h0 : bH a.k d = 0
  ·
   have FL : bH b.k d = 1 := by omega
   have e0 : bR m d 0 = [a] := by rcases hm with rfl | rfl <;> simp [bR, h0, FL]
   have e1 : bR m d 1 = [b] := by rcases hm with rfl | rfl <;> simp [bR, h0, FL]
   rw [if_pos h0, e0, e1, dI, dI]; rfl
  ·
   have ha1 : bH a.k d = 1 := by omega
   have zS : bH b.k d = 0 := by omega
   have e0 : bR m d 0 = [b] := by rcases hm with rfl | rfl <;> simp [bR, ha1, zS]
   have e1 : bR m d 1 = [a] := by rcases hm with rfl | rfl <;> simp [bR, ha1, zS]
   rw [if_neg h0, e0, e1, dI, dI]; rfl
 | succ f ih =>
  intro d hd m hm
  have VU : d < 256 := by omega
  have VX : bH a.k d = bH b.k d := (oJ a.k b.k).eq d (by omega)
  have h1 := eA a.k d
  show FJ a.k d _ _ = _
  have hp : bR m d (bH a.k d) = m := by rcases hm with rfl | rfl <;> simp [bR, VX]
  have hq : bR m d (1 - bH a.k d) = [] := by
   have : bH b.k d ≠ 1 - bH b.k d := by rw [← VX]; omega
   rcases hm with rfl | rfl <;> simp [bR, VX, this]
  have hl : 2 ≤ m.length := by rcases hm with rfl | rfl <;> simp
  rw [ih (d + 1) (by omega) m hm]
  rw [← oB (qK d (by omega) m hm) VU]
  unfold FJ
  by_cases h0 : bH a.k d = 0
  ·
   rw [if_pos h0]
   rw [h0] at hp hq
   rw [hp, show bR m d 1 = [] from hq, eD]
  ·
   have ha1 : bH a.k d = 1 := by omega
   rw [if_neg h0]
   rw [ha1] at hp hq
   rw [hp, show bR m d 0 = [] from hq, eD]
def r5 (k v : List UInt8) : Nat → Sh → Sh
 | _, .nil => .leaf k v
 | d, .leaf q u => if q = k then .leaf k v else uK q (.leaf q u) (.leaf k v) (fF q k - d) d
 | d, .inner l r => if bH k d = 0 then jW (r5 k v (d + 1) l) r else jW l (r5 k v (d + 1) r)
theorem K3 (e : En) (he : e.k.length = 32) : ∀ (n d : Nat) (m : List En), 256 - d = n → Pm d m → k7 m → u5 d m e.k → r5 e.k e.v d (grow d m) = grow d (gL m e) := by
 intro n
 induction n with
 | zero =>
  intro d m hn hp hs FK
  match m, hp, hs, FK with
  | [], _, _, _ => rw [eD]; exact (dI d e).symm
  | [x], hp, hs, FK =>
   rw [dI]
   have hx := hp.kl x (by simp)
   have BQ := FK x (by simp)
   have hd := hp.le
   have TP : x.k = e.k := (nH hx he).1 (by omega)
   show (if x.k = e.k then _ else _) = _
   rw [if_pos TP]
   have : gL [x] e = [e] := by simp [gL, eY, TP, ins]
   rw [this, dI]
  | a :: b :: m, hp, _, _ => have := hp.lt (by simp); omega
 | succ n ih =>
  intro d m hn hp hs FK
  match m, hp, hs, FK with
  | [], _, _, _ => rw [eD]; exact (dI d e).symm
  | [x], hp, hs, FK =>
   rw [dI]
   have hx := hp.kl x (by simp)
   have BQ := FK x (by simp)
   show (if x.k = e.k then _ else _) = _
   by_cases TP : x.k = e.k
   ·
    rw [if_pos TP]
    have : gL [x] e = [e] := by simp [gL, eY, TP, ins]
    rw [this, dI]
   ·
    rw [if_neg TP]
    refine K7 hx he (fun h => TP (sA _ _ (by rw [hx, he]) h)) _ d (by omega) _ ?_
    have : eY [x] e.k = [x] := by simp [eY, TP]
    unfold gL
    rw [this]
    unfold ins
    split
    ·
     exact .inr rfl
    ·
     exact .inl rfl
  | a :: b :: m, hp, hs, FK =>
   have hd := hp.lt (by simp)
   have hb := eA e.k d
   have aHd := aAJ hp hs he FK
   rw [← oB aHd hd, jF d _ hd (by simp)]
   show (if bH e.k d = 0 then _ else _) = _
   by_cases h0 : bH e.k d = 0
   ·
    rw [if_pos h0]
    have hpt := zD (d := d) (e := e) hs
    have hot := wG (d := d) (b := 1) (e := e) hs (by omega)
    have hnp := FK.part hd
    rw [h0] at hpt hnp
    rw [hpt, hot, ih (d + 1) _ (by omega) (hp.part hd 0) hs.part hnp]
   ·
    have h1 : bH e.k d = 1 := by omega
    rw [if_neg h0]
    have hpt := zD (d := d) (e := e) hs
    have hot := wG (d := d) (b := 0) (e := e) hs (by omega)
    have hnp := FK.part hd
    rw [h1] at hpt hnp
    rw [hpt, hot, ih (d + 1) _ (by omega) (hp.part hd 1) hs.part hnp]
theorem wD {d : Nat} {m : List En} (e : En) (he : e.k.length = 32) (hp : Pm d m) (hs : k7 m) (hn : u5 d m e.k) : r5 e.k e.v d (grow d m) = grow d (gL m e) := K3 e he _ d m rfl hp hs hn
theorem OH {d : Nat} {m : List En} {k : List UInt8} (h : Pm d m) : Pm d (eY m k) where
 le := h.le
 kl := OK h.kl
 L9 := h.L9.filter _
 Z6 := fun a ha b hb => h.Z6 a (iO.1 ha).1 b (iO.1 hb).1
def TL (k : List UInt8) : Nat → List Sh → Sh → Sh
 | _, [], e => e
 | d, b :: bs, e => FJ k d (TL k (d + 1) bs e) b
theorem NU (k : List UInt8) (d : Nat) (bs : List Sh) (e : Sh) (i : Nat) (h : i < bs.length) : TL k (d + i) (bs.drop i) e = FJ k (d + i) (TL k (d + (i + 1)) (bs.drop (i + 1)) e) bs[i] := by
 rw [List.drop_eq_getElem_cons h]
 rfl
theorem IG (k : List UInt8) (e : Sh) : ∀ (bs : List Sh) (d : Nat), (TL k d bs e).fU = e.fU + (bs.map Sh.fU).sum
 | [], _ => by simp [TL]
 | b :: bs, d => by show (FJ k d _ _).fU = _; rw [BH, IG k e bs]; simp; omega
def nK (T : Tr) (k : List UInt8) (d n : Nat) : List Tr := (List.range n).map fun j => (T.iF k d j).beside k (j + d)
theorem xS (T : Tr) (k : List UInt8) (d n : Nat) : (nK T k d n).length = n := by simp [nK]
theorem MI (T : Tr) (k : List UInt8) (d n : Nat) : nK T k d (n + 1) = nK T k d n ++ [(T.iF k d n).beside k (n + d)] := by simp [nK, List.range_succ]
theorem AK (T : Tr) (k : List UInt8) (d n : Nat) : nK T k d (n + 1) = T.beside k d :: nK (T.step k d) k (d + 1) n := by
 unfold nK
 rw [List.range_succ_eq_map, List.map_cons, List.map_map]
 congr 1
 ·
  show T.beside k (0 + d) = _; rw [Nat.zero_add]
 ·
  apply List.map_congr_left
  intro j _
  show (T.iF k d (j + 1)).beside k (j + 1 + d) = (Tr.iF k (d + 1) (T.step k d) j).beside k (j + (d + 1))
  rw [Tr.nM, show j + 1 + d = j + (d + 1) by omega]
theorem F0 (k v : List UInt8) {d : Nat} {T : Tr} (h : T.er.kind = 2) : r5 k v d T.er = FJ k d (r5 k v (d + 1) (T.step k d).er) (T.beside k d).er := by
 obtain ⟨a, l, r, rfl⟩ := Tr.zQ h
 have hb := eA k d
 show (if bH k d = 0 then jW (r5 k v (d + 1) l.er) r.er else jW l.er (r5 k v (d + 1) r.er)) = _
 unfold FJ Tr.step Tr.beside Tr.child
 by_cases h0 : bH k d = 0
 ·
  simp only [h0]; rfl
 ·
  have h1 : bH k d = 1 := by omega
  simp only [h1]; rfl
theorem UR (k v : List UInt8) : ∀ (n d : Nat) (T : Tr), T.dp k d = n → r5 k v d T.er = TL k d ((nK T k d n).map Tr.er) (r5 k v (n + d) (T.iF k d n).er) := by
 intro n
 induction n with
 | zero => intro d T h; rw [Nat.zero_add]; rfl
 | succ n ih =>
  intro d T h
  have h2 : T.er.kind = 2 := by
   cases T <;> first | rfl | (simp [Tr.dp] at h)
  rw [Tr.p7 h2] at h
  rw [F0 k v h2, AK, ih (d + 1) (T.step k d) (by omega), Tr.nM, show n + (d + 1) = n + 1 + d by omega]
  rfl
theorem tH (k q v u : List UInt8) (k' : List UInt8) : ∀ (f d : Nat), (uK k' (.leaf k v) (.leaf q u) f d).fU = 2
 | 0, d => by show (FJ _ _ _ _).fU = 2; rw [BH]; rfl
 | f + 1, d => by show (FJ _ _ _ _).fU = 2; rw [BH, tH k q v u k' f (d + 1)]; rfl
theorem XA (k : List UInt8) : ∀ (n d : Nat) (T : Tr), T.dp k d = n → ((nK T k d n).map fun b => b.er.fU).sum + (T.iF k d n).er.fU = T.er.fU := by
 intro n
 induction n with
 | zero => intro d T _; simp [nK, Tr.iF]
 | succ n ih =>
  intro d T h
  have h2 : T.er.kind = 2 := by
   cases T <;> first | rfl | (simp [Tr.dp] at h)
  rw [Tr.p7 h2] at h
  rw [AK, List.map_cons, List.sum_cons, Tr.nM, Nat.add_assoc, ih (d + 1) _ (by omega)]
  obtain ⟨a, l, r, rfl⟩ := Tr.zQ h2
  have hb := eA k d
  unfold Tr.step Tr.beside Tr.child
  by_cases h0 : bH k d = 0
  ·
   simp only [h0]; show r.er.fU + l.er.fU = l.er.fU + r.er.fU; omega
  ·
   have h1 : bH k d = 1 := by omega
   simp only [h1]; rfl
theorem CV (l : List Nat) : ∀ n, (l.drop n).sum ≤ l.sum
 | 0 => Nat.le_refl _
 | n + 1 => by
  cases l with
  | nil => simp
  | cons x l => rw [List.drop_succ_cons, List.sum_cons]; exact Nat.le_trans (CV l n) (Nat.le_add_left _ _)
theorem KU {E g : Sh} {bs : List Tr} {k : List UInt8} {d i : Nat} (hc : E.fU + ((bs.map Tr.er).map Sh.fU).sum ≤ 1000000000) (hg : g = TL k (d + (bs.length - i)) ((bs.map Tr.er).drop (bs.length - i)) E) (h : bs.length - 1 - i < bs.length) (hi : i < bs.length) :
  g.fU + (bs[bs.length - 1 - i]).er.fU ≤ 1000000000 := by
 rw [hg, IG, List.map_drop]
 have e : ((bs.map Tr.er).map Sh.fU).drop (bs.length - 1 - i) = (bs[bs.length - 1 - i]).er.fU :: ((bs.map Tr.er).map Sh.fU).drop (bs.length - i) := by
  rw [List.drop_eq_getElem_cons (by simpa using h), List.getElem_map, List.getElem_map, show bs.length - 1 - i + 1 = bs.length - i by omega]
 have := CV ((bs.map Tr.er).map Sh.fU) (bs.length - 1 - i)
 rw [e, List.sum_cons] at this
 omega
theorem A8 {X : Nat → Prop} {w : World} {bh bc : Nat} {bits c0 : Int} {n b : Tr} {k : List UInt8} {d : Nat} (hX : cW X w) (eR : aK w bc 213 ([.int .i64 c0])) (bU : aH (fun c_ => X c_ ∨ c_ = bc) (fJ bh bc bits) w) (dA : aH (fun c_ => X c_ ∨ c_ = bc) (cQ bits n) w) (fO : aH (fun c_ => X c_ ∨ c_ = bc) (cQ bits b) w) (jM : aH (fun c_ => X c_ ∨ c_ = bc) (aW) w) (bS : 0 ≤ bits ∧ bits ≤ 256) (hk : k.length = 32) (hd : d < 256) (QI : n.er.fU + b.er.fU ≤ 1000000000) :
  bD Tryz.prog 136 [.pointer (some ⟨bh, 0, none⟩), n.ptr, b.ptr, .agg (kc k).toArray, .int .i64 (d : Int)].toArray w fun v w' => ∃ (T : Tr) (m : Int), v = T.ptr ∧ T.er = FJ k d n.er b.er ∧ Out (· = bc) w w' ∧ aK w' bc 213 [.int .i64 m] ∧ aH (fun c => X c ∨ c = bc) (cQ bits T) w' := by
 refine bD.aI (N := 23) Tryz.func136 rfl rfl (by simp) ?_
 have H := St.c6 (b := bc) (t := 213) (l := [.int .i64 c0]) hX eR
 replace H := H.add (bY jM)
 replace H := H.add (bY fO)
 replace H := H.add (bY dA)
 replace H := H.add (bY bU)
 refine WE.aA ?_
 refine WL.box (l := kc k) H rfl (by rfl) rfl ?_
 intro b8 w1 H
 refine WL.as rfl rfl (WL.nil (WE.seq (WE.aA ?_)))
 refine WL.bG rfl cU rfl rfl (by exact aK.aF (H.l 0 rfl) (aJ.all _) (by rfl)) (cI cN (by simp only [aR, aU, aB]; omega)) ?_
 refine WL.mv rfl rfl ?_
 refine WL.call ED rfl (jH (k := k) (d := d) H.aS  (by assumption) (by assumption)) ?_
 rintro _ w2 ⟨rfl, hO⟩
 replace H := H.out hO
 refine WL.pv (PV.eql rfl rfl rfl) rfl (WL.nil ?_)
 refine WE.cond rfl (fun q9 => ?_) (fun q9 => ?_)
 ·
  try simp only [bW] at q9
  have zS : bH k d = 0 := by omega
  refine WE.aA (WL.mv rfl rfl (WL.mv rfl rfl (WL.mv rfl rfl ?_)))
  refine WL.call EG rfl (x7 (l := n) (r := b) (bits := bits) H.aS (H.o 0 rfl) (by exact H.aL 0 rfl 0 rfl) (by exact H.aL 0 rfl 1 rfl) (by exact H.aL 0 rfl 2 rfl) (by exact H.aL 0 rfl 3 rfl) bS (by omega)) ?_
  rintro _ w3 ⟨aIz, aI2, rfl, aD6, hO, hB, hR⟩
  replace H := H.c9 0 rfl hO hB hR
  refine WL.as rfl rfl (WL.nil (WE.ret ⟨[_], _, .nil _, ⟨rfl, trivial⟩, ?_⟩))
  exact ⟨aIz, _, rfl, aD6.trans (if_pos zS).symm, H.cM, H.o 0 rfl, H.fM (H.bN 0 rfl)⟩
 ·
  try simp only [bW] at q9
  have zS : bH k d ≠ 0 := by omega
  refine WE.skip (WE.aA (WL.mv rfl rfl (WL.mv rfl rfl (WL.mv rfl rfl ?_))))
  refine WL.call EG rfl (x7 (l := b) (r := n) (bits := bits) H.aS (H.o 0 rfl) (by exact H.aL 0 rfl 0 rfl) (by exact H.aL 0 rfl 2 rfl) (by exact H.aL 0 rfl 1 rfl) (by exact H.aL 0 rfl 3 rfl) bS (by omega)) ?_
  rintro _ w4 ⟨aIx, aI1, rfl, aD4, hO, hB, hR⟩
  replace H := H.c9 0 rfl hO hB hR
  refine WL.as rfl rfl (WL.nil (WE.ret ⟨[_], _, .nil _, ⟨rfl, trivial⟩, ?_⟩))
  exact ⟨aIx, _, rfl, aD4.trans (if_neg zS).symm, H.cM, H.o 0 rfl, H.fM (H.bN 0 rfl)⟩
theorem aBY {X : Nat → Prop} {w : World} {bh bc aa ab : Nat} {bits c0 : Int} {q u k vv : List UInt8} {sa sb : Value} {d : Nat} (hX : cW X w) (eR : aK w bc 213 ([.int .i64 c0])) (bU : aH (fun c_ => X c_ ∨ c_ = bc) (fJ bh bc bits) w) (dA : aH (fun c_ => X c_ ∨ c_ = bc) (cQ bits (Tr.leaf aa q u sa)) w) (fO : aH (fun c_ => X c_ ∨ c_ = bc) (cQ bits (Tr.leaf ab k vv sb)) w) (jM : aH (fun c_ => X c_ ∨ c_ = bc) (aW) w) (bS : 0 ≤ bits ∧ bits ≤ 256) (hq : q.length = 32) (hk : k.length = 32) (hdc : d ≤ fF q k) (aHA : fF q k < 256) :
  bD Tryz.prog 138 [.pointer (some ⟨bh, 0, none⟩), (Tr.leaf aa q u sa).ptr, (Tr.leaf ab k vv sb).ptr, .int .i64 (d : Int)].toArray w fun v w' => ∃ (T : Tr) (m : Int), v = T.ptr ∧ T.er = (uK q (.leaf q u) (.leaf k vv) (fF q k - d) d) ∧ Out (· = bc) w w' ∧ aK w' bc 213 [.int .i64 m] ∧ aH (fun c => X c ∨ c = bc) (cQ bits T) w' := by
 refine bD.aI (N := 40) Tryz.func138 rfl rfl (by simp) ?_
 have H := St.c6 (b := bc) (t := 213) (l := [.int .i64 c0]) hX eR
 replace H := H.add (bY jM)
 replace H := H.add (bY fO)
 replace H := H.add (bY dA)
 replace H := H.add (bY bU)
 have hvu := fY bits u
 have hvv := fY bits vv
 refine WE.aA (WL.as rfl rfl (WL.nil (WE.aA (WL.mv rfl rfl ?_))))
 refine WL.call EE rfl (show bD _ _ _ _ (fun v w' => v = .agg (kc q ++ kc (mQ bits u)).toArray ∧ Out Nil _ w') from mE (T := (Tr.leaf aa q u sa)) (bits := bits) H.aS (H.bN 1 rfl)) ?_
 rintro _ w1 ⟨rfl, hO⟩
 replace H := H.out hO
 refine WL.pv (PV.kX rfl kD rfl (dR.agg cU (cI cN (by simp only [aR, aU, aB]; omega)) (aJ.l (aJ.all _)))) rfl ?_
 refine WL.alloc H rfl rO rfl ?_
 intro b9 w2 H
 refine WL.aT H 0 rfl rfl rfl (new := kc q) rfl (cI cN (by simp only [aR, aU, aB]; omega)) (by exact bK _) (Laid.at (Laid.all (by simp only [aR, aU, aB]; omega)) (by rfl)) rfl ?_
 intro w3 H
 refine WL.nil ?_
 refine WE.bF (.take 0 (.take 1 (.aG 2 (.take 3 (.aG 4 (.take 5 .done)))))) mixed (by kernel_rfl) ?_
 replace H := H.out (Out.drew _)
 refine WP.dF rfl rfl rfl cU rfl (by exact aK.aF (H.l 0 rfl) (aJ.all _) (by rfl)) (cI cN (by simp only [aR, aU, aB]; omega)) ?_
 refine WP.mv rfl rfl rfl (WP.aG rfl ?_)
 refine WL.call EE rfl (show bD _ _ _ _ (fun v_ w' => v_ = .agg (kc k ++ kc (mQ bits vv)).toArray ∧ Out Nil _ w') from mE (T := (Tr.leaf ab k vv sb)) (bits := bits) H.aS (H.bN 2 rfl)) ?_
 rintro _ w4 ⟨rfl, hO⟩
 replace H := H.out hO
 refine WL.nil ⟨(fa (fun _ _ => (by exact aK.aF (H.l 0 rfl) (aJ.all _) (by rfl))) cV), ?_⟩
 refine WP.aC rfl rfl (PV.kX rfl kD rfl (dR.agg cU (cI cN (by simp only [aR, aU, aB]; omega)) (aJ.l (aJ.all _)))) ?_
 refine WP.aG rfl ?_
 refine WL.call Q9 rfl (yA (a := q) (b := k) H.aS  (by assumption) (by assumption)) ?_
 rintro _ w5 ⟨rfl, hO⟩
 replace H := H.out hO
 refine WL.nil ⟨(fa (nw 4 0 (by decide +kernel)) cV), ?_⟩
 refine WP.as rfl rfl rfl (WP.done (WE.aA (WL.mv rfl rfl (WL.mv rfl rfl (WL.mv rfl rfl ?_)))))
 refine WL.bG rfl cU rfl rfl (by exact aK.aF (H.l 0 rfl) (aJ.all _) (by rfl)) (cI cN (by simp only [aR, aU, aB]; omega)) ?_
 refine WL.mv rfl rfl ?_
 refine WL.call RC rfl (A8 (n := (Tr.leaf aa q u sa)) (b := (Tr.leaf ab k vv sb)) (k := q) (d := fF q k) (bits := bits) H.aS (H.o 0 rfl) (by exact H.aL 0 rfl 0 rfl) (by exact H.aL 0 rfl 1 rfl) (by exact H.aL 0 rfl 2 rfl) (by exact H.aL 0 rfl 3 rfl) bS hq aHA (by show 1 + 1 ≤ _; omega)) ?_
 rintro _ w6 ⟨aIw, aGY, rfl, aD3, hO, hB, hR⟩
 replace H := H.c9 0 rfl hO hB hR
 refine WL.as rfl rfl (WL.nil (WE.seq (WE.aA (WL.mv rfl rfl ?_))))
 refine WL.pv (PV.eq (v' := .int .i64 (((fF q k - 0 : Nat) : Int) - 1)) (PV.iT rfl rfl rfl (by omega) (by omega)) rfl) rfl ?_
 refine WL.as rfl rfl (WL.nil (WE.block ?_))
 refine WE.loop (α := Nat × Tr × Int) [11, 12, 29, 30, 31, 32, 33, 34, 35, 36, 37, 38] (fun g => [(11, g.2.1.ptr), (12, .int .i64 (((fF q k - g.1 : Nat) : Int) - 1))]) (fun g wl => g.1 ≤ fF q k - d ∧ g.2.1.er = (uK q (.leaf q u) (.leaf k vv) g.1 (fF q k - g.1)) ∧ St X w wl [aO.blk bc 213 [.int .i64 g.2.2]] [aO.blk b9 24 (kc q)] [cQ bits g.2.1, fJ bh bc bits, cQ bits (Tr.leaf aa q u sa), cQ bits (Tr.leaf ab k vv sb), aW]) (fun g => fF q k - d - g.1) (0, aIw, aGY) ⟨rfl, rfl, trivial⟩ ⟨Nat.zero_le _, aD3, H⟩ ?_
 intro ⟨f, Tf, c⟩ γ0 w7 hI
 try dsimp only at hI
 obtain ⟨hf, hTf, H⟩ := hI
 refine WE.seq (WE.aA (WL.mv rfl rfl (WL.mv rfl rfl (WL.pv (PV.geq rfl rfl rfl) rfl (WL.nil ?_)))))
 refine WE.cond rfl (fun j9 => ?_) (fun j9 => ?_)
 ·
  try simp only [bW] at j9
  have hlt : f < fF q k - d := by omega
  have QG : ((fF q k - f : Nat) : Int) - 1 = ((fF q k - f - 1 : Nat) : Int) := by omega
  rw [QG]
  refine WE.skip (WE.seq (WE.block (WE.eM (WL.mv rfl rfl (WL.mv rfl rfl ?_)))))
  refine WL.bG rfl cU rfl rfl (by exact aK.aF (H.l 0 rfl) (aJ.all _) (by rfl)) (cI cN (by simp only [aR, aU, aB]; omega)) ?_
  refine WL.mv rfl rfl ?_
  refine WL.call RC rfl (A8 (n := Tf) (b := .nil) (k := q) (d := fF q k - f - 1) (bits := bits) H.aS (H.o 0 rfl) (by exact H.aL 0 rfl 1 rfl) (by exact H.aL 0 rfl 0 rfl) (by exact fun _ _ => trivial) (by exact H.aL 0 rfl 4 rfl) bS hq (by omega) (by rw [hTf, tH]; show 2 + 0 ≤ _; omega)) ?_
  rintro _ w8 ⟨aIv, aGX, rfl, aD0, hO, hB, hR⟩
  replace H := H.c9 0 rfl hO hB hR
  refine WL.as rfl rfl (WL.nil (WE.eM (WL.mv rfl rfl ?_)))
  refine WL.pv (PV.eq (v' := .int .i64 (((fF q k - (f + 1) : Nat) : Int) - 1)) (PV.iT rfl rfl rfl (by omega) (by omega)) (by congr 1)) rfl ?_
  refine WL.as rfl rfl (WL.nil ?_)
  exact ⟨(f + 1, aIv, aGX), (by repeat (first | with_reducible exact bQ.refl _ _ | refine bQ.dB rfl ?_ | refine bQ.cE rfl ?_ | refine bQ.cB rfl ?_)), ⟨rfl, rfl, trivial⟩, rfl, ⟨by dsimp only; omega, by dsimp only; rw [aD0, hTf, show fF q k - f = fF q k - f - 1 + 1 by omega]; exact congrArg (fun z => uK q _ _ (f + 1) z) (by omega), H.rM [0, 2, 3, 4, 5]⟩, (by dsimp only; omega)⟩
 ·
  try simp only [bW] at j9
  have hf_ : f = fF q k - d := by omega
  refine WE.exit (WE.aA (WL.mv rfl rfl (WL.as rfl rfl (WL.nil (WE.ret ⟨[_], _, .nil _, ⟨rfl, trivial⟩, ?_⟩)))))
  refine ⟨Tf, c, rfl, ?_, H.cM, H.o 0 rfl, H.fM (H.bN 0 rfl)⟩
  rw [hTf, hf_]; exact congrArg (uK q _ _ (fF q k - d)) (by omega)
def aFX (bs : List Tr) (j : Nat) (xs : List Value) (_ : World) : Prop := ∃ h : bs.length - 1 - j < bs.length, xs = [.int .i64 ((bs.length - 1 - j : Nat) : Int), (bs[bs.length - 1 - j]).ptr]
def aCd (bits : Int) (bs : List Tr) (w : World) : Prop := ∀ b ∈ bs, cQ bits b w
theorem AY {w : World} {base n : Nat} {e : TypeId} {v : Value} {xs : List Value} (h : w.ownsRow base e 1 v n xs) : jV v xs w := by
 have hl := h.1
 unfold jV
 have := cS.eH h
 rw [show n = xs.length by omega] at this
 exact this
theorem aBG {bits : Int} {T : Tr} {k : List UInt8} {d n : Nat} {w : World} (h : cQ bits T w) : aCd bits (nK T k d n) w := fun b hb => by
 obtain ⟨j, _, rfl⟩ := List.mem_map.1 hb
 exact (h.iF j).beside
theorem jV.get {w : World} {s : Value} {bs : List Tr} (h : jV s (bs.map Tr.ptr) w) (i : Nat) (hi : i < bs.length) : cX w (jD s (i * 1)) [(bs[i]).ptr] := by
 have := jV.rd h i (by simpa using hi)
 rwa [List.getElem_map] at this
theorem HX {X : Nat → Prop} {w : World} {s : Value} {cs : List Value} (hX : cW X w) (bU : aH X (jV s cs) w) :
  bD Tryz.prog 135 [s].toArray w fun r w' => ∃ b1, r = .func (.func 171) [].toArray [.pointer (some ⟨b1, 0, none⟩)].toArray ∧ Out Nil w w' ∧ aH X (fun w => cX w ⟨b1, 0, none⟩ [s]) w' := by
 refine bD.aI (N := 4) Tryz.func135 rfl rfl (by simp) ?_
 have H := St.begin hX
 replace H := H.add (cF bU)
 refine WE.aA ?_
 refine WL.box (l := [s]) H rfl (cS.cells (H.p 0 rfl)) rfl ?_
 intro b1 w1 H
 refine WL.as rfl rfl (WL.nil (WE.aA (WL.pv (PV.makeFunc rfl) rfl (WL.as rfl rfl (WL.nil (WE.ret ⟨[_], _, .nil _, ⟨rfl, trivial⟩, ?_⟩))))))
 replace H := H.freeze (i := 0) rfl
 exact ⟨_, rfl, H.aM, H.gU ((H.bN 0 rfl).imp fun _ h => h.rd)⟩
theorem MK {C : Nat → Prop} {w : World} {b1 : Nat} {s : Value} {bs : List Tr} (hC : ∀ b, C b → b < w.heap.size) (bU : aH C (fun w => cX w ⟨b1, 0, none⟩ [s]) w) (dA : aH C (jV s (bs.map Tr.ptr)) w) (hlen : bs.length ≤ 1000000) : XO Tryz.prog 171 [] [.pointer (some ⟨b1, 0, none⟩)] (bs.length) (aFX bs) Nil C w := by
 intro f J Jx hst pJ aA2 mG hf
 show bD Tryz.prog 171 ([f, .pointer (some ⟨b1, 0, none⟩)] : List Value).toArray w _
 refine bD.aI (N := 19) Tryz.func171 rfl rfl (by simp) ?_
 have H := St.begin (X := C) hC
 replace H := H.add (cF dA)
 replace H := H.add (cF bU)
 have yQ : (bs.map Tr.ptr).length = bs.length := List.length_map ..
 refine WE.aA (WL.aZ rfl MN rfl rfl (H.p 0 rfl) (WL.pv (PV.dO (H.p 1 rfl : jV s (bs.map Tr.ptr) _) N4 rfl) rfl ?_))
 refine WL.pv (PV.eq (v' := .int .i64 (((bs.length - 0 : Nat) : Int) - 1)) (PV.iT rfl rfl rfl (by omega) (by omega)) (by rw [yQ]; rfl)) rfl ?_
 refine WL.as rfl rfl (WL.nil (WE.block ?_))
 refine WE.loop (α := Nat) [3, 7, 8, 9, 10, 11, 12, 13, 14, 15, 16, 17, 18] (fun j => [(3, .int .i64 (((bs.length - j : Nat) : Int) - 1))]) (fun j wl => j ≤ bs.length ∧ J Nil j wl ∧ St C wl wl [] [] [fun w => cX w ⟨b1, 0, none⟩ [s], jV s (bs.map Tr.ptr)]) (fun j => bs.length - j) 0 ⟨rfl, trivial⟩ ⟨Nat.zero_le _, hst Nil w (Out.refl _ _) (fun _ h => h.elim) (fun _ h => h), H⟩ ?_
 intro j γ0 w1 hI
 try dsimp only at hI
 obtain ⟨hj, hJ, H⟩ := hI
 have BJ : ∃ FP, FP = w1 := ⟨_, rfl⟩
 obtain ⟨FP, BJ⟩ := BJ
 rw [← BJ] at hJ H ⊢
 clear BJ
 refine WE.seq (WE.aA (WL.mv rfl rfl (WL.pv (PV.geq rfl rfl rfl) rfl (WL.nil ?_))))
 refine WE.cond rfl (fun mO => ?_) (fun mO => ?_)
 ·
  try simp only [bW] at mO
  have hlt : j < bs.length := by omega
  have QG : ((bs.length - j : Nat) : Int) - 1 = ((bs.length - 1 - j : Nat) : Int) := by omega
  rw [QG]
  refine WE.skip (WE.seq (WE.block (WE.aA (WL.mv rfl rfl (WL.mv rfl rfl (WL.aZ rfl MN rfl rfl (H.p 0 rfl) (WL.mv rfl rfl ?_)))))))
  refine WL.pv (PV.eQ rfl (H.p 1 rfl : jV s (bs.map Tr.ptr) _) N4 lC rfl rfl (by omega) (by omega)) rfl (WL.aZ rfl gZ rfl rfl (jV.get (H.p 1 rfl) (bs.length - 1 - j) (by omega)) ?_)
  refine WL.iK rfl rfl (mG Nil j _ FP _ (by omega) hJ H.aM (aH.pure ⟨by omega, rfl⟩)) ?_
  rintro _ w2 ⟨hk, ⟨rfl, hJ⟩ | ⟨rfl, hJ⟩⟩
  ·
   replace H := St.HG (Ps := [fun w => cX w ⟨b1, 0, none⟩ [s], jV s (bs.map Tr.ptr)]) hC hk (fun _ h => h.elim) (by intro p hp; simp at hp; rcases hp with rfl | rfl <;> assumption)
   refine WL.pv (PV.not rfl rfl) rfl (WL.nil (WE.iJ rfl (WE.skip (WE.eM (WL.mv rfl rfl ?_)))))
   refine WL.pv (PV.eq (v' := .int .i64 (((bs.length - (j + 1) : Nat) : Int) - 1)) (PV.iT rfl rfl rfl (by omega) (by omega)) (by congr 1; omega)) rfl ?_
   refine WL.as rfl rfl (WL.nil ?_)
   exact ⟨j + 1, (by repeat (first | with_reducible exact bQ.refl _ _ | refine bQ.dB rfl ?_ | refine bQ.cE rfl ?_ | refine bQ.cB rfl ?_)), ⟨rfl, trivial⟩, rfl, ⟨by omega, hJ, H⟩, (by omega)⟩
  ·
   refine WL.pv (PV.not rfl rfl) rfl (WL.nil (WE.kY rfl (WE.ret ?_)))
   refine ⟨[], _, .nil _, trivial, ?_⟩
   exact ⟨rfl, Nil, .inr hJ⟩
 ·
  try simp only [bW] at mO
  have hj_ : j = bs.length := by omega
  refine WE.exit ?_
  refine ⟨[], _, .nil _, trivial, ?_⟩
  subst hj_
  exact ⟨rfl, Nil, .inl (pJ _ _ _ _ hJ H.aM)⟩
theorem aAr {X : Nat → Prop} {w : World} {bh bc b9 b4 b6 b7 : Nat} {bits c0 : Int} {E : Tr} {bs : List Tr} {k : List UInt8} {s sl : Value} {d : Nat} (hX : cW X w) (eR : aK w bc 213 ([.int .i64 c0])) (bU : aH (fun c_ => X c_ ∨ c_ = bc) (fJ bh bc bits) w) (dA : aH (fun c_ => X c_ ∨ c_ = bc) (cQ bits E) w) (fO : aH (fun c_ => X c_ ∨ c_ = bc) (aCd bits bs) w) (jM : aH (fun c_ => X c_ ∨ c_ = bc) (jV sl (bs.map Tr.ptr)) w) (oC : aH (fun c_ => X c_ ∨ c_ = bc) (fun w => cX w ⟨b9, 0, none⟩ [sl]) w) (sU : aH (fun c_ => X c_ ∨ c_ = bc) (fun w => cX w ⟨b4, 0, none⟩ [.pointer (some ⟨bh, 0, none⟩)]) w) (CH : aH (fun c_ => X c_ ∨ c_ = bc) (fun w => cX w ⟨b6, 0, none⟩ (kc k ++ [s])) w) (hf7 : aH (fun c_ => X c_ ∨ c_ = bc) (fun w => cX w ⟨b7, 0, none⟩ [.int .i64 (d : Int)]) w) (hf8 : aH (fun c_ => X c_ ∨ c_ = bc) (aW) w) (bS : 0 ≤ bits ∧ bits ≤ 256) (hk : k.length = 32) (hd : d + bs.length ≤ 256) (QI : E.er.fU + ((bs.map Tr.er).map Sh.fU).sum ≤ 1000000000) :
  bD Tryz.prog 134 [E.ptr, .pointer (some ⟨b9, 0, none⟩), .pointer (some ⟨b4, 0, none⟩), .pointer (some ⟨b6, 0, none⟩), .pointer (some ⟨b7, 0, none⟩)].toArray w fun v w' => ∃ (T : Tr) (m : Int), v = T.ptr ∧ T.er = TL k d (bs.map Tr.er) E.er ∧ Out (· = bc) w w' ∧ aK w' bc 213 [.int .i64 m] ∧ aH (fun c => X c ∨ c = bc) (cQ bits T) w' := by
 refine bD.aI (N := 23) Tryz.func134 rfl rfl (by simp) ?_
 have H := St.c6 (b := bc) (t := 213) (l := [.int .i64 c0]) hX eR
 replace H := H.add (bY hf8)
 replace H := H.add (bY hf7)
 replace H := H.add (bY CH)
 replace H := H.add (bY sU)
 replace H := H.add (bY oC)
 replace H := H.add (bY jM)
 replace H := H.add (bY fO)
 replace H := H.add (bY dA)
 replace H := H.add (bY bU)
 refine WE.aA ?_
 refine WL.box (l := [E.ptr]) H rfl (by rfl) rfl ?_
 intro b5 w1 H
 refine WL.as rfl rfl (WL.nil (WE.seq (WE.aA (WL.aZ rfl MN rfl rfl (H.p 4 rfl) ?_))))
 refine WL.call aFl rfl (HX (s := sl) (cs := bs.map Tr.ptr) H.aS (by exact H.bN 3 rfl) ) ?_
 rintro _ w2 ⟨aFW, rfl, hO, hR⟩
 replace H := (H.out hO).add hR
 refine WL.nil (WE.block ?_)
 replace H := H.rM [0, 1, 2, 3, 4, 5, 6, 7, 8, 9]
 replace H := H.A6
 refine WE.A4 (α := Tr × Int) (fun i g => g.1.er = TL k (d + (bs.length - i)) ((bs.map Tr.er).drop (bs.length - i)) E.er) (fun i g => [aO.blk bc 213 [.int .i64 g.2]]) (fun i g => [aO.blk b5 39 [g.1.ptr]]) (fun i g => [fun w => cX w ⟨aFW, 0, none⟩ [sl], fJ bh bc bits, cQ bits g.1, aCd bits bs, jV sl (bs.map Tr.ptr), fun w => cX w ⟨b9, 0, none⟩ [sl], fun w => cX w ⟨b4, 0, none⟩ [.pointer (some ⟨bh, 0, none⟩)], fun w => cX w ⟨b6, 0, none⟩ (kc k ++ [s]), fun w => cX w ⟨b7, 0, none⟩ [.int .i64 (d : Int)], aW]) (fun _ _ => False) (fun _ _ => []) (fun _ _ => []) (fun _ _ => []) (E, c0) H rfl aE5 (fun W0 hO => MK (bs := bs) (H.WY hO) (H.xO hO 0 rfl) (H.xO hO 4 rfl) (by omega)) (by rintro _ _ _ ⟨_, rfl⟩; rfl) ⟨by show E.er = _; rw [Nat.sub_zero, List.drop_eq_nil_of_le (by simp)]; rfl, rfl, rfl, rfl⟩ ?_ ?_ ?_
 ·
  intro i g xs_ l_ d_ o_ T_ sc_ w3 iU zT QV
  obtain ⟨LO, rfl⟩ := QV
  have hud := NU k d (bs.map Tr.er) E.er (bs.length - 1 - i) (by simpa using LO)
  rw [List.getElem_map] at hud
  have LU : g.1.er.fU + (bs[bs.length - 1 - i]).er.fU ≤ 1000000000 := KU QI zT LO iU
  refine WE.aA (WL.as rfl rfl (WL.nil (WE.eM (WL.as rfl rfl (WL.nil ?_)))))
  refine ⟨rfl, rfl, rfl, ?_⟩
  intro w4 H
  refine WE.block (WE.eM (WL.aZ rfl u4 rfl rfl (H.p 7 rfl) ?_))
  refine WL.aZ rfl gZ rfl rfl (by exact aK.aF (H.l 0 rfl) (aJ.all _) (by rfl)) ?_
  refine WL.mv rfl rfl (WL.pv (PV.fieldAddr rfl gW rfl) rfl ?_)
  refine WL.bG rfl cU rfl rfl (cX.aF (H.p 8 rfl) (aJ.l (aJ.all (kc k))) rfl) (cI cN (by simp only [aR, aU, aB]; omega)) ?_
  refine WL.aZ rfl oZ rfl rfl (H.p 9 rfl) (WL.mv rfl rfl ?_)
  refine WL.pv (PV.eq (v' := .int .i64 ((d + (bs.length - 1 - i) : Nat) : Int)) (PV.bZ rfl rfl rfl (by omega) (by omega)) rfl) rfl ?_
  refine WL.call RC rfl (A8 (n := g.1) (b := bs[bs.length - 1 - i]) (k := k) (d := d + (bs.length - 1 - i)) (bits := bits) H.aS (H.o 0 rfl) (by exact H.aL 0 rfl 2 rfl) (by exact H.aL 0 rfl 3 rfl) (by exact (H.aL 0 rfl 4 rfl).imp fun _ h => h _ (List.getElem_mem LO)) (by exact H.aL 0 rfl 10 rfl) bS hk (by omega) LU) ?_
  rintro _ w5 ⟨aIy, aGZ, rfl, aD5, hO, hB, hR⟩
  replace H := H.c9 0 rfl hO hB hR
  refine WL.aT H 0 rfl rfl rfl (new := _) rfl (by exact lC) (bC _ rfl) (Laid.at (Laid.all (by simp only [aR, aU, aB])) (by rfl)) rfl ?_
  intro w6 H
  refine WL.nil ?_
  replace H := H.rM [2, 3, 0, 5, 6, 7, 8, 9, 10, 11, 12]
  exact ⟨(aIy, aGZ), (by dsimp only; rw [aD5, zT, show bs.length - (i + 1) = bs.length - 1 - i by omega, hud, show bs.length - i = bs.length - 1 - i + 1 by omega]), H⟩
 ·
  intro g WR w7 zT H
  refine WE.aA ?_
  refine WL.aZ rfl gZ rfl rfl (by exact aK.aF (H.l 1 rfl) (aJ.all _) (by rfl)) ?_
  refine WL.as rfl rfl (WL.nil (WE.ret ?_))
  (obtain ⟨w8, wY, H⟩ := H.vU 0 rfl)
  refine ⟨[_], _, (wY _ (.nil _)), ⟨rfl, trivial⟩, ?_⟩
  refine ⟨g.1, g.2, rfl, ?_, H.cM, H.o 0 rfl, H.fM (H.bN 2 rfl)⟩
  rw [zT, Nat.sub_self]; rfl
 ·
  intro e_ g WR w9 QG zT H
  exact zT.elim
theorem z7 (F : Tr) (h : F.er.kind ≠ 2) : F = .nil ∨ ∃ a q u s, F = .leaf a q u s := by
 cases F with
 | nil => exact .inl rfl
 | leaf a q u s => exact .inr ⟨a, q, u, s, rfl⟩
 | inner => exact absurd rfl h
theorem B4 {k : List UInt8} {d : Nat} {T : Tr} (e : Sh) (hc : T.er.fU ≤ 100000000) (he : e.fU ≤ 2) : e.fU + (((nK T k d (T.dp k d)).map Tr.er).map Sh.fU).sum ≤ 1000000000 := by
 have := XA k _ d T rfl
 rw [List.map_map]
 show e.fU + ((nK T k d (T.dp k d)).map fun b => b.er.fU).sum ≤ _
 omega
theorem wE {k v : List UInt8} {d : Nat} {T : Tr} {e : Sh} (he : r5 k v (T.dp k d + d) (T.iF k d (T.dp k d)).er = e) : TL k d ((nK T k d (T.dp k d)).map Tr.er) e = r5 k v d T.er := by
 rw [UR k v _ d T rfl, he]
theorem PE {T : Tr} {m : List En} {k q u : List UInt8} {d a : Nat} {s : Value} (hT : T.er = grow d m) (hp : Pm d m) (hn : u5 d m k) (hF : T.iF k d (T.dp k d) = .leaf a q u s) : T.dp k d + d ≤ fF q k := by
 have h : ∀ i, i ≤ T.dp k d → u5 (i + d) (B6 k d m i) k := by
  intro i
  induction i with
  | zero => intro _; rw [Nat.zero_add]; exact hn
  | succ i ih =>
   intro hi
   have hl := R6 (k := k) hT hp (i := i) (by omega)
   have := (ih (by omega)).part hl.2
   rwa [show i + d + 1 = i + 1 + d by omega] at this
 have h1 := h _ (Nat.le_refl _)
 have h2 := AM (k := k) hT hp _ (Nat.le_refl _)
 have hl := B5 (k := k) hT hp
 rw [hF] at h2
 match hm : B6 k d m (T.dp k d), hl with
 | [], _ => rw [hm, eD] at h2; cases h2.1
 | [e], _ =>
  rw [hm, dI] at h2
  have e1 : (Sh.leaf q u) = Sh.leaf e.k e.v := h2.1
  injection e1 with e1 _
  rw [hm] at h1
  rw [e1]
  exact h1 e (by simp)
 | _ :: _ :: _, h => simp at h
theorem US {X : Nat → Prop} {w : World} {bh bc : Nat} {bits c0 : Int} {T : Tr} {M : List En} {k lv : List UInt8} {s : Value} {d : Nat} (hX : cW X w) (eR : aK w bc 213 ([.int .i64 c0])) (bU : aH (fun c_ => X c_ ∨ c_ = bc) (fJ bh bc bits) w) (dA : aH (fun c_ => X c_ ∨ c_ = bc) (cQ bits T) w) (fO : aH (fun c_ => X c_ ∨ c_ = bc) (aW) w) (bS : 0 ≤ bits ∧ bits ≤ 256) (hk : k.length = 32) (wX : lv.length ≤ 1000000) (hw : aH (fun c => c = bc) (bI s lv) w) (hT : T.er = grow d M) (qK : Pm d M) (hs : k7 M) (FK : u5 d M k) (yQ : M.length ≤ 100000000) :
  bD Tryz.prog 90 [.pointer (some ⟨bh, 0, none⟩), T.ptr, .agg (kc k ++ [s]).toArray, .int .i64 (d : Int)].toArray w fun v w' => ∃ (T : Tr) (m : Int), v = T.ptr ∧ T.er = grow d (gL M ⟨k, s, lv⟩) ∧ Out (· = bc) w w' ∧ aK w' bc 213 [.int .i64 m] ∧ aH (fun c => X c ∨ c = bc) (cQ bits T) w' := by
 refine bD.aI (N := 59) Tryz.func90 rfl rfl (by simp) ?_
 have H := St.c6 (b := bc) (t := 213) (l := [.int .i64 c0]) hX eR
 replace H := H.add (bY fO)
 replace H := H.add (bY dA)
 replace H := H.add (bY bU)
 have hs1 : s.oneCell' = true := cS.fG hw.here
 have hfit := xD qK
 rw [← hT] at hfit
 have yR := Tr.tU (k := k) _ d T rfl hfit qK.le
 have LU : T.er.fU = M.length := by rw [hT]; exact qK.fU
 have hFk := Tr.qA (k := k) _ d T rfl
 refine WE.aA ?_
 refine WL.box (l := [.pointer (some ⟨bh, 0, none⟩)]) H rfl (rfl) rfl ?_
 intro b4 w1 H
 refine WL.box (l := kc k ++ [s]) H rfl (rfl) rfl ?_
 intro b6 w2 H
 refine WL.box (l := [.int .i64 (d : Int)]) H rfl (rfl) rfl ?_
 intro b7 w3 H
 refine WL.as rfl rfl (WL.nil (WE.aA ?_))
 refine WL.alloc H rfl aCf rfl ?_
 intro b9 w4 H
 replace H := H.lG 39 1
 refine WL.nil (WE.aA ?_)
 refine WL.aZ rfl oZ rfl rfl (by exact aK.aF (H.l 2 rfl) (aJ.all _) (by rfl)) ?_
 refine WL.as rfl rfl (WL.nil (WE.seq (WE.block ?_)))
 refine WE.loop (α := Nat × Value) [1, 10, 11, 15, 16, 17, 18, 19, 20, 21, 22, 23, 24, 25, 26, 27, 28, 29, 30, 31, 32, 33] (fun p => [(1, (T.iF k d p.1).ptr), (10, .int .i64 ((p.1 + d : Nat) : Int))]) (fun p wl => p.1 ≤ T.dp k d ∧ St X w wl [aO.blk bc 213 [.int .i64 c0]] [aO.iA w.heap.size p.2 39 1 p.1 ((nK T k d p.1).map Tr.ptr), aO.blk b9 86 [p.2], aO.blk b7 3 [.int .i64 (d : Int)], aO.blk b6 111 (kc k ++ [s]), aO.blk b4 37 [.pointer (some ⟨bh, 0, none⟩)]] [fJ bh bc bits, cQ bits T, aW]) (fun p => T.dp k d - p.1) (0, .slice none 0 0) ⟨rfl, by show Value.int .i64 _ = Value.int .i64 _; rw [Nat.zero_add], trivial⟩ ⟨Nat.zero_le _, H⟩ ?_
 intro ⟨i, q⟩ γ0 w5 hI
 try dsimp only at hI
 obtain ⟨hi, H⟩ := hI
 refine WE.seq (WE.aA (WL.mv rfl rfl ?_))
 refine WL.call mJ rfl (fC (T := T.iF k d i) (bits := bits) H.aS (by exact (H.bN 1 rfl).imp fun _ h => h.iF i)) ?_
 rintro _ w6 ⟨rfl, hO⟩
 replace H := H.out hO
 refine WL.pv (PV.eql rfl rfl rfl) rfl (WL.nil ?_)
 refine WE.cond rfl (fun iC => ?_) (fun iC => ?_)
 ·
  try simp only [bW] at iC
  have hlt : i < T.dp k d := by rcases Nat.lt_or_ge i (T.dp k d) with h | h; exact h; exact absurd (show (T.iF k d i).er.kind = 2 by exact iC) (by rw [show i = T.dp k d by omega]; exact hFk)
  have hb2 := eA k (i + d)
  refine WE.skip (WE.seq (WE.block (WE.aA (WL.pv (PV.fieldAddr rfl gW rfl) rfl ?_))))
  refine WL.bG rfl cU rfl rfl (by exact aK.aF (H.l 3 rfl) (aJ.l (aJ.all _)) (by rfl)) (cI cN (by simp only [aR, aU, aB]; omega)) ?_
  refine WL.mv rfl rfl ?_
  refine WL.call ED rfl (jH (k := k) (d := i + d) H.aS  (by assumption) (by omega)) ?_
  rintro _ w7 ⟨rfl, hO⟩
  replace H := H.out hO
  refine WL.as rfl rfl (WL.nil ?_)
  refine WE.bF (.take 0 (.take 1 (.take 2 (.take 3 (.aG 4 (.aG 5 (.aG 6 (.aG 7 .done)))))))) mixed (by kernel_rfl) ?_
  replace H := H.out (Out.drew _)
  refine WP.aQ rfl rfl (RV.aY rfl MN rfl) (by exact aK.aF (H.l 1 rfl) (aJ.all _) (by rfl)) ?_
  refine WP.mv rfl rfl rfl (WP.mv rfl rfl rfl ?_)
  refine WP.aC rfl rfl (PV.eq (v' := .int .i64 ((1 - bH k (i + d) : Nat) : Int)) (PV.iT rfl rfl rfl (by omega) (by omega)) (by congr 1; omega)) ?_
  refine WP.aG rfl ?_
  refine WL.call L5 rfl (qB (T := T.iF k d i) (bits := bits) (b := 1 - bH k (i + d)) H.aS (by exact (H.bN 1 rfl).imp fun _ h => h.iF i)) ?_
  rintro _ w8 ⟨rfl, hO⟩
  replace H := H.out hO
  refine WL.nil ⟨(fa (fun _ _ => (by exact aK.aF (H.l 1 rfl) (aJ.all _) (by rfl))) cV), ?_⟩
  refine WP.aG rfl ?_
  refine WL.bJ (l0 := [.pointer none]) H rfl UH (by decide) (dG _ _) (Fl.cons rfl (by rfl) (by simp only [aR, aU, aB]) Laid.head Fl.nil) rfl ?_
  intro b29 w9 H
  refine WL.nil ⟨(fa (fun _ _ => (by exact aK.aF (H.l 2 rfl) (aJ.all _) (by rfl))) cV), ?_⟩
  refine WP.aG rfl ?_
  refine WL.append (m := 1) H 1 UH (by decide) rfl rfl rfl (cS.cA (n := 1) (H.l 0 rfl) rfl) (bC _ rfl) (by omega) (by decide) rfl ?_
  intro v30 vT H
  replace H := H.forget 0
  replace H := H.conv (L' := [aO.iA w.heap.size v30 39 1 (i + 1) ((nK T k d (i + 1)).map Tr.ptr), aO.blk b9 86 [q], aO.blk b7 3 [.int .i64 (d : Int)], aO.blk b6 111 (kc k ++ [s]), aO.blk b4 37 [.pointer (some ⟨bh, 0, none⟩)]]) (by rw [MI, List.map_append]; rfl)
  refine WL.nil ⟨(fa (nw 6 0 (by decide +kernel)) cV), ?_⟩
  refine WP.aG rfl ?_
  refine WL.aT H 1 rfl rfl rfl (new := [v30]) (cells_one (iN (H.l 0 rfl))) (by exact aCy) (dV (iN (H.l 0 rfl))) (Laid.at (Laid.all (by simp only [aR, aU, aB])) (by rfl)) rfl ?_
  intro y8 H
  refine WL.nil ⟨(fa (nw 7 0 (by decide +kernel)) cV), ?_⟩
  refine WP.done (WE.eM (WL.mv rfl rfl (WL.mv rfl rfl ?_)))
  refine WL.call L5 rfl (qB (T := T.iF k d i) (bits := bits) (b := bH k (i + d)) H.aS (by exact (H.bN 1 rfl).imp fun _ h => h.iF i)) ?_
  rintro _ IE ⟨rfl, hO⟩
  replace H := H.out hO
  refine WL.as rfl rfl (WL.nil (WE.eM (WL.mv rfl rfl ?_)))
  refine WL.pv (PV.eq (v' := .int .i64 ((i + 1 + d : Nat) : Int)) (PV.bZ rfl rfl rfl (by omega) (by omega)) (by congr 1; omega)) rfl ?_
  refine WL.as rfl rfl (WL.nil ?_)
  exact ⟨(i + 1, v30), (by repeat (first | with_reducible exact bQ.refl _ _ | refine bQ.dB rfl ?_ | refine bQ.cE rfl ?_ | refine bQ.cB rfl ?_)), ⟨rfl, rfl, trivial⟩, rfl, ⟨by dsimp only; omega, H⟩, (by dsimp only; omega)⟩
 ·
  try simp only [bW] at iC
  have hiD : i = T.dp k d := by rcases Nat.lt_or_ge i (T.dp k d) with h | h; exact absurd (Tr.rJ (k := k) i d T h) (by exact iC); omega
  subst hiD
  refine WE.exit ?_
  replace H := ((((H.freeze (i := 0) rfl).freeze (i := 0) rfl).freeze (i := 0) rfl).freeze (i := 0) rfl).freeze (i := 0) rfl
  refine WE.aA (WL.pv (PV.makeFunc rfl) rfl (WL.as rfl rfl (WL.nil (WE.aA ?_))))
  refine WL.aZ rfl u4 rfl rfl (by exact aK.aF (H.p 0 rfl) (aJ.all _) (by rfl)) ?_
  refine WL.bG rfl oS rfl rfl (by exact aK.aF (H.p 1 rfl) (aJ.all _) (by rfl)) (cI fL (by simp only [aR, aU, aB]; omega)) ?_
  refine WL.call ZY rfl (x6 (k := k) (lv := lv) (s := s) (bits := bits) H.aS (H.o 0 rfl) (by exact H.aL 0 rfl 5 rfl) (by exact H.aL 0 rfl 7 rfl) bS wX hk (H.CO H.l5 hw rfl)) ?_
  rintro _ FI ⟨aJz, aIW, rfl, aD1, hO, hB, hR⟩
  replace H := H.c9 0 rfl hO hB hR
  obtain ⟨a37, s37, rfl⟩ := Tr.vA aD1
  refine WL.as rfl rfl (WL.nil (WE.seq ?_))
  have aEe : (T.iF k d (T.dp k d)).key.length = 32 := cQ.gG ((dA.here).iF _)
  have aJs := Tr.aP bits (T.iF k d (T.dp k d))
  refine WE.bF (.take 0 (.aG 1 (.take 2 (.take 3 (.take 4 (.take 7 (.take 8 (.aG 5 (.take 6 (.take 9 (.take 10 .done))))))))))) mixed (by kernel_rfl) ?_
  replace H := H.out (Out.drew _)
  refine WP.mv rfl rfl rfl (WP.aG rfl ?_)
  refine WL.call mJ rfl (fC (T := (T.iF k d (T.dp k d))) (bits := bits) H.aS (by exact (H.bN 7 rfl).imp fun _ h => h.iF (T.dp k d))) ?_
  rintro _ KT ⟨rfl, hO⟩
  replace H := H.out hO
  refine WL.nil ⟨cV, ?_⟩
  refine WP.aC rfl rfl (PV.eql rfl rfl rfl) (WP.mv rfl rfl rfl ?_)
  refine WP.split (t := 41) rfl (fun BM => ?_) (fun BM => ?_)
  ·
   refine WP.known (t := 40) (c := true) rfl BM ?_
   try simp only [bW] at BM
   have hFn : (T.iF k d (T.dp k d)) = .nil := by rcases z7 (T.iF k d (T.dp k d)) hFk with h | ⟨a, q, u, s, h⟩; exact h; rw [h] at BM; cases BM
   have hend : r5 k lv (T.dp k d + d) (T.iF k d (T.dp k d)).er = .leaf k lv := by rw [hFn]; rfl
   refine WP.dP rfl rfl (WP.dP rfl rfl (WP.dP rfl rfl (WP.aG rfl (WL.off rfl ?_))))
   refine WL.nil ⟨cV, ?_⟩
   refine WP.dP rfl rfl (WP.dP rfl rfl (WP.aC rfl rfl (PV.dH rfl rfl rfl) (WP.done (WE.kY rfl (WE.aA (WL.mv rfl rfl (WL.mv rfl rfl ?_)))))))
   refine WL.qQ RD rfl rfl (aAr (E := (.leaf a37 k lv s37)) (bs := nK T k d (T.dp k d)) (k := k) (s := s) (sl := q) (d := d) (bits := bits) H.aS (H.o 0 rfl) (by exact H.aL 0 rfl 6 rfl) (by exact H.aL 0 rfl 0 rfl) (by exact (H.aL 0 rfl 7 rfl).imp fun _ h => aBG h) (by exact (H.aL 0 rfl 5 rfl).imp fun _ h => AY h) (by exact (H.aL 0 rfl 4 rfl).imp fun _ h => aK.rd h) (by exact (H.aL 0 rfl 1 rfl).imp fun _ h => aK.rd h) (by exact (H.aL 0 rfl 2 rfl).imp fun _ h => aK.rd h) (by exact (H.aL 0 rfl 3 rfl).imp fun _ h => aK.rd h) (by exact H.aL 0 rfl 8 rfl) bS hk (by rw [xS]; omega) (B4 (.leaf k lv) (by omega) (by show 1 ≤ 2; omega))) ?_
   rintro _ NR ⟨aBR, aGW, rfl, QX, hO, hB, hR⟩
   replace H := H.c9 0 rfl hO hB hR
   refine WL.as rfl rfl (WL.nil (WE.ret ⟨[_], _, .nil _, ⟨rfl, trivial⟩, ?_⟩))
   refine ⟨aBR, _, rfl, ?_, H.cM, H.o 0 rfl, H.fM (H.bN 0 rfl)⟩
   rw [QX]
   exact (wE hend).trans (hT ▸ wD ⟨k, s, lv⟩ hk qK hs FK)
  ·
   refine WP.known (t := 40) (c := false) rfl BM ?_
   try simp only [bW] at BM
   obtain ⟨af, q_, u_, sf, hFe⟩ : ∃ a q u s, (T.iF k d (T.dp k d)) = .leaf a q u s := by rcases z7 (T.iF k d (T.dp k d)) hFk with h | h; rw [h] at BM; exact absurd rfl BM; exact h
   have aDy := PE hT qK FK hFe
   have TQ : q_.length = 32 := by rw [hFe] at aEe; exact aEe
   have ZC : (T.iF k d (T.dp k d)).key = q_ := by rw [hFe]; rfl
   refine WP.mv rfl rfl rfl (WP.aC rfl rfl (PV.fieldAddr rfl gW rfl) ?_)
   refine WP.dF rfl rfl rfl cU rfl (by exact aK.aF (H.p 2 rfl) (aJ.l (aJ.all _)) (by rfl)) (cI cN (by simp only [aR, aU, aB]; omega)) ?_
   refine WP.aG rfl ?_
   refine WL.call EE rfl (mE (T := (T.iF k d (T.dp k d))) (bits := bits) H.aS (by exact (H.bN 7 rfl).imp fun _ h => h.iF (T.dp k d))) ?_
   rintro _ TK ⟨rfl, hO⟩
   replace H := H.out hO
   refine WL.nil ⟨(fa (fun _ _ => (by exact aK.aF (H.p 2 rfl) (aJ.l (aJ.all _)) (by rfl))) cV), ?_⟩
   refine WP.aC rfl rfl (PV.kX rfl kD rfl (dR.agg cU (cI cN (by simp only [aR, aU, aB]; omega)) (aJ.l (aJ.all _)))) ?_
   refine WP.aC rfl rfl (PV.EI rfl gQ pI iB (by kernel_rfl) rfl rfl (by assumption) (by assumption)) (WP.aC rfl rfl (PV.c5 rfl rfl rfl) (WP.done ?_))
   refine WE.cond rfl (fun QM => ?_) (fun QM => ?_)
   ·
    try simp only [bW] at QM
    have hend : r5 k lv (T.dp k d + d) (T.iF k d (T.dp k d)).er = .leaf k lv := by rw [hFe]; exact if_pos (ZC ▸ (by exact QM))
    refine WE.aA (WL.mv rfl rfl (WL.mv rfl rfl ?_))
    refine WL.qQ RD rfl rfl (aAr (E := (.leaf a37 k lv s37)) (bs := nK T k d (T.dp k d)) (k := k) (s := s) (sl := q) (d := d) (bits := bits) H.aS (H.o 0 rfl) (by exact H.aL 0 rfl 6 rfl) (by exact H.aL 0 rfl 0 rfl) (by exact (H.aL 0 rfl 7 rfl).imp fun _ h => aBG h) (by exact (H.aL 0 rfl 5 rfl).imp fun _ h => AY h) (by exact (H.aL 0 rfl 4 rfl).imp fun _ h => aK.rd h) (by exact (H.aL 0 rfl 1 rfl).imp fun _ h => aK.rd h) (by exact (H.aL 0 rfl 2 rfl).imp fun _ h => aK.rd h) (by exact (H.aL 0 rfl 3 rfl).imp fun _ h => aK.rd h) (by exact H.aL 0 rfl 8 rfl) bS hk (by rw [xS]; omega) (B4 (.leaf k lv) (by omega) (by show 1 ≤ 2; omega))) ?_
    rintro _ TJ ⟨aBR, aGW, rfl, QX, hO, hB, hR⟩
    replace H := H.c9 0 rfl hO hB hR
    refine WL.as rfl rfl (WL.nil (WE.ret ⟨[_], _, .nil _, ⟨rfl, trivial⟩, ?_⟩))
    refine ⟨aBR, _, rfl, ?_, H.cM, H.o 0 rfl, H.fM (H.bN 0 rfl)⟩
    rw [QX]
    exact (wE hend).trans (hT ▸ wD ⟨k, s, lv⟩ hk qK hs FK)
   ·
    try simp only [bW] at QM
    have aDu : q_ ≠ k := ZC ▸ (by exact QM)
    have BQ : fF q_ k < 256 := by rcases Nat.lt_or_ge (fF q_ k) 256 with h | h; exact h; exact absurd ((nH TQ hk).1 h) aDu
    refine WE.skip (WE.aA (WL.mv rfl rfl ?_))
    refine WL.aZ rfl u4 rfl rfl (by exact aK.aF (H.p 1 rfl) (aJ.all _) (by rfl)) ?_
    refine WL.mv rfl rfl (WL.mv rfl rfl (WL.mv rfl rfl ?_))
    rw [hFe]
    refine WL.call aFk rfl (aBY (aa := af) (ab := a37) (q := q_) (u := u_) (k := k) (vv := lv) (sa := sf) (sb := s37) (d := T.dp k d + d) (bits := bits) H.aS (H.o 0 rfl) (by exact H.aL 0 rfl 6 rfl) (by exact (H.aL 0 rfl 7 rfl).imp fun _ h => hFe ▸ (h.iF (T.dp k d))) (by exact H.aL 0 rfl 0 rfl) (by exact H.aL 0 rfl 8 rfl) bS TQ hk aDy BQ) ?_
    rintro _ TI ⟨aGh, aIU, rfl, ZG, hO, hB, hR⟩
    replace H := H.c9 0 rfl hO hB hR
    refine WL.qQ RD rfl rfl (aAr (E := aGh) (bs := nK T k d (T.dp k d)) (k := k) (s := s) (sl := q) (d := d) (bits := bits) H.aS (H.o 0 rfl) (by exact H.aL 0 rfl 7 rfl) (by exact H.aL 0 rfl 0 rfl) (by exact (H.aL 0 rfl 8 rfl).imp fun _ h => aBG h) (by exact (H.aL 0 rfl 6 rfl).imp fun _ h => AY h) (by exact (H.aL 0 rfl 5 rfl).imp fun _ h => aK.rd h) (by exact (H.aL 0 rfl 2 rfl).imp fun _ h => aK.rd h) (by exact (H.aL 0 rfl 3 rfl).imp fun _ h => aK.rd h) (by exact (H.aL 0 rfl 4 rfl).imp fun _ h => aK.rd h) (by exact H.aL 0 rfl 9 rfl) bS hk (by rw [xS]; omega) (B4 aGh.er (by omega) (by rw [ZG, tH]; omega))) ?_
    rintro _ YF ⟨aIt, aIT, rfl, aDY, hO, hB, hR⟩
    replace H := H.c9 0 rfl hO hB hR
    refine WL.as rfl rfl (WL.nil (WE.ret ⟨[_], _, .nil _, ⟨rfl, trivial⟩, ?_⟩))
    refine ⟨aIt, _, rfl, ?_, H.cM, H.o 0 rfl, H.fM (H.bN 0 rfl)⟩
    rw [aDY]
    refine (wE (k := k) (v := lv) ?_).trans (hT ▸ wD ⟨k, s, lv⟩ hk qK hs FK)
    rw [hFe, ZG]; exact if_neg aDu
theorem k7.pm {m : List En} (h : k7 m) (hk : KL m) : Pm 0 m := Pm.zero hk h.L9
theorem aBX {X : Nat → Prop} {w : World} {bh bc : Nat} {bits c0 : Int} {T : Tr} {M : List En} {k lv : List UInt8} {s : Value} (hX : cW X w) (eR : aK w bc 213 ([.int .i64 c0])) (bU : aH (fun c_ => X c_ ∨ c_ = bc) (fJ bh bc bits) w) (dA : aH (fun c_ => X c_ ∨ c_ = bc) (cQ bits T) w) (fO : aH (fun c_ => X c_ ∨ c_ = bc) (aW) w) (bS : 0 ≤ bits ∧ bits ≤ 256) (hk : k.length = 32) (wX : lv.length ≤ 1000000) (hw : aH (fun c => c = bc) (bI s lv) w) (hT : T.er = grow 0 M) (hkM : KL M) (hs : k7 M) (yQ : M.length ≤ 100000000) :
  bD Tryz.prog 50 [.pointer (some ⟨bh, 0, none⟩), T.ptr, .agg (kc k ++ [s]).toArray].toArray w fun v w' => ∃ (T : Tr) (m : Int), v = T.ptr ∧ T.er = grow 0 (gL M ⟨k, s, lv⟩) ∧ Out (· = bc) w w' ∧ aK w' bc 213 [.int .i64 m] ∧ aH (fun c => X c ∨ c = bc) (cQ bits T) w' := by
 refine bD.aI (N := 11) Tryz.func50 rfl rfl (by simp) ?_
 have H := St.c6 (b := bc) (t := 213) (l := [.int .i64 c0]) hX eR
 replace H := H.add (bY fO)
 replace H := H.add (bY dA)
 replace H := H.add (bY bU)
 have hs1 : s.oneCell' = true := cS.fG hw.here
 refine WE.aA ?_
 refine WL.box (l := kc k ++ [s]) H rfl (rfl) rfl ?_
 intro b5 w1 H
 refine WL.as rfl rfl (WL.nil (WE.aA (WL.mv rfl rfl (WL.mv rfl rfl ?_))))
 refine WL.bG rfl oS rfl rfl (by exact aK.aF (H.l 0 rfl) (aJ.all _) (by rfl)) (cI fL (by simp only [aR, aU, aB]; omega)) ?_
 refine WL.call aHS rfl (US (M := M) (k := k) (lv := lv) (s := s) (d := 0) (bits := bits) H.aS (H.o 0 rfl) (by exact H.aL 0 rfl 0 rfl) (by exact H.aL 0 rfl 1 rfl) (by exact H.aL 0 rfl 2 rfl) bS hk wX (H.CO H.l5 hw rfl) hT (hs.pm hkM) hs (u5.zero _ _) yQ) ?_
 rintro _ w2 ⟨aIC, aI5, rfl, aD9, hO, hB, hR⟩
 replace H := H.c9 0 rfl hO hB hR
 refine WL.as rfl rfl (WL.nil (WE.ret ⟨[_], _, .nil _, ⟨rfl, trivial⟩, ?_⟩))
 exact ⟨aIC, _, rfl, aD9, H.cM, H.o 0 rfl, H.fM (H.bN 0 rfl)⟩
def kv (e : En) : List UInt8 × List UInt8 := (e.k, e.v)
theorem IZ {m m' : List En} {d b : Nat} (h : m.map kv = m'.map kv) : (bR m d b).map kv = (bR m' d b).map kv := by
 have e : ∀ l : List En, (bR l d b).map kv = (l.map kv).filter fun p => bH p.1 d == b := fun l => by
  unfold bR
  rw [List.filter_map]; rfl
 rw [e, e, h]
theorem Q0 : ∀ (n d : Nat) (m m' : List En), m.map kv = m'.map kv → D9 n d m = D9 n d m' := by
 intro n
 induction n with
 | zero =>
  intro d m m' h
  match m, m', h with
  | [], [], _ => rfl
  | [a], [b], h => simp [kv] at h; show Sh.leaf _ _ = Sh.leaf _ _; rw [h.1, h.2]
  | [_], _ :: _ :: _, h => simp at h
  | _ :: _ :: _, [_], h => simp at h
  | a :: x :: m, b :: y :: m', h => simp [kv] at h; show Sh.leaf _ _ = Sh.leaf _ _; rw [h.1.1, h.1.2]
 | succ n ih =>
  intro d m m' h
  match m, m', h with
  | [], [], _ => rfl
  | [a], [b], h => simp [kv] at h; show Sh.leaf _ _ = Sh.leaf _ _; rw [h.1, h.2]
  | [_], _ :: _ :: _, h => simp at h
  | _ :: _ :: _, [_], h => simp at h
  | a :: x :: m, b :: y :: m', h =>
   show Sh.inner _ _ = Sh.inner _ _
   rw [ih _ _ _ (IZ h), ih _ _ _ (IZ h)]
theorem JI {d : Nat} {m m' : List En} (h : m.map kv = m'.map kv) : grow d m = grow d m' := Q0 _ d m m' h
theorem k7.ext : ∀ {a b : List En}, k7 a → k7 b → (∀ e, e ∈ a ↔ e ∈ b) → a = b
 | [], [], _, _, _ => rfl
 | [], y :: b, _, _, h => by have := (h y).2 (by simp); cases this
 | x :: a, [], _, _, h => by have := (h x).1 (by simp); cases this
 | x :: a, y :: b, ha, hb, h => by
  have ha1 := List.pairwise_cons.1 ha
  have FL := List.pairwise_cons.1 hb
  have hxy : x = y := by
   rcases List.mem_cons.1 ((h x).1 (by simp)) with h1 | h1
   ·
    exact h1
   ·
    rcases List.mem_cons.1 ((h y).2 (by simp)) with h2 | h2
    ·
     exact h2.symm
    ·
     have := FL.1 x h1; have := ha1.1 y h2; omega
  subst hxy
  congr 1
  refine k7.ext ha1.2 FL.2 fun e => ⟨fun he => ?_, fun he => ?_⟩
  ·
   rcases List.mem_cons.1 ((h e).1 (List.mem_cons_of_mem _ he)) with h1 | h1
   ·
    subst h1; have := ha1.1 e he; omega
   ·
    exact h1
  ·
   rcases List.mem_cons.1 ((h e).2 (List.mem_cons_of_mem _ he)) with h1 | h1
   ·
    subst h1; have := FL.1 e he; omega
   ·
    exact h1
theorem wB {X : Nat → Prop} {w : World} {b9 b5 b8 : Nat} {N R : Value} (hX : cW X w) (eR : aK w b8 39 ([R])) (bU : aH (fun c_ => X c_ ∨ c_ = b8) (fun w => cX w ⟨b9, 0, none⟩ [.bool true]) w) (dA : aH (fun c_ => X c_ ∨ c_ = b8) (fun w => cX w ⟨b5, 0, none⟩ [N]) w) :
  HP Tryz.prog 139 [.pointer (some ⟨b9, 0, none⟩), .pointer (some ⟨b5, 0, none⟩), .pointer (some ⟨b8, 0, none⟩)].toArray w fun w' => Out (· = b8) w w' ∧ aK w' b8 39 [R] := by
 refine HP.aI (N := 6) Tryz.func139 rfl rfl (by simp) ?_
 have H := St.c6 (b := b8) (t := 39) (l := [R]) hX eR
 replace H := H.add (bY dA)
 replace H := H.add (bY bU)
 refine WE.aA (WL.aZ rfl uD rfl rfl (H.p 0 rfl) (WL.pv (PV.not rfl rfl) rfl (WL.nil ?_)))
 refine WE.bB rfl rfl ?_
 refine WE.skip ?_
 refine ⟨rfl, ⟨[], trivial⟩, ?_⟩
 exact ⟨H.cM, H.o 0 rfl⟩
theorem rY {X : Nat → Prop} {w : World} {b9 b5 b8 : Nat} {N R : Value} (hX : cW X w) (eR : aK w b8 39 ([R])) (bU : aH (fun c_ => X c_ ∨ c_ = b8) (fun w => cX w ⟨b9, 0, none⟩ [.bool false]) w) (dA : aH (fun c_ => X c_ ∨ c_ = b8) (fun w => cX w ⟨b5, 0, none⟩ [N]) w) (hN : N.oneCell' = true) :
  HP Tryz.prog 139 [.pointer (some ⟨b9, 0, none⟩), .pointer (some ⟨b5, 0, none⟩), .pointer (some ⟨b8, 0, none⟩)].toArray w fun w' => Out (· = b8) w w' ∧ aK w' b8 39 [N] := by
 refine HP.aI (N := 6) Tryz.func139 rfl rfl (by simp) ?_
 have H := St.c6 (b := b8) (t := 39) (l := [R]) hX eR
 replace H := H.add (bY dA)
 replace H := H.add (bY bU)
 refine WE.aA (WL.aZ rfl uD rfl rfl (H.p 0 rfl) (WL.pv (PV.not rfl rfl) rfl (WL.nil ?_)))
 refine WE.cO rfl rfl ?_
 refine WE.eM (WL.aZ rfl gZ rfl rfl (H.p 1 rfl) ?_)
 refine WL.kV H 0 rfl rfl rfl (new := [N]) (cells_one hN) (by exact lC) (dV hN) (Laid.at (Laid.all (by simp only [aR, aU, aB])) (by rfl)) rfl ?_
 intro w1 H
 refine WL.nil ?_
 refine ⟨rfl, ⟨[], trivial⟩, ?_⟩
 exact ⟨H.cM, H.o 0 rfl⟩
def iQ (m : List En) (k : List UInt8) : Bool := (getM m k).isSome
theorem LV {m : List En} {k : List UInt8} {d : Nat} : iQ (bR m d (bH k d)) k = iQ m k := by unfold iQ; rw [zU]
theorem A1 {m : List En} {k : List UInt8} (h : iQ m k = false) : eY m k = m := by
 unfold eY
 rw [List.filter_eq_self]
 intro e he
 simp
 intro hk
 unfold iQ getM at h
 have : (m.find? fun e => e.k == k) = none := by simpa using h
 rw [List.find?_eq_none] at this
 exact this e he (by simpa using hk)
theorem XP {X : Nat → Prop} {w : World} {bh bc : Nat} {bits c0 : Int} {M : List En} {k : List UInt8} {d : Nat}  (hX : cW X w) (eR : aK w bc 213 ([.int .i64 c0])) (bU : aH (fun c_ => X c_ ∨ c_ = bc) (fJ bh bc bits) w) (dA : aH (fun c_ => X c_ ∨ c_ = bc) (aW) w) (bS : 0 ≤ bits ∧ bits ≤ 256) (hk : k.length = 32) (hT : Tr.nil.er = grow d M) (qK : Pm d M) :
  bD Tryz.prog 91 [.pointer (some ⟨bh, 0, none⟩), Tr.nil.ptr, .agg (kc k).toArray, .int .i64 (d : Int)].toArray w fun v w' => ∃ (T : Tr) (c : Int) (f : Bool), v = .tuple [T.ptr, .bool f].toArray ∧ T.er = grow d (eY M k) ∧ f = iQ M k ∧ (f = false → T = Tr.nil ∧ c = c0) ∧ Out (· = bc) w w' ∧ aK w' bc 213 [.int .i64 c] ∧ aH (fun c => X c ∨ c = bc) (cQ bits T) w' := by
 refine bD.r9 (N := 57) Tryz.func91 rfl rfl (by simp) ?_
 have H := St.c6 (b := bc) (t := 213) (l := [.int .i64 c0]) hX eR
 replace H := H.add (bY dA)
 replace H := H.add (bY bU)
 obtain rfl : M = [] := (by have h_ := qK.fU; rw [← hT] at h_; exact List.eq_nil_of_length_eq_zero h_.symm)
 refine WE.aA ?_
 refine WL.box (l := [Tr.nil.ptr]) H rfl (rfl) rfl ?_
 intro b5 w1 H
 refine WL.box (l := kc k) H rfl (by rfl) rfl ?_
 intro b6 w2 H
 refine WL.alloc H rfl KK rfl ?_
 intro b8 w3 H
 refine WL.alloc H rfl ze4 rfl ?_
 intro b9 w4 H
 refine WL.nil (WE.aA (WL.pv (PV.makeFunc rfl) rfl ?_))
 refine WL.defer rfl rfl rfl rfl rfl ?_
 refine WL.nil (WE.seq (WE.aA ?_))
 refine WL.aZ rfl gZ rfl rfl (by exact aK.aF (H.l 3 rfl) (aJ.all _) (by rfl)) ?_
 refine WL.call mJ rfl (fC (T := .nil) (bits := bits) H.aS (by exact fun _ _ => trivial) ) ?_
 rintro _ w5 ⟨rfl, hO⟩
 replace H := H.out hO
 refine WL.nil (WE.block (WE.aA (WL.pv (PV.eql rfl rfl rfl) rfl (WL.as rfl rfl (WL.nil ?_)))))
 refine WE.bB rfl rfl ?_
 refine WE.aA (WL.pv (PV.eql rfl rfl rfl) rfl (WL.as rfl rfl (WL.nil ?_)))
 refine WE.bB rfl rfl ?_
 refine WE.skip ?_
 refine WE.bF (.take 0 (.take 1 (.aG 2 (.aG 3 .done)))) mixed (by kernel_rfl) ?_
 replace H := H.out (Out.drew _)
 refine WP.aQ rfl rfl (RV.aY rfl gZ rfl) (by exact aK.aF (H.l 1 rfl) (aJ.all _) (by rfl)) ?_
 refine WP.aQ rfl rfl (RV.aY rfl uD rfl) (by exact aK.aF (H.l 0 rfl) (aJ.all _) (by rfl)) ?_
 refine WP.aG rfl ?_
 refine WL.aT H 1 rfl rfl rfl (new := _) rfl (by exact lC) (by exact bC _ rfl) (Laid.at (Laid.all (by simp only [aR, aU, aB])) (by rfl)) rfl ?_
 intro w6 H
 refine WL.nil ⟨(fa (fun _ _ => (by exact aK.aF (H.l 0 rfl) (aJ.all _) (by rfl))) (fa (nw 2 0 (by decide +kernel)) cV)), ?_⟩
 refine WP.aG rfl ?_
 refine WL.aT H 0 rfl rfl rfl (new := _) rfl (by exact UA) (by exact bC _ rfl) (Laid.at (Laid.all (by simp only [aR, aU, aB])) (by rfl)) rfl ?_
 intro w7 H
 refine WL.nil ⟨(fa (nw 3 1 (by decide +kernel)) (fa (nw 3 0 (by decide +kernel)) cV)), ?_⟩
 refine WP.done (WE.ret ?_)
 refine Or.inr ⟨_, _, _, _, rfl, xG, (by exact rY (X := Nil) (mY _) (H.l 1 rfl) (((H.lE 1 0 rfl rfl (by decide)).imp fun _ h => aK.rd h).FH) (((H.lE 1 3 rfl rfl (by decide)).imp fun _ h => aK.rd h).FH) rfl), ?_⟩
 rintro w8 ⟨hO, hB⟩
 replace H := H.called 1 rfl hO hB
 refine ⟨[_, _], ⟨⟨_, rfl, cL gZ (by exact aK.aF (H.l 1 rfl) (aJ.all _) rfl)⟩, ⟨_, rfl, cL uD (by exact aK.aF (H.l 0 rfl) (aJ.all _) rfl)⟩, trivial⟩, ?_⟩
 refine ⟨.nil, c0, false, rfl, ?_, ?_, ?_, H.cM, H.o 0 rfl, ?_⟩
 ·
  exact (eD d).symm
 ·
  rfl
 ·
  exact fun _ => ⟨rfl, rfl⟩
 ·
  exact fun _ _ => trivial
theorem HO {X : Nat → Prop} {w : World} {bh bc : Nat} {bits c0 : Int} {M : List En} {k : List UInt8} {d : Nat} {a : Nat} {q u : List UInt8} {s : Value} (hX : cW X w) (eR : aK w bc 213 ([.int .i64 c0])) (bU : aH (fun c_ => X c_ ∨ c_ = bc) (fJ bh bc bits) w) (dA : aH (fun c_ => X c_ ∨ c_ = bc) (cQ bits (Tr.leaf a q u s)) w) (fO : aH (fun c_ => X c_ ∨ c_ = bc) (aW) w) (bS : 0 ≤ bits ∧ bits ≤ 256) (hk : k.length = 32) (hT : (Tr.leaf a q u s).er = grow d M) (qK : Pm d M) (TQ : q = k) :
  bD Tryz.prog 91 [.pointer (some ⟨bh, 0, none⟩), (Tr.leaf a q u s).ptr, .agg (kc k).toArray, .int .i64 (d : Int)].toArray w fun v w' => ∃ (T : Tr) (c : Int) (f : Bool), v = .tuple [T.ptr, .bool f].toArray ∧ T.er = grow d (eY M k) ∧ f = iQ M k ∧ (f = false → T = (Tr.leaf a q u s) ∧ c = c0) ∧ Out (· = bc) w w' ∧ aK w' bc 213 [.int .i64 c] ∧ aH (fun c => X c ∨ c = bc) (cQ bits T) w' := by
 refine bD.r9 (N := 57) Tryz.func91 rfl rfl (by simp) ?_
 have H := St.c6 (b := bc) (t := 213) (l := [.int .i64 c0]) hX eR
 replace H := H.add (bY fO)
 replace H := H.add (bY dA)
 replace H := H.add (bY bU)
 obtain ⟨e, rfl⟩ : ∃ e, M = [e] := by have h_ := qK.fU; rw [← hT] at h_; exact List.length_eq_one_iff.1 h_.symm
 rw [dI] at hT
 have hqe : q = e.k := by injection hT
 have hvu := fY bits u
 have hq : q.length = 32 := by rw [hqe]; exact qK.kl e (by simp)
 refine WE.aA ?_
 refine WL.box (l := [(Tr.leaf a q u s).ptr]) H rfl (rfl) rfl ?_
 intro b5 w1 H
 refine WL.box (l := kc k) H rfl (by rfl) rfl ?_
 intro b6 w2 H
 refine WL.alloc H rfl KK rfl ?_
 intro b8 w3 H
 refine WL.alloc H rfl ze4 rfl ?_
 intro b9 w4 H
 refine WL.nil (WE.aA (WL.pv (PV.makeFunc rfl) rfl ?_))
 refine WL.defer rfl rfl rfl rfl rfl ?_
 refine WL.nil (WE.seq (WE.aA ?_))
 refine WL.aZ rfl gZ rfl rfl (by exact aK.aF (H.l 3 rfl) (aJ.all _) (by rfl)) ?_
 refine WL.call mJ rfl (fC (T := (Tr.leaf a q u s)) (bits := bits) H.aS (by exact H.bN 1 rfl) ) ?_
 rintro _ w5 ⟨rfl, hO⟩
 replace H := H.out hO
 refine WL.nil (WE.block (WE.aA (WL.pv (PV.eql rfl rfl rfl) rfl (WL.as rfl rfl (WL.nil ?_)))))
 refine WE.cO rfl rfl ?_
 refine WE.bF (.take 0 (.take 3 (.aG 1 (.take 2 (.take 4 (.aG 5 (.aG 6 .done))))))) mixed (by kernel_rfl) ?_
 replace H := H.out (Out.drew _)
 refine WP.aQ rfl rfl (RV.aY rfl gZ rfl) (by exact aK.aF (H.l 3 rfl) (aJ.all _) (by rfl)) ?_
 refine WP.dF rfl rfl rfl cU rfl (by exact aK.aF (H.l 2 rfl) (aJ.all _) (by rfl)) (cI cN (by simp only [aR, aU, aB]; omega)) ?_
 refine WP.aG rfl ?_
 refine WL.call EE rfl (show bD _ _ _ _ (fun v w' => v = .agg (kc q ++ kc (mQ bits u)).toArray ∧ Out Nil _ w') from mE (T := (Tr.leaf a q u s)) (bits := bits) H.aS (H.bN 1 rfl)) ?_
 rintro _ w6 ⟨rfl, hO⟩
 replace H := H.out hO
 refine WL.nil ⟨(fa (fun _ _ => (by exact aK.aF (H.l 2 rfl) (aJ.all _) (by rfl))) (fa (nw 1 0 (by decide +kernel)) cV)), ?_⟩
 refine WP.aC rfl rfl (PV.kX rfl kD rfl (dR.agg cU (cI cN (by simp only [aR, aU, aB]; omega)) (aJ.l (aJ.all _)))) ?_
 refine WP.aC rfl rfl (PV.eq (v' := .bool true) (PV.EI rfl gQ pI iB (by kernel_rfl) rfl rfl hq hk) (by simp [TQ])) ?_
 refine WP.aG rfl ?_
 refine WL.aT H 1 rfl rfl rfl (new := _) rfl (by exact lC) (by exact bC _ rfl) (Laid.at (Laid.all (by simp only [aR, aU, aB])) (by rfl)) rfl ?_
 intro w7 H
 refine WL.nil ⟨(fa (fun _ _ => (by exact aK.aF (H.l 2 rfl) (aJ.all _) (by rfl))) (fa (nw 5 0 (by decide +kernel)) cV)), ?_⟩
 refine WP.aG rfl ?_
 refine WL.aT H 0 rfl rfl rfl (new := _) rfl (by exact UA) (by exact bC _ rfl) (Laid.at (Laid.all (by simp only [aR, aU, aB])) (by rfl)) rfl ?_
 intro w8 H
 refine WL.nil ⟨(fa (nw 6 3 (by decide +kernel)) (fa (nw 6 0 (by decide +kernel)) cV)), ?_⟩
 refine WP.done (WE.ret ?_)
 refine Or.inr ⟨_, _, _, _, rfl, xG, (by exact wB (X := Nil) (mY _) (H.l 1 rfl) (((H.lE 1 0 rfl rfl (by decide)).imp fun _ h => aK.rd h).FH) (((H.lE 1 3 rfl rfl (by decide)).imp fun _ h => aK.rd h).FH)), ?_⟩
 rintro w9 ⟨hO, hB⟩
 replace H := H.called 1 rfl hO hB
 refine ⟨[_, _], ⟨⟨_, rfl, cL gZ (by exact aK.aF (H.l 1 rfl) (aJ.all _) rfl)⟩, ⟨_, rfl, cL uD (by exact aK.aF (H.l 0 rfl) (aJ.all _) rfl)⟩, trivial⟩, ?_⟩
 refine ⟨.nil, c0, true, rfl, ?_, ?_, ?_, H.cM, H.o 0 rfl, ?_⟩
 ·
  rw [show eY [e] k = [] by simp [eY, ← hqe, TQ], eD]; rfl
 ·
  simp [iQ, getM, ← hqe, TQ]
 ·
  exact fun h => by cases h
 ·
  exact fun _ _ => trivial
theorem HN {X : Nat → Prop} {w : World} {bh bc : Nat} {bits c0 : Int} {M : List En} {k : List UInt8} {d : Nat} {a : Nat} {q u : List UInt8} {s : Value} (hX : cW X w) (eR : aK w bc 213 ([.int .i64 c0])) (bU : aH (fun c_ => X c_ ∨ c_ = bc) (fJ bh bc bits) w) (dA : aH (fun c_ => X c_ ∨ c_ = bc) (cQ bits (Tr.leaf a q u s)) w) (fO : aH (fun c_ => X c_ ∨ c_ = bc) (aW) w) (bS : 0 ≤ bits ∧ bits ≤ 256) (hk : k.length = 32) (hT : (Tr.leaf a q u s).er = grow d M) (qK : Pm d M) (TQ : q ≠ k) :
  bD Tryz.prog 91 [.pointer (some ⟨bh, 0, none⟩), (Tr.leaf a q u s).ptr, .agg (kc k).toArray, .int .i64 (d : Int)].toArray w fun v w' => ∃ (T : Tr) (c : Int) (f : Bool), v = .tuple [T.ptr, .bool f].toArray ∧ T.er = grow d (eY M k) ∧ f = iQ M k ∧ (f = false → T = (Tr.leaf a q u s) ∧ c = c0) ∧ Out (· = bc) w w' ∧ aK w' bc 213 [.int .i64 c] ∧ aH (fun c => X c ∨ c = bc) (cQ bits T) w' := by
 refine bD.r9 (N := 57) Tryz.func91 rfl rfl (by simp) ?_
 have H := St.c6 (b := bc) (t := 213) (l := [.int .i64 c0]) hX eR
 replace H := H.add (bY fO)
 replace H := H.add (bY dA)
 replace H := H.add (bY bU)
 obtain ⟨e, rfl⟩ : ∃ e, M = [e] := by have h_ := qK.fU; rw [← hT] at h_; exact List.length_eq_one_iff.1 h_.symm
 rw [dI] at hT
 have hqe : q = e.k := by injection hT
 have hvu := fY bits u
 have hq : q.length = 32 := by rw [hqe]; exact qK.kl e (by simp)
 refine WE.aA ?_
 refine WL.box (l := [(Tr.leaf a q u s).ptr]) H rfl (rfl) rfl ?_
 intro b5 w1 H
 refine WL.box (l := kc k) H rfl (by rfl) rfl ?_
 intro b6 w2 H
 refine WL.alloc H rfl KK rfl ?_
 intro b8 w3 H
 refine WL.alloc H rfl ze4 rfl ?_
 intro b9 w4 H
 refine WL.nil (WE.aA (WL.pv (PV.makeFunc rfl) rfl ?_))
 refine WL.defer rfl rfl rfl rfl rfl ?_
 refine WL.nil (WE.seq (WE.aA ?_))
 refine WL.aZ rfl gZ rfl rfl (by exact aK.aF (H.l 3 rfl) (aJ.all _) (by rfl)) ?_
 refine WL.call mJ rfl (fC (T := (Tr.leaf a q u s)) (bits := bits) H.aS (by exact H.bN 1 rfl) ) ?_
 rintro _ w5 ⟨rfl, hO⟩
 replace H := H.out hO
 refine WL.nil (WE.block (WE.aA (WL.pv (PV.eql rfl rfl rfl) rfl (WL.as rfl rfl (WL.nil ?_)))))
 refine WE.cO rfl rfl ?_
 refine WE.bF (.take 0 (.take 3 (.aG 1 (.take 2 (.take 4 (.aG 5 (.aG 6 .done))))))) mixed (by kernel_rfl) ?_
 replace H := H.out (Out.drew _)
 refine WP.aQ rfl rfl (RV.aY rfl gZ rfl) (by exact aK.aF (H.l 3 rfl) (aJ.all _) (by rfl)) ?_
 refine WP.dF rfl rfl rfl cU rfl (by exact aK.aF (H.l 2 rfl) (aJ.all _) (by rfl)) (cI cN (by simp only [aR, aU, aB]; omega)) ?_
 refine WP.aG rfl ?_
 refine WL.call EE rfl (show bD _ _ _ _ (fun v w' => v = .agg (kc q ++ kc (mQ bits u)).toArray ∧ Out Nil _ w') from mE (T := (Tr.leaf a q u s)) (bits := bits) H.aS (H.bN 1 rfl)) ?_
 rintro _ w6 ⟨rfl, hO⟩
 replace H := H.out hO
 refine WL.nil ⟨(fa (fun _ _ => (by exact aK.aF (H.l 2 rfl) (aJ.all _) (by rfl))) (fa (nw 1 0 (by decide +kernel)) cV)), ?_⟩
 refine WP.aC rfl rfl (PV.kX rfl kD rfl (dR.agg cU (cI cN (by simp only [aR, aU, aB]; omega)) (aJ.l (aJ.all _)))) ?_
 refine WP.aC rfl rfl (PV.eq (v' := .bool false) (PV.EI rfl gQ pI iB (by kernel_rfl) rfl rfl hq hk) (by simp [TQ])) ?_
 refine WP.aG rfl ?_
 refine WL.aT H 1 rfl rfl rfl (new := _) rfl (by exact lC) (by exact bC _ rfl) (Laid.at (Laid.all (by simp only [aR, aU, aB])) (by rfl)) rfl ?_
 intro w7 H
 refine WL.nil ⟨(fa (fun _ _ => (by exact aK.aF (H.l 2 rfl) (aJ.all _) (by rfl))) (fa (nw 5 0 (by decide +kernel)) cV)), ?_⟩
 refine WP.aG rfl ?_
 refine WL.aT H 0 rfl rfl rfl (new := _) rfl (by exact UA) (by exact bC _ rfl) (Laid.at (Laid.all (by simp only [aR, aU, aB])) (by rfl)) rfl ?_
 intro w8 H
 refine WL.nil ⟨(fa (nw 6 3 (by decide +kernel)) (fa (nw 6 0 (by decide +kernel)) cV)), ?_⟩
 refine WP.done (WE.ret ?_)
 refine Or.inr ⟨_, _, _, _, rfl, xG, (by exact rY (X := Nil) (mY _) (H.l 1 rfl) (((H.lE 1 0 rfl rfl (by decide)).imp fun _ h => aK.rd h).FH) (((H.lE 1 3 rfl rfl (by decide)).imp fun _ h => aK.rd h).FH) rfl), ?_⟩
 rintro w9 ⟨hO, hB⟩
 replace H := H.called 1 rfl hO hB
 refine ⟨[_, _], ⟨⟨_, rfl, cL gZ (by exact aK.aF (H.l 1 rfl) (aJ.all _) rfl)⟩, ⟨_, rfl, cL uD (by exact aK.aF (H.l 0 rfl) (aJ.all _) rfl)⟩, trivial⟩, ?_⟩
 refine ⟨(Tr.leaf a q u s), c0, false, rfl, ?_, ?_, ?_, H.cM, H.o 0 rfl, ?_⟩
 ·
  rw [show eY [e] k = [e] by simp [eY, ← hqe, TQ], dI]; exact hT
 ·
  simp [iQ, getM, ← hqe, TQ]
 ·
  exact fun _ => ⟨rfl, rfl⟩
 ·
  exact H.fM (H.bN 1 rfl)
theorem UO {m : List En} {k : List UInt8} {d : Nat} (h : Pm d m) (hd : d < 256) : (bH k d = 0 → jW (grow (d + 1) (eY (bR m d 0) k)) (grow (d + 1) (bR m d 1)) = grow d (eY m k)) ∧ (bH k d ≠ 0 → jW (grow (d + 1) (bR m d 0)) (grow (d + 1) (eY (bR m d 1) k)) = grow d (eY m k)) := by
 have e := oB (OH (k := k) h) hd
 rw [rZ, rZ] at e
 have hb := eA k d
 constructor
 ·
  intro h0
  rw [tE (b := 1) (by omega)] at e
  exact e
 ·
  intro h0
  rw [tE (b := 0) (by omega)] at e
  exact e
def aBW (T : Tr) : Prop := ∀ {X : Nat → Prop} {w : World} {bh bc : Nat} {bits c0 : Int} {M : List En} {k : List UInt8} {d : Nat}, (∀ b, X b → b < w.heap.size) → aK w bc 213 [.int .i64 c0] → aH (fun c => X c ∨ c = bc) (fJ bh bc bits) w → aH (fun c => X c ∨ c = bc) (cQ bits T) w → aH (fun c => X c ∨ c = bc) aW w →
 0 ≤ bits ∧ bits ≤ 256 → k.length = 32 → T.er = grow d M → Pm d M → M.length ≤ 1000000000 →
 bD Tryz.prog 91 [.pointer (some ⟨bh, 0, none⟩), T.ptr, .agg (kc k).toArray, .int .i64 (d : Int)].toArray w fun v w' => ∃ (T' : Tr) (c : Int) (f : Bool), v = .tuple [T'.ptr, .bool f].toArray ∧ T'.er = grow d (eY M k) ∧ f = iQ M k ∧ (f = false → T' = T ∧ c = c0) ∧ Out (· = bc) w w' ∧ aK w' bc 213 [.int .i64 c] ∧ aH (fun c => X c ∨ c = bc) (cQ bits T') w'
theorem MT {X : Nat → Prop} {w : World} {bh bc : Nat} {bits c0 : Int} {M : List En} {k : List UInt8} {d : Nat} {a : Nat} {l r : Tr} (hX : cW X w) (eR : aK w bc 213 ([.int .i64 c0])) (bU : aH (fun c_ => X c_ ∨ c_ = bc) (fJ bh bc bits) w) (dA : aH (fun c_ => X c_ ∨ c_ = bc) (cQ bits (Tr.inner a l r)) w) (fO : aH (fun c_ => X c_ ∨ c_ = bc) (aW) w) (bS : 0 ≤ bits ∧ bits ≤ 256) (hk : k.length = 32) (hT : (Tr.inner a l r).er = grow d M) (qK : Pm d M) (hlen : M.length ≤ 1000000000) (ihl : aBW l) (ihr : aBW r) :
  bD Tryz.prog 91 [.pointer (some ⟨bh, 0, none⟩), (Tr.inner a l r).ptr, .agg (kc k).toArray, .int .i64 (d : Int)].toArray w fun v w' => ∃ (T : Tr) (c : Int) (f : Bool), v = .tuple [T.ptr, .bool f].toArray ∧ T.er = grow d (eY M k) ∧ f = iQ M k ∧ (f = false → T = (Tr.inner a l r) ∧ c = c0) ∧ Out (· = bc) w w' ∧ aK w' bc 213 [.int .i64 c] ∧ aH (fun c => X c ∨ c = bc) (cQ bits T) w' := by
 refine bD.r9 (N := 57) Tryz.func91 rfl rfl (by simp) ?_
 have H := St.c6 (b := bc) (t := 213) (l := [.int .i64 c0]) hX eR
 replace H := H.add (bY fO)
 replace H := H.add (bY dA)
 replace H := H.add (bY bU)
 have h2m : 2 ≤ M.length := (nD qK).1 (by rw [← hT]; rfl)
 have hd := qK.lt h2m
 have FM := hT
 rw [jF d M hd h2m] at FM
 have P7 : l.er = grow (d + 1) (bR M d 0) := by injection FM
 have GK : r.er = grow (d + 1) (bR M d 1) := by injection FM
 have hb2 := eA k d
 have hrj := UO (k := k) qK hd
 have hhp := LV (m := M) (k := k) (d := d)
 refine WE.aA ?_
 refine WL.box (l := [(Tr.inner a l r).ptr]) H rfl (rfl) rfl ?_
 intro b5 w1 H
 refine WL.box (l := kc k) H rfl (by rfl) rfl ?_
 intro b6 w2 H
 refine WL.alloc H rfl KK rfl ?_
 intro b8 w3 H
 refine WL.alloc H rfl ze4 rfl ?_
 intro b9 w4 H
 refine WL.nil (WE.aA (WL.pv (PV.makeFunc rfl) rfl ?_))
 refine WL.defer rfl rfl rfl rfl rfl ?_
 refine WL.nil (WE.seq (WE.aA ?_))
 refine WL.aZ rfl gZ rfl rfl (by exact aK.aF (H.l 3 rfl) (aJ.all _) (by rfl)) ?_
 refine WL.call mJ rfl (fC (T := (Tr.inner a l r)) (bits := bits) H.aS (by exact H.bN 1 rfl) ) ?_
 rintro _ w5 ⟨rfl, hO⟩
 replace H := H.out hO
 refine WL.nil (WE.block (WE.aA (WL.pv (PV.eql rfl rfl rfl) rfl (WL.as rfl rfl (WL.nil ?_)))))
 refine WE.bB rfl rfl ?_
 refine WE.aA (WL.pv (PV.eql rfl rfl rfl) rfl (WL.as rfl rfl (WL.nil ?_)))
 refine WE.cO rfl rfl ?_
 refine WE.bF (.take 0 (.take 2 (.aG 1 (.aG 3 (.take 4 (.take 5 .done)))))) mixed (by kernel_rfl) ?_
 replace H := H.out (Out.drew _)
 refine WP.aQ rfl rfl (RV.aY rfl gZ rfl) (by exact aK.aF (H.l 3 rfl) (aJ.all _) (by rfl)) ?_
 refine WP.aQ rfl rfl (RV.aY rfl gZ rfl) (by exact aK.aF (H.l 3 rfl) (aJ.all _) (by rfl)) ?_
 refine WP.aG rfl ?_
 refine WL.call Z0 rfl (SX (T := (Tr.inner a l r)) (bits := bits) H.aS (by exact H.bN 1 rfl) ) ?_
 rintro _ w6 ⟨rfl, hO⟩
 replace H := H.out hO
 refine WL.nil ⟨(fa (fun _ _ => (by exact aK.aF (H.l 3 rfl) (aJ.all _) (by rfl))) (fa (nw 1 0 (by decide +kernel)) cV)), ?_⟩
 refine WP.aG rfl ?_
 refine WL.call ZZ rfl (E7 (T := (Tr.inner a l r)) (bits := bits) H.aS (by exact H.bN 1 rfl) ) ?_
 rintro _ w7 ⟨rfl, hO⟩
 replace H := H.out hO
 refine WL.nil ⟨(fa (nw 3 2 (by decide +kernel)) (fa (nw 3 0 (by decide +kernel)) cV)), ?_⟩
 refine WP.as rfl rfl rfl (WP.as rfl rfl rfl (WP.done (WE.seq (WE.aA ?_))))
 refine WL.bG rfl cU rfl rfl (by exact aK.aF (H.l 2 rfl) (aJ.all _) (by rfl)) (cI cN (by simp only [aR, aU, aB]; omega)) ?_
 refine WL.mv rfl rfl ?_
 refine WL.call ED rfl (jH (k := k) (d := d) H.aS  (by assumption) (by assumption)) ?_
 rintro _ w8 ⟨rfl, hO⟩
 replace H := H.out hO
 refine WL.pv (PV.eql rfl rfl rfl) rfl (WL.nil ?_)
 refine WE.cond rfl (fun j9 => ?_) (fun j9 => ?_)
 ·
  try simp only [bW] at j9
  have zS : bH k d = 0 := by omega
  refine WE.eM (WL.mv rfl rfl (WL.mv rfl rfl ?_))
  refine WL.bG rfl cU rfl rfl (by exact aK.aF (H.l 2 rfl) (aJ.all _) (by rfl)) (cI cN (by simp only [aR, aU, aB]; omega)) ?_
  refine WL.mv rfl rfl (WL.pv (PV.eq (v' := .int .i64 ((d + 1 : Nat) : Int)) (PV.bZ rfl rfl rfl (by omega) (by omega)) rfl) rfl ?_)
  refine WL.call aBt rfl (ihl (M := bR M d 0) (k := k) (d := d + 1) (bits := bits) H.aS (H.o 0 rfl) (by exact H.aL 0 rfl 0 rfl) (by exact (H.aL 0 rfl 1 rfl : aH _ (cQ bits (Tr.inner a l r)) _).imp fun _ h => cQ.left h) (by exact H.aL 0 rfl 2 rfl) bS hk P7 (qK.part hd 0) (Nat.le_trans (DG _ _ _) hlen)) ?_
  rintro _ w9 ⟨T38, c38, f38, rfl, aEc, aDP, aHn, hO, hB, hR⟩
  replace H := H.c9 0 rfl hO hB hR
  refine WL.mv rfl rfl (WL.pv (PV.extract rfl rfl rfl) rfl (WL.pv (PV.extract rfl rfl rfl) rfl (WL.as rfl rfl ?_)))
  refine WL.aT H 0 rfl rfl rfl (new := _) rfl (by exact UA) (by exact bC _ rfl) (Laid.at (Laid.all (by simp only [aR, aU, aB])) (by rfl)) rfl ?_
  intro vT H
  refine WL.nil (WE.aA ?_)
  refine WL.aZ rfl uD rfl rfl (by exact aK.aF (H.l 0 rfl) (aJ.all _) (by rfl)) ?_
  refine WL.nil ?_
  refine WE.cond rfl (fun mH => ?_) (fun mH => ?_)
  ·
   try simp only [bW] at mH
   (obtain rfl : f38 = true := mH)
   refine WE.eM (WL.mv rfl rfl (WL.mv rfl rfl (WL.mv rfl rfl ?_)))
   refine WL.call EG rfl ((by exact x7 (l := T38) (r := r) (bits := bits) H.aS (H.o 0 rfl) (by exact H.aL 0 rfl 1 rfl) (by exact H.aL 0 rfl 0 rfl) (by exact (H.aL 0 rfl 2 rfl : aH _ (cQ bits (Tr.inner a l r)) _).imp fun _ h => cQ.right h) (by exact H.aL 0 rfl 3 rfl) bS (by rw [aEc, GK, (OH (qK.part hd 0)).fU, (qK.part hd 1).fU]; have h1 := u9 (bR M d 0) k; have h2 := mV M d; omega))) ?_
   rintro _ y8 ⟨aBQ, aGV, rfl, QW, hO, hB, hR⟩
   replace H := H.c9 0 rfl hO hB hR
   refine WL.aT H 1 rfl rfl rfl (new := _) rfl (by exact lC) (by exact bC _ rfl) (Laid.at (Laid.all (by simp only [aR, aU, aB])) (by rfl)) rfl ?_
   intro IE H
   refine WL.nil ?_
   refine WE.bF (.take 0 (.take 1 (.aG 2 (.aG 3 .done)))) mixed (by kernel_rfl) ?_
   replace H := H.out (Out.drew _)
   refine WP.aQ rfl rfl (RV.aY rfl gZ rfl) (by exact aK.aF (H.l 1 rfl) (aJ.all _) (by rfl)) ?_
   refine WP.aQ rfl rfl (RV.aY rfl uD rfl) (by exact aK.aF (H.l 0 rfl) (aJ.all _) (by rfl)) ?_
   refine WP.aG rfl ?_
   refine WL.aT H 1 rfl rfl rfl (new := _) rfl (by exact lC) (by exact bC _ rfl) (Laid.at (Laid.all (by simp only [aR, aU, aB])) (by rfl)) rfl ?_
   intro FI H
   refine WL.nil ⟨(fa (fun _ _ => (by exact aK.aF (H.l 0 rfl) (aJ.all _) (by rfl))) (fa (nw 2 0 (by decide +kernel)) cV)), ?_⟩
   refine WP.aG rfl ?_
   refine WL.aT H 0 rfl rfl rfl (new := _) rfl (by exact UA) (by exact bC _ rfl) (Laid.at (Laid.all (by simp only [aR, aU, aB])) (by rfl)) rfl ?_
   intro KT H
   refine WL.nil ⟨(fa (nw 3 1 (by decide +kernel)) (fa (nw 3 0 (by decide +kernel)) cV)), ?_⟩
   refine WP.done (WE.ret ?_)
   refine Or.inr ⟨_, _, _, _, rfl, xG, (by exact wB (X := Nil) (mY _) (H.l 1 rfl) (((H.lE 1 0 rfl rfl (by decide)).imp fun _ h => aK.rd h).FH) (((H.lE 1 3 rfl rfl (by decide)).imp fun _ h => aK.rd h).FH)), ?_⟩
   rintro NR ⟨hO, hB⟩
   replace H := H.called 1 rfl hO hB
   refine ⟨[_, _], ⟨⟨_, rfl, cL gZ (by exact aK.aF (H.l 1 rfl) (aJ.all _) rfl)⟩, ⟨_, rfl, cL uD (by exact aK.aF (H.l 0 rfl) (aJ.all _) rfl)⟩, trivial⟩, ?_⟩
   (refine ⟨aBQ, _, true, rfl, ?_, ?_, fun h => (by cases h), H.cM, H.o 0 rfl, H.fM (H.bN 0 rfl)⟩; (rw [QW, aEc, GK]; exact hrj.1 zS); (rw [aDP, ← hhp, zS]))
  ·
   try simp only [bW] at mH
   (obtain rfl : f38 = false := mH)
   refine WE.skip ?_
   refine WE.bF (.take 0 (.take 1 (.aG 2 (.aG 3 .done)))) mixed (by kernel_rfl) ?_
   replace H := H.out (Out.drew _)
   refine WP.aQ rfl rfl (RV.aY rfl gZ rfl) (by exact aK.aF (H.l 1 rfl) (aJ.all _) (by rfl)) ?_
   refine WP.aQ rfl rfl (RV.aY rfl uD rfl) (by exact aK.aF (H.l 0 rfl) (aJ.all _) (by rfl)) ?_
   refine WP.aG rfl ?_
   refine WL.aT H 1 rfl rfl rfl (new := _) rfl (by exact lC) (by exact bC _ rfl) (Laid.at (Laid.all (by simp only [aR, aU, aB])) (by rfl)) rfl ?_
   intro TK H
   refine WL.nil ⟨(fa (fun _ _ => (by exact aK.aF (H.l 0 rfl) (aJ.all _) (by rfl))) (fa (nw 2 0 (by decide +kernel)) cV)), ?_⟩
   refine WP.aG rfl ?_
   refine WL.aT H 0 rfl rfl rfl (new := _) rfl (by exact UA) (by exact bC _ rfl) (Laid.at (Laid.all (by simp only [aR, aU, aB])) (by rfl)) rfl ?_
   intro TJ H
   refine WL.nil ⟨(fa (nw 3 1 (by decide +kernel)) (fa (nw 3 0 (by decide +kernel)) cV)), ?_⟩
   refine WP.done (WE.ret ?_)
   refine Or.inr ⟨_, _, _, _, rfl, xG, (by exact rY (X := Nil) (mY _) (H.l 1 rfl) (((H.lE 1 0 rfl rfl (by decide)).imp fun _ h => aK.rd h).FH) (((H.lE 1 3 rfl rfl (by decide)).imp fun _ h => aK.rd h).FH) rfl), ?_⟩
   rintro TI ⟨hO, hB⟩
   replace H := H.called 1 rfl hO hB
   refine ⟨[_, _], ⟨⟨_, rfl, cL gZ (by exact aK.aF (H.l 1 rfl) (aJ.all _) rfl)⟩, ⟨_, rfl, cL uD (by exact aK.aF (H.l 0 rfl) (aJ.all _) rfl)⟩, trivial⟩, ?_⟩
   (have hh : iQ M k = false := (by rw [← hhp, zS, ← aDP]); refine ⟨Tr.inner a l r, _, false, rfl, ?_, hh.symm, fun _ => ⟨rfl, (aHn rfl).2⟩, H.cM, H.o 0 rfl, H.fM (by exact H.bN 2 rfl)⟩; (rw [A1 hh]; exact hT))
 ·
  try simp only [bW] at j9
  have zS : bH k d = 1 := by omega
  refine WE.eM (WL.mv rfl rfl (WL.mv rfl rfl ?_))
  refine WL.bG rfl cU rfl rfl (by exact aK.aF (H.l 2 rfl) (aJ.all _) (by rfl)) (cI cN (by simp only [aR, aU, aB]; omega)) ?_
  refine WL.mv rfl rfl (WL.pv (PV.eq (v' := .int .i64 ((d + 1 : Nat) : Int)) (PV.bZ rfl rfl rfl (by omega) (by omega)) rfl) rfl ?_)
  refine WL.call aBt rfl (ihr (M := bR M d 1) (k := k) (d := d + 1) (bits := bits) H.aS (H.o 0 rfl) (by exact H.aL 0 rfl 0 rfl) (by exact (H.aL 0 rfl 1 rfl : aH _ (cQ bits (Tr.inner a l r)) _).imp fun _ h => cQ.right h) (by exact H.aL 0 rfl 2 rfl) bS hk GK (qK.part hd 1) (Nat.le_trans (DG _ _ _) hlen)) ?_
  rintro _ YF ⟨T47, c47, f47, rfl, aEa, aDO, aHm, hO, hB, hR⟩
  replace H := H.c9 0 rfl hO hB hR
  refine WL.mv rfl rfl (WL.pv (PV.extract rfl rfl rfl) rfl (WL.pv (PV.extract rfl rfl rfl) rfl (WL.as rfl rfl ?_)))
  refine WL.aT H 0 rfl rfl rfl (new := _) rfl (by exact UA) (by exact bC _ rfl) (Laid.at (Laid.all (by simp only [aR, aU, aB])) (by rfl)) rfl ?_
  intro w20 H
  refine WL.nil (WE.aA ?_)
  refine WL.aZ rfl uD rfl rfl (by exact aK.aF (H.l 0 rfl) (aJ.all _) (by rfl)) ?_
  refine WL.nil ?_
  refine WE.cond rfl (fun mH => ?_) (fun mH => ?_)
  ·
   try simp only [bW] at mH
   (obtain rfl : f47 = true := mH)
   refine WE.eM (WL.mv rfl rfl (WL.mv rfl rfl (WL.mv rfl rfl ?_)))
   refine WL.call EG rfl ((by exact x7 (l := l) (r := T47) (bits := bits) H.aS (H.o 0 rfl) (by exact H.aL 0 rfl 1 rfl) (by exact (H.aL 0 rfl 2 rfl : aH _ (cQ bits (Tr.inner a l r)) _).imp fun _ h => cQ.left h) (by exact H.aL 0 rfl 0 rfl) (by exact H.aL 0 rfl 3 rfl) bS (by rw [aEa, P7, (OH (qK.part hd 1)).fU, (qK.part hd 0).fU]; have h1 := u9 (bR M d 1) k; have h2 := mV M d; omega))) ?_
   rintro _ w21 ⟨aBQ, aGV, rfl, QW, hO, hB, hR⟩
   replace H := H.c9 0 rfl hO hB hR
   refine WL.aT H 1 rfl rfl rfl (new := _) rfl (by exact lC) (by exact bC _ rfl) (Laid.at (Laid.all (by simp only [aR, aU, aB])) (by rfl)) rfl ?_
   intro w22 H
   refine WL.nil ?_
   refine WE.bF (.take 0 (.take 1 (.aG 2 (.aG 3 .done)))) mixed (by kernel_rfl) ?_
   replace H := H.out (Out.drew _)
   refine WP.aQ rfl rfl (RV.aY rfl gZ rfl) (by exact aK.aF (H.l 1 rfl) (aJ.all _) (by rfl)) ?_
   refine WP.aQ rfl rfl (RV.aY rfl uD rfl) (by exact aK.aF (H.l 0 rfl) (aJ.all _) (by rfl)) ?_
   refine WP.aG rfl ?_
   refine WL.aT H 1 rfl rfl rfl (new := _) rfl (by exact lC) (by exact bC _ rfl) (Laid.at (Laid.all (by simp only [aR, aU, aB])) (by rfl)) rfl ?_
   intro w23 H
   refine WL.nil ⟨(fa (fun _ _ => (by exact aK.aF (H.l 0 rfl) (aJ.all _) (by rfl))) (fa (nw 2 0 (by decide +kernel)) cV)), ?_⟩
   refine WP.aG rfl ?_
   refine WL.aT H 0 rfl rfl rfl (new := _) rfl (by exact UA) (by exact bC _ rfl) (Laid.at (Laid.all (by simp only [aR, aU, aB])) (by rfl)) rfl ?_
   intro w24 H
   refine WL.nil ⟨(fa (nw 3 1 (by decide +kernel)) (fa (nw 3 0 (by decide +kernel)) cV)), ?_⟩
   refine WP.done (WE.ret ?_)
   refine Or.inr ⟨_, _, _, _, rfl, xG, (by exact wB (X := Nil) (mY _) (H.l 1 rfl) (((H.lE 1 0 rfl rfl (by decide)).imp fun _ h => aK.rd h).FH) (((H.lE 1 3 rfl rfl (by decide)).imp fun _ h => aK.rd h).FH)), ?_⟩
   rintro w25 ⟨hO, hB⟩
   replace H := H.called 1 rfl hO hB
   refine ⟨[_, _], ⟨⟨_, rfl, cL gZ (by exact aK.aF (H.l 1 rfl) (aJ.all _) rfl)⟩, ⟨_, rfl, cL uD (by exact aK.aF (H.l 0 rfl) (aJ.all _) rfl)⟩, trivial⟩, ?_⟩
   (refine ⟨aBQ, _, true, rfl, ?_, ?_, fun h => (by cases h), H.cM, H.o 0 rfl, H.fM (H.bN 0 rfl)⟩; (rw [QW, aEa, P7]; exact hrj.2 (by omega)); (rw [aDO, ← hhp, zS]))
  ·
   try simp only [bW] at mH
   (obtain rfl : f47 = false := mH)
   refine WE.skip ?_
   refine WE.bF (.take 0 (.take 1 (.aG 2 (.aG 3 .done)))) mixed (by kernel_rfl) ?_
   replace H := H.out (Out.drew _)
   refine WP.aQ rfl rfl (RV.aY rfl gZ rfl) (by exact aK.aF (H.l 1 rfl) (aJ.all _) (by rfl)) ?_
   refine WP.aQ rfl rfl (RV.aY rfl uD rfl) (by exact aK.aF (H.l 0 rfl) (aJ.all _) (by rfl)) ?_
   refine WP.aG rfl ?_
   refine WL.aT H 1 rfl rfl rfl (new := _) rfl (by exact lC) (by exact bC _ rfl) (Laid.at (Laid.all (by simp only [aR, aU, aB])) (by rfl)) rfl ?_
   intro w26 H
   refine WL.nil ⟨(fa (fun _ _ => (by exact aK.aF (H.l 0 rfl) (aJ.all _) (by rfl))) (fa (nw 2 0 (by decide +kernel)) cV)), ?_⟩
   refine WP.aG rfl ?_
   refine WL.aT H 0 rfl rfl rfl (new := _) rfl (by exact UA) (by exact bC _ rfl) (Laid.at (Laid.all (by simp only [aR, aU, aB])) (by rfl)) rfl ?_
   intro w27 H
   refine WL.nil ⟨(fa (nw 3 1 (by decide +kernel)) (fa (nw 3 0 (by decide +kernel)) cV)), ?_⟩
   refine WP.done (WE.ret ?_)
   refine Or.inr ⟨_, _, _, _, rfl, xG, (by exact rY (X := Nil) (mY _) (H.l 1 rfl) (((H.lE 1 0 rfl rfl (by decide)).imp fun _ h => aK.rd h).FH) (((H.lE 1 3 rfl rfl (by decide)).imp fun _ h => aK.rd h).FH) rfl), ?_⟩
   rintro w28 ⟨hO, hB⟩
   replace H := H.called 1 rfl hO hB
   refine ⟨[_, _], ⟨⟨_, rfl, cL gZ (by exact aK.aF (H.l 1 rfl) (aJ.all _) rfl)⟩, ⟨_, rfl, cL uD (by exact aK.aF (H.l 0 rfl) (aJ.all _) rfl)⟩, trivial⟩, ?_⟩
   (have hh : iQ M k = false := (by rw [← hhp, zS, ← aDO]); refine ⟨Tr.inner a l r, _, false, rfl, ?_, hh.symm, fun _ => ⟨rfl, (aHm rfl).2⟩, H.cM, H.o 0 rfl, H.fM (by exact H.bN 2 rfl)⟩; (rw [A1 hh]; exact hT))
theorem SR : ∀ T : Tr, aBW T
 | .nil => fun hX h0 h1 _ h3 hb hk hT hp _ => XP hX h0 h1 h3 hb hk hT hp
 | .leaf a q u s => fun hX h0 h1 h2 h3 hb hk hT hp _ => by
  rename_i k _ _
  by_cases hq : q = k
  ·
   refine (HO hX h0 h1 h2 h3 hb hk hT hp hq).mono ?_
   rintro v w' ⟨T', c, f, h⟩
   exact ⟨T', c, f, h⟩
  ·
   refine (HN hX h0 h1 h2 h3 hb hk hT hp hq).mono ?_
   rintro v w' ⟨T', c, f, h⟩
   exact ⟨T', c, f, h⟩
 | .inner a l r => fun hX h0 h1 h2 h3 hb hk hT hp hl => MT hX h0 h1 h2 h3 hb hk hT hp hl (SR l) (SR r)
theorem aAF {X : Nat → Prop} {w : World} {bh bc : Nat} {bits c0 : Int} {T : Tr} {M : List En} {k : List UInt8} {d : Nat} (hX : cW X w) (ho : aK w bc 213 [.int .i64 c0]) (bU : aH (fun c => X c ∨ c = bc) (fJ bh bc bits) w) (dA : aH (fun c => X c ∨ c = bc) (cQ bits T) w) (fO : aH (fun c => X c ∨ c = bc) aW w)
  (hb : 0 ≤ bits ∧ bits ≤ 256) (hk : k.length = 32) (hT : T.er = grow d M) (hp : Pm d M) (hl : M.length ≤ 1000000000) :
  bD Tryz.prog 91 [.pointer (some ⟨bh, 0, none⟩), T.ptr, .agg (kc k).toArray, .int .i64 (d : Int)].toArray w fun v w' => ∃ (T' : Tr) (c : Int) (f : Bool), v = .tuple [T'.ptr, .bool f].toArray ∧ T'.er = grow d (eY M k) ∧ f = iQ M k ∧ (f = false → T' = T ∧ c = c0) ∧ Out (· = bc) w w' ∧ aK w' bc 213 [.int .i64 c] ∧ aH (fun c => X c ∨ c = bc) (cQ bits T') w' :=
 SR T hX ho bU dA fO hb hk hT hp hl
theorem MU {X : Nat → Prop} {w : World} {bh bc : Nat} {bits c0 : Int} {T : Tr} {M : List En} {k : List UInt8} (hX : cW X w) (eR : aK w bc 213 ([.int .i64 c0])) (bU : aH (fun c_ => X c_ ∨ c_ = bc) (fJ bh bc bits) w) (dA : aH (fun c_ => X c_ ∨ c_ = bc) (cQ bits T) w) (fO : aH (fun c_ => X c_ ∨ c_ = bc) (aW) w) (bS : 0 ≤ bits ∧ bits ≤ 256) (hk : k.length = 32) (hT : T.er = grow 0 M) (qK : Pm 0 M) (hlen : M.length ≤ 1000000000) :
  bD Tryz.prog 52 [.pointer (some ⟨bh, 0, none⟩), T.ptr, .agg (kc k).toArray].toArray w fun v w' => ∃ (T' : Tr) (c : Int) (f : Bool), v = .tuple [T'.ptr, .bool f].toArray ∧ T'.er = grow 0 (eY M k) ∧ f = iQ M k ∧ (f = false → T' = T ∧ c = c0) ∧ Out (· = bc) w w' ∧ aK w' bc 213 [.int .i64 c] ∧ aH (fun c => X c ∨ c = bc) (cQ bits T') w' := by
 refine bD.aI (N := 14) Tryz.func52 rfl rfl (by simp) ?_
 have H := St.c6 (b := bc) (t := 213) (l := [.int .i64 c0]) hX eR
 replace H := H.add (bY fO)
 replace H := H.add (bY dA)
 replace H := H.add (bY bU)
 refine WE.aA ?_
 refine WL.box (l := kc k) H rfl (by rfl) rfl ?_
 intro b5 w1 H
 refine WL.as rfl rfl (WL.as rfl rfl (WL.nil (WE.aA (WL.mv rfl rfl (WL.mv rfl rfl ?_)))))
 refine WL.bG rfl cU rfl rfl (by exact aK.aF (H.l 0 rfl) (aJ.all _) (by rfl)) (cI cN (by simp only [aR, aU, aB]; omega)) ?_
 refine WL.call aBt rfl (aAF (T := T) (M := M) (k := k) (d := 0) (bits := bits) H.aS (H.o 0 rfl) (by exact H.aL 0 rfl 0 rfl) (by exact H.aL 0 rfl 1 rfl) (by exact H.aL 0 rfl 2 rfl) (by assumption) (by assumption) (by assumption) (by assumption) (by assumption)) ?_
 rintro _ w2 ⟨aIB, aIk, aHN, rfl, aD8, aDN, aDx, hO, hB, hR⟩
 replace H := H.c9 0 rfl hO hB hR
 refine WL.pv (PV.extract rfl rfl rfl) rfl (WL.pv (PV.extract rfl rfl rfl) rfl (WL.as rfl rfl (WL.as rfl rfl (WL.nil (WE.ret ⟨[_, _], _, .nil _, ⟨rfl, rfl, trivial⟩, ?_⟩)))))
 exact ⟨aIB, aIk, aHN, rfl, aD8, aDN, aDx, H.cM, H.o 0 rfl, H.fM (H.bN 0 rfl)⟩
def eN (v : Value) (ks : List (List UInt8)) (w : World) : Prop := cS w v 32 ks.length (ks.flatMap kc)
def K32 (ks : List (List UInt8)) : Prop := ∀ k ∈ ks, k.length = 32
theorem aAV : ∀ (ks : List (List UInt8)) (hk : K32 ks) (i : Nat) (hi : i < ks.length), ((ks.flatMap kc).drop (i * 32)).take 32 = kc ks[i] := by
 intro ks
 induction ks with
 | nil => intro _ i hi; simp at hi
 | cons x ks ih =>
  intro hk i hi
  have hx := hk x (by simp)
  have hl : (kc x).length = 32 := by rw [aN, hx]
  cases i with
  | zero =>
   rw [List.flatMap_cons, Nat.zero_mul, List.drop_zero, List.take_left' hl]; rfl
  | succ i =>
   rw [List.flatMap_cons, show (i + 1) * 32 = 32 + i * 32 by omega, ← List.drop_drop, List.drop_left' hl]
   exact ih (fun k h => hk k (List.mem_cons_of_mem _ h)) i (by simpa using hi)
theorem eN.rd {v : Value} {ks : List (List UInt8)} {w : World} (h : eN v ks w) (hk : K32 ks) (i : Nat) (hi : i < ks.length) : cX w (jD v (i * 32)) (kc ks[i]) := by
 have := cS.rd h i hi
 rwa [aAV ks hk i hi] at this
section
variable {α : Type} {C : α → List Value} {sz : Nat}
theorem cZ : ∀ (l : List α), (∀ x ∈ l, (C x).length = sz) → (l.flatMap C).length = l.length * sz
 | [], _ => by simp
 | x :: l, h => by
  rw [List.flatMap_cons, List.length_append, h x (by simp), cZ l (fun y hy => h y (List.mem_cons_of_mem _ hy)), List.length_cons, Nat.succ_mul]; omega
theorem zX (l : List α) (h : ∀ x ∈ l, (C x).length = sz) (i : Nat) (hi : i < l.length) : l.flatMap C = (l.take i).flatMap C ++ (C l[i] ++ (l.drop (i + 1)).flatMap C) ∧ ((l.take i).flatMap C).length = i * sz := by
 refine ⟨?_, ?_⟩
 ·
  have e : l = l.take i ++ l[i] :: l.drop (i + 1) := by rw [← List.drop_eq_getElem_cons hi, List.take_append_drop]
  conv => lhs; rw [e]
  rw [List.flatMap_append, List.flatMap_cons]
 ·
  rw [cZ _ (fun x hx => h x (List.mem_of_mem_take hx)), List.length_take]; congr 1; omega
theorem sI (l : List α) (h : ∀ x ∈ l, (C x).length = sz) (i : Nat) (hi : i < l.length) : ((l.flatMap C).drop (i * sz)).take sz = C l[i] := by
 obtain ⟨e, e2⟩ := zX l h i hi
 rw [e, List.drop_left' e2, List.take_left' (h _ (List.getElem_mem hi))]
theorem JK (l : List α) (h : ∀ x ∈ l, (C x).length = sz) (rest : List Value) (lo : Nat) (hlo : lo ≤ l.length) : aJ (l.flatMap C ++ rest) (lo * sz) ((l.drop lo).flatMap C) := by
 refine ⟨(l.take lo).flatMap C, rest, ?_, ?_⟩
 ·
  rw [← List.append_assoc, ← List.flatMap_append, List.take_append_drop]
 ·
  rw [cZ _ (fun x hx => h x (List.mem_of_mem_take hx)), List.length_take]; congr 1; omega
theorem pL (l : List α) (h : ∀ x ∈ l, (C x).length = sz) (rest : List Value) {i oo : Nat} (hi : i < l.length) {x : α} (hx : (C x).length = sz) (ho : oo = i * sz) : Laid (l.flatMap C ++ rest) oo (C x) ((l.set i x).flatMap C ++ rest) := by
 subst ho
 refine Laid.left ?_
 obtain ⟨e, e2⟩ := zX l h i hi
 have e3 : (l.set i x).flatMap C = (l.take i).flatMap C ++ (C x ++ (l.drop (i + 1)).flatMap C) := by
  rw [List.set_eq_take_append_cons_drop, if_pos hi, List.flatMap_append, List.flatMap_cons]
 rw [e, e3]
 exact Laid.right (o := 0) (Laid.left (Laid.all (by rw [h _ (List.getElem_mem hi), hx]))) (by rw [e2]; omega)
theorem EC (l : List α) (h : ∀ x ∈ l, (C x).length = sz) (t : Nat) (ht : t ≤ l.length) (rest : List Value) : (l.flatMap C ++ rest).take (t * sz) = (l.take t).flatMap C := by
 have h1 : ((l.take t).flatMap C).length = t * sz := by rw [cZ _ (fun x hx => h x (List.mem_of_mem_take hx)), List.length_take]; congr 1; omega
 have h2 : l.flatMap C = (l.take t).flatMap C ++ (l.drop t).flatMap C := by rw [← List.flatMap_append, List.take_append_drop]
 rw [h2, List.append_assoc, List.take_left' h1]
theorem JJ (l : List α) (h : ∀ x ∈ l, (C x).length = sz) (lo n : Nat) (hlo : lo + n ≤ l.length) : ((l.flatMap C).drop (lo * sz)).take (n * sz) = ((l.drop lo).take n).flatMap C := by
 have h2 : l.flatMap C = (l.take lo).flatMap C ++ (l.drop lo).flatMap C := by rw [← List.flatMap_append, List.take_append_drop]
 have h1 : ((l.take lo).flatMap C).length = lo * sz := by rw [cZ _ (fun x hx => h x (List.mem_of_mem_take hx)), List.length_take]; congr 1; omega
 rw [h2, List.drop_left' h1]
 have := EC (C := C) (l.drop lo) (fun x hx => h x (List.mem_of_mem_drop hx)) n (by rw [List.length_drop]; omega) []
 rwa [List.append_nil] at this
end
structure Ch where
 k : List UInt8
 s : Value
 v : List UInt8
 d : Bool
def dU (c : Ch) : List Value := kc c.k ++ ([c.s] ++ [.bool c.d])
def XL (l : List Ch) : Prop := ∀ c ∈ l, c.k.length = 32
def fV (v : Value) (l : List Ch) (w : World) : Prop := cS w v 34 l.length (l.flatMap dU)
def gJ (l : List Ch) (w : World) : Prop := ∀ c ∈ l, bI c.s c.v w
def rN (l : List Ch) : Prop := l.Pairwise fun a b => num a.k < num b.k
def oL (l : List Ch) : Prop := ∀ c ∈ l, c.v.length ≤ 1000000
theorem iR {c : Ch} (h : c.k.length = 32) : (dU c).length = 34 := by simp [dU, aN, h]
theorem XL.len {l : List Ch} (h : XL l) : ∀ c ∈ l, (dU c).length = 34 := fun c hc => iR (h c hc)
theorem XL.take {l : List Ch} (h : XL l) (i : Nat) : XL (l.take i) := fun c hc => h c (List.mem_of_mem_take hc)
theorem XL.drop {l : List Ch} (h : XL l) (i : Nat) : XL (l.drop i) := fun c hc => h c (List.mem_of_mem_drop hc)
theorem XL.sub {l m : List Ch} (h : XL l) (hs : ∀ c ∈ m, c ∈ l) : XL m := fun c hc => h c (hs c hc)
theorem gJ.sub {l m : List Ch} {w : World} (h : gJ l w) (hs : ∀ c ∈ m, c ∈ l) : gJ m w := fun c hc => h c (hs c hc)
theorem k5 {c : Ch} (h : c.s.oneCell' = true) : eC (dU c) := bO (bK _) (bO (dV h) (bC _ rfl))
theorem fV.rd {v : Value} {l : List Ch} {w : World} (h : fV v l w) (hk : XL l) (i : Nat) (hi : i < l.length) : cX w (jD v (i * 34)) (dU l[i]) := by
 have := cS.rd h i hi
 rwa [sI l hk.len i hi] at this
theorem fV.sub {v : Value} {l : List Ch} {w : World} (h : fV v l w) (hk : XL l) {lo hi : Nat} (h1 : lo ≤ hi) (h2 : hi ≤ l.length) : fV (iS v 34 lo hi) ((l.drop lo).take (hi - lo)) w := by
 have := cS.sub h h1 h2
 rw [JJ l hk.len lo (hi - lo) (by omega)] at this
 unfold fV
 rwa [show ((l.drop lo).take (hi - lo)).length = hi - lo by simp; omega]
theorem fV.KX {v : Value} {l : List Ch} {w : World} (h : fV v l w) (hk : XL l) {lo hi : Nat} (h1 : lo ≤ hi) (h2 : hi ≤ l.length) : fV (mF v 34 lo hi) ((l.drop lo).take (hi - lo)) w := by
 have := cS.KX h h1 h2
 rw [JJ l hk.len lo (hi - lo) (by omega)] at this
 unfold fV
 rwa [show ((l.drop lo).take (hi - lo)).length = hi - lo by simp; omega]
def Ch.en (c : Ch) : En := ⟨c.k, c.s, c.v⟩
def xX (m : List En) (c : Ch) : List En := if c.d then eY m c.k else gL m c.en
def k8 (m : List En) (l : List Ch) : List En := l.foldl xX m
theorem XG {m : List En} {c : Ch} (h : k7 m) (hk : KL m) (hc : c.k.length = 32) : k7 (xX m c) ∧ KL (xX m c) := by
 unfold xX
 split
 ·
  exact ⟨h.filter _, fun e he => hk e (iO.1 he).1⟩
 ·
  exact ⟨wF h hk hc, A5 hk hc⟩
theorem I5 {m : List En} {c : Ch} {e : En} : e ∈ xX m c ↔ (c.d = false ∧ e = c.en) ∨ (e ∈ m ∧ e.k ≠ c.k) := by
 unfold xX
 split
 ·
  rename_i h
  rw [iO, h]; simp
 ·
  rename_i h
  have h2 : c.d = false := by simpa using h
  rw [mZ, h2]; simp [Ch.en]
theorem kH : ∀ (l : List Ch) (m : List En), k7 m → KL m → XL l → k7 (k8 m l) ∧ KL (k8 m l)
 | [], _, h, hk, _ => ⟨h, hk⟩
 | c :: l, m, h, hk, hx => by
  have h1 := XG h hk (hx c (by simp))
  exact kH l (xX m c) h1.1 h1.2 fun d hd => hx d (List.mem_cons_of_mem _ hd)
theorem kI : ∀ (l : List Ch) (m : List En) (e : En), rN l → (e ∈ k8 m l ↔ (∃ c ∈ l, c.d = false ∧ e = c.en) ∨ (e ∈ m ∧ ∀ c ∈ l, e.k ≠ c.k))
 | [], m, e, _ => by simp [k8]
 | c :: l, m, e, hl => by
  have h1 := List.pairwise_cons.1 hl
  have ih := kI l (xX m c) e h1.2
  show e ∈ k8 (xX m c) l ↔ _
  rw [ih, I5]
  constructor
  ·
   rintro (⟨x, hx, h2, h3⟩ | ⟨⟨h2, h3⟩ | ⟨h2, h3⟩, h4⟩)
   ·
    exact .inl ⟨x, List.mem_cons_of_mem _ hx, h2, h3⟩
   ·
    exact .inl ⟨c, by simp, h2, h3⟩
   ·
    refine .inr ⟨h2, fun x hx => ?_⟩
    rcases List.mem_cons.1 hx with rfl | hx
    ·
     exact h3
    ·
     exact h4 x hx
  ·
   rintro (⟨x, hx, h2, h3⟩ | ⟨h2, h3⟩)
   ·
    rcases List.mem_cons.1 hx with rfl | hx
    ·
     refine .inr ⟨.inl ⟨h2, h3⟩, fun y hy => ?_⟩
     have := h1.1 y hy
     rw [h3]
     intro hh
     have : num x.k = num y.k := congrArg num hh
     omega
    ·
     exact .inl ⟨x, hx, h2, h3⟩
   ·
    exact .inr ⟨.inr ⟨h2, h3 c (by simp)⟩, fun y hy => h3 y (List.mem_cons_of_mem _ hy)⟩
theorem rN.sub {l m : List Ch} (h : rN l) (hs : m.Sublist l) : rN m := List.Pairwise.sublist hs h
def k3 (l : List Ch) (d b : Nat) : List Ch := l.filter fun c => bH c.k d == b
theorem zH (l : List Ch) (d b : Nat) : (k3 l d b).Sublist l := List.filter_sublist
theorem gO {l : List Ch} {d b : Nat} {c : Ch} : c ∈ k3 l d b ↔ c ∈ l ∧ bH c.k d = b := by simp [k3]
theorem E2 {m : List En} {l : List Ch} {d b : Nat} (hs : k7 m) (hk : KL m) (hx : XL l) (hl : rN l) : bR (k8 m l) d b = k8 (bR m d b) (k3 l d b) := by
 have h1 := kH l m hs hk hx
 have h2 := kH (k3 l d b) (bR m d b) hs.part (fun e he => hk e (hZ.1 he).1) (hx.sub fun c hc => (gO.1 hc).1)
 refine k7.ext h1.1.part h2.1 fun e => ?_
 rw [hZ, kI _ _ _ hl, kI _ _ _ (hl.sub (zH l d b))]
 constructor
 ·
  rintro ⟨⟨c, hc, h3, rfl⟩ | ⟨h3, h4⟩, h5⟩
  ·
   exact .inl ⟨c, gO.2 ⟨hc, h5⟩, h3, rfl⟩
  ·
   exact .inr ⟨hZ.2 ⟨h3, h5⟩, fun c hc => h4 c (gO.1 hc).1⟩
 ·
  rintro (⟨c, hc, h3, rfl⟩ | ⟨h3, h4⟩)
  ·
   exact ⟨.inl ⟨c, (gO.1 hc).1, h3, rfl⟩, (gO.1 hc).2⟩
  ·
   have h5 := hZ.1 h3
   refine ⟨.inr ⟨h5.1, fun c hc hh => ?_⟩, h5.2⟩
   exact h4 c (gO.2 ⟨hc, by rw [← hh]; exact h5.2⟩) hh
def oT (d : Nat) (m : List En) (l : List Ch) : Prop := ∃ p, (∀ e ∈ m, pre d e.k = p) ∧ ∀ c ∈ l, pre d c.k = p
theorem oT.part {d b : Nat} {m : List En} {l : List Ch} (h : oT d m l) (hd : d < 256) (hk : KL m) (hx : XL l) : oT (d + 1) (bR m d b) (k3 l d b) := by
 obtain ⟨p, h1, h2⟩ := h
 refine ⟨2 * p + b, fun e he => ?_, fun c hc => ?_⟩
 ·
  have := hZ.1 he
  rw [kP _ (hk e this.1) d hd, h1 e this.1, this.2]
 ·
  have := gO.1 hc
  rw [kP _ (hx c this.1) d hd, h2 c this.1, this.2]
theorem oT.zero {m : List En} {l : List Ch} (hk : KL m) (hx : XL l) : oT 0 m l := ⟨0, fun e he => mU _ (hk e he), fun c hc => mU _ (hx c hc)⟩
theorem aBK {d : Nat} {m : List En} {l : List Ch} (hd : d ≤ 256) (hs : k7 m) (hk : KL m) (hx : XL l) (hl : rN l) (hn : oT d m l) : Pm d (k8 m l) where
 le := hd
 kl := (kH l m hs hk hx).2
 L9 := (kH l m hs hk hx).1.L9
 Z6 := by
  obtain ⟨p, h1, h2⟩ := hn
  have h : ∀ e ∈ k8 m l, pre d e.k = p := fun e he => by
   rcases (kI _ _ _ hl).1 he with ⟨c, hc, _, rfl⟩ | ⟨he, _⟩
   ·
    exact h2 c hc
   ·
    exact h1 e he
  exact fun a ha b hb => (h a ha).trans (h b hb).symm
theorem oT.one {m : List En} {l : List Ch} (h : oT 256 m l) (hx : XL l) (hl : rN l) : l.length ≤ 1 := by
 obtain ⟨p, _, h2⟩ := h
 match l, hx, hl, h2 with
 | [], _, _, _ => simp
 | [a], _, _, _ => simp
 | a :: b :: l, _, hl, h2 =>
  exfalso
  have h3 := (List.pairwise_cons.1 hl).1 b (by simp)
  have h4 := h2 a (by simp)
  have h5 := h2 b (by simp)
  rw [pE] at h4 h5
  omega
def dX (l : List Ch) : List Ch := l.filter fun c => !c.d
theorem zM (l : List Ch) : (dX l).Sublist l := List.filter_sublist
theorem iP {l : List Ch} {c : Ch} : c ∈ dX l ↔ c ∈ l ∧ c.d = false := by simp [dX]
theorem SC {l : List Ch} (hx : XL l) (hl : rN l) : k8 [] (dX l) = k8 [] l := by
 have h0 : k7 ([] : List En) := List.Pairwise.nil
 have h1 : KL ([] : List En) := fun _ h => by cases h
 refine k7.ext (kH _ _ h0 h1 (hx.sub fun c hc => (iP.1 hc).1)).1 (kH _ _ h0 h1 hx).1 fun e => ?_
 rw [kI _ _ _ (hl.sub (zM l)), kI _ _ _ hl]
 constructor
 ·
  rintro (⟨c, hc, h2, h3⟩ | ⟨h, _⟩)
  ·
   exact .inl ⟨c, (iP.1 hc).1, h2, h3⟩
  ·
   cases h
 ·
  rintro (⟨c, hc, h2, h3⟩ | ⟨h, _⟩)
  ·
   exact .inl ⟨c, iP.2 ⟨hc, h2⟩, h2, h3⟩
  ·
   cases h
theorem ML {l : List Ch} {e : En} (hx : XL l) (hl : rN l) (he : e.k.length = 32) (h : ∃ c ∈ l, c.k = e.k) : k8 [e] l = k8 [] l := by
 have h0 : k7 ([] : List En) := List.Pairwise.nil
 have h1 : KL ([] : List En) := fun _ h => by cases h
 have h2 : k7 [e] := List.pairwise_cons.2 ⟨(fun _ h => by cases h), .nil⟩
 have h3 : KL [e] := fun x hx => by rw [List.mem_singleton.1 hx]; exact he
 refine k7.ext (kH _ _ h2 h3 hx).1 (kH _ _ h0 h1 hx).1 fun x => ?_
 rw [kI _ _ _ hl, kI _ _ _ hl]
 obtain ⟨c, hc, hk⟩ := h
 constructor
 ·
  rintro (h | ⟨h4, h5⟩)
  ·
   exact .inl h
  ·
   rw [List.mem_singleton.1 h4] at h5
   exact absurd hk.symm (h5 c hc)
 ·
  rintro (h | ⟨h4, _⟩)
  ·
   exact .inl h
  ·
   cases h4
theorem J9 {l l' : List Ch} {e : En} (hx : XL l) (hl : rN l) (P8 : rN l') (he : e.k.length = 32) (hn : ∀ c ∈ l, c.k ≠ e.k) (hm : ∀ c, c ∈ l' ↔ c = ⟨e.k, e.s, e.v, false⟩ ∨ c ∈ l) : k8 [] l' = k8 [e] l := by
 have h0 : k7 ([] : List En) := List.Pairwise.nil
 have h1 : KL ([] : List En) := fun _ h => by cases h
 have h2 : k7 [e] := List.pairwise_cons.2 ⟨(fun _ h => by cases h), .nil⟩
 have h3 : KL [e] := fun x hx => by rw [List.mem_singleton.1 hx]; exact he
 have hx' : XL l' := fun c hc => by
  rcases (hm c).1 hc with rfl | h
  ·
   exact he
  ·
   exact hx c h
 refine k7.ext (kH _ _ h0 h1 hx').1 (kH _ _ h2 h3 hx).1 fun x => ?_
 rw [kI _ _ _ P8, kI _ _ _ hl]
 constructor
 ·
  rintro (⟨c, hc, h4, h5⟩ | ⟨h, _⟩)
  ·
   rcases (hm c).1 hc with rfl | hc
   ·
    exact .inr ⟨by rw [h5]; exact List.mem_singleton.2 rfl, fun c hc hh => hn c hc (by rw [← hh, h5]; rfl)⟩
   ·
    exact .inl ⟨c, hc, h4, h5⟩
  ·
   cases h
 ·
  rintro (⟨c, hc, h4, h5⟩ | ⟨h4, h5⟩)
  ·
   exact .inl ⟨c, (hm c).2 (.inr hc), h4, h5⟩
  ·
   exact .inl ⟨_, (hm _).2 (.inl rfl), rfl, List.mem_singleton.1 h4⟩
theorem XF (l : List Ch) : ∀ m : List En, (k8 m l).length ≤ m.length + l.length := by
 induction l with
 | nil => intro m; simp [k8]
 | cons c l ih =>
  intro m
  have h := ih (xX m c)
  have h1 : (xX m c).length ≤ m.length + 1 := by
   unfold xX
   split
   ·
    have := List.length_filter_le (fun x => decide (x.k ≠ c.k)) m; show (eY m c.k).length ≤ _; unfold eY; omega
   ·
    exact C9 m c.en
  show (k8 (xX m c) l).length ≤ _
  rw [List.length_cons]; omega
theorem DF {l : List Ch} {d : Nat} {m : List En} (hx : XL l) (hl : rN l) (hn : oT d m l) (hd : d < 256) {r : Nat} (hr : r ≤ l.length) (hlo : ∀ i (h : i < l.length), i + 1 = r → bH l[i].k d ≠ 1) (hhi : ∀ h : r < l.length, bH l[r].k d = 1) : l.take r = k3 l d 0 ∧ l.drop r = k3 l d 1 := by
 obtain ⟨p, _, hp⟩ := hn
 have Y8 : ∀ i j (hij : i < j) (hj : j < l.length), bH (l[i]'(by omega)).k d = 1 → bH l[j].k d = 1 := fun i j hij hj h1 => by
  have hi : i < l.length := by omega
  have hb := eA l[j].k d
  have hn' := List.pairwise_iff_getElem.1 hl i j hi hj hij
  rcases (show bH l[j].k d = 0 ∨ bH l[j].k d = 1 by omega) with h0 | h0
  ·
   have := LF (hx _ (List.getElem_mem hj)) (hx _ (List.getElem_mem hi)) hd ((hp _ (List.getElem_mem hj)).trans (hp _ (List.getElem_mem hi)).symm) h0 h1
   omega
  ·
   exact h0
 have h0 : ∀ c ∈ l.take r, bH c.k d = 0 := fun c hc => by
  obtain ⟨i, hi, rfl⟩ := List.getElem_of_mem hc
  rw [List.length_take] at hi
  rw [List.getElem_take]
  have hb := eA (l[i]'(by omega)).k d
  rcases (show bH (l[i]'(by omega)).k d = 0 ∨ bH (l[i]'(by omega)).k d = 1 by omega) with h | h
  ·
   exact h
  ·
   exfalso
   have h2 := hlo (r - 1) (by omega) (by omega)
   apply h2
   rcases Nat.lt_or_ge i (r - 1) with h3 | h3
   ·
    exact Y8 i (r - 1) h3 (by omega) h
   ·
    have : i = r - 1 := by omega
    subst this; exact h
 have h1 : ∀ c ∈ l.drop r, bH c.k d = 1 := fun c hc => by
  obtain ⟨i, hi, rfl⟩ := List.getElem_of_mem hc
  rw [List.length_drop] at hi
  rw [List.getElem_drop]
  rcases Nat.eq_zero_or_pos i with h | h
  ·
   subst h; exact hhi (by omega)
  ·
   exact Y8 r (r + i) (by omega) (by omega) (hhi (by omega))
 have e : l = l.take r ++ l.drop r := (List.take_append_drop r l).symm
 constructor
 ·
  unfold k3
  conv => rhs; rw [e]
  rw [List.filter_append, List.filter_eq_self.2 (fun c hc => by rw [h0 c hc]; rfl), List.filter_eq_nil_iff.2 (fun c hc => by rw [h1 c hc]; simp), List.append_nil]
 ·
  unfold k3
  conv => rhs; rw [e]
  rw [List.filter_append, List.filter_eq_nil_iff.2 (fun c hc => by rw [h0 c hc]; simp), List.filter_eq_self.2 (fun c hc => by rw [h1 c hc]; rfl), List.nil_append]
theorem aEq {α : Type} {l : List α} {z : α} {i m : Nat} (h : i < l.length) : (l.take i ++ List.replicate (m + 1) z).set i l[i] = l.take (i + 1) ++ List.replicate m z := by
 have h1 : (l.take i).length = i := by rw [List.length_take]; omega
 rw [List.set_append_right (h := by omega), h1, Nat.sub_self, List.replicate_succ, List.set_cons_zero, List.take_succ_eq_append_getElem h, List.append_assoc]
 rfl
def KS (l : List Ch) (i : Nat) : List (List UInt8) := (l.map Ch.k).take i ++ List.replicate (l.length - i) (List.replicate 32 0)
theorem S4 {l : List Ch} (h : XL l) (i : Nat) : ∀ k ∈ KS l i, (kc k).length = 32 := fun k hk => by
 rcases List.mem_append.1 hk with hk | hk
 ·
  obtain ⟨c, hc, rfl⟩ := List.mem_map.1 (List.mem_of_mem_take hk)
  rw [aN]; exact h c hc
 ·
  rw [(List.mem_replicate.1 hk).2]; simp [aN]
theorem aB5 (l : List Ch) {i : Nat} (hi : i ≤ l.length) : (KS l i).length = l.length := by simp [KS]; omega
theorem aB4 {l : List Ch} {i : Nat} (hi : i < l.length) : (KS l i).set i l[i].k = KS l (i + 1) := by
 have h := aEq (l := l.map Ch.k) (z := List.replicate 32 (0 : UInt8)) (i := i) (m := l.length - (i + 1)) (by rw [List.length_map]; exact hi)
 rw [List.getElem_map] at h
 unfold KS
 rw [show l.length - i = l.length - (i + 1) + 1 by omega]
 exact h
theorem S5 (l : List Ch) : KS l l.length = l.map Ch.k := by
 unfold KS
 rw [List.take_of_length_le (by simp), Nat.sub_self]; simp
theorem vP (n m : Nat) (z : Value) (hm : 0 < m) : jA n (List.replicate m z) = List.replicate (n * m) z := by
 unfold jA
 simp only [List.length_replicate]
 refine List.ext_getElem (by simp) fun i h1 h2 => ?_
 rw [List.getElem_replicate, List.getElem_map, getElem!_pos (List.replicate m z) _ (by rw [List.length_replicate]; exact Nat.mod_lt _ hm), List.getElem_replicate]
theorem XU (l : List Ch) : (KS l 0).flatMap kc = jA l.length (kc (List.replicate 32 0)) := by
 have e : kc (List.replicate 32 0) = List.replicate 32 (.int .u8 0) := by rfl
 have h1 : (KS l 0).flatMap kc = List.replicate (l.length * 32) (.int .u8 0) := by
  unfold KS
  rw [List.take_zero, List.nil_append, Nat.sub_zero, List.flatMap_replicate, e, List.flatten_replicate_replicate]
 rw [h1, e, vP _ _ _ (by decide)]
theorem E9 {l : List Ch} (h : XL l) : K32 (l.map Ch.k) := fun k hk => by
 obtain ⟨c, hc, rfl⟩ := List.mem_map.1 hk
 exact h c hc
theorem RU {X : Nat → Prop} {w : World} {k : List UInt8} {s : Value} {d : Bool} (hX : cW X w) (hk : k.length = 32) :
  bD Tryz.prog 146 [.agg (kc k ++ ([s] ++ [Value.bool d])).toArray].toArray w fun v w' => v = .agg (kc k).toArray ∧ Out Nil w w' := by
 refine bD.aI (N := 5) Tryz.func146 rfl rfl (by simp) ?_
 have H := St.begin hX
 refine WE.aA ?_
 refine WL.box (l := kc k ++ ([s] ++ [Value.bool d])) H rfl (rfl) rfl ?_
 intro b1 w1 H
 refine WL.alloc H rfl rO rfl ?_
 intro b2 w2 H
 refine WL.nil (WE.aA (WL.pv (PV.fieldAddr rfl p3 rfl) rfl ?_))
 refine WL.bG rfl cU rfl rfl (by exact aK.aF (H.l 1 rfl) (aJ.l (aJ.all _)) (by rfl)) (cI cN (by simp only [aR]; omega)) ?_
 refine WL.aT H 0 rfl rfl rfl (new := _) rfl (cI cN (by simp only [aR]; omega)) (by exact bK _) (Laid.at (Laid.all (by simp only [aR]; omega)) (by rfl)) rfl ?_
 intro w3 H
 refine WL.nil (WE.ret ⟨[_], _, .nil _, ⟨⟨_, rfl, aV cU (by exact aK.aF (H.l 0 rfl) (aJ.all _) rfl) (cI cN (by simp only [aR]; omega))⟩, trivial⟩, ?_⟩)
 exact ⟨rfl, H.aM⟩
theorem R8 {X : Nat → Prop} {w : World} {k : List UInt8} {s : Value} {d : Bool} (hX : cW X w) (hk : k.length = 32) :
  bD Tryz.prog 152 [.agg (kc k ++ ([s] ++ [Value.bool d])).toArray].toArray w fun v w' => v = .agg (kc k).toArray ∧ Out Nil w w' := by
 refine bD.aI (N := 5) Tryz.func152 rfl rfl (by simp) ?_
 have H := St.begin hX
 refine WE.aA ?_
 refine WL.box (l := kc k ++ ([s] ++ [Value.bool d])) H rfl (rfl) rfl ?_
 intro b1 w1 H
 refine WL.alloc H rfl rO rfl ?_
 intro b2 w2 H
 refine WL.nil (WE.aA (WL.pv (PV.fieldAddr rfl p3 rfl) rfl ?_))
 refine WL.bG rfl cU rfl rfl (by exact aK.aF (H.l 1 rfl) (aJ.l (aJ.all _)) (by rfl)) (cI cN (by simp only [aR]; omega)) ?_
 refine WL.aT H 0 rfl rfl rfl (new := _) rfl (cI cN (by simp only [aR]; omega)) (by exact bK _) (Laid.at (Laid.all (by simp only [aR]; omega)) (by rfl)) rfl ?_
 intro w3 H
 refine WL.nil (WE.ret ⟨[_], _, .nil _, ⟨⟨_, rfl, aV cU (by exact aK.aF (H.l 0 rfl) (aJ.all _) rfl) (cI cN (by simp only [aR]; omega))⟩, trivial⟩, ?_⟩)
 exact ⟨rfl, H.aM⟩
theorem R9 {X : Nat → Prop} {w : World} {k : List UInt8} {s : Value} {d : Bool} (hX : cW X w) (hk : k.length = 32) :
  bD Tryz.prog 150 [.agg (kc k ++ ([s] ++ [Value.bool d])).toArray].toArray w fun v w' => v = .bool d ∧ Out Nil w w' := by
 refine bD.aI (N := 5) Tryz.func150 rfl rfl (by simp) ?_
 have H := St.begin hX
 refine WE.aA ?_
 refine WL.box (l := kc k ++ ([s] ++ [Value.bool d])) H rfl (rfl) rfl ?_
 intro b1 w1 H
 refine WL.as rfl rfl (WL.nil (WE.aA (WL.pv (PV.fieldAddr rfl WC rfl) rfl ?_)))
 refine WL.aZ rfl uD rfl rfl (by exact aK.aF (H.l 0 rfl) (aJ.r (aJ.r (aJ.all _) (by with_reducible rfl)) (by with_reducible rfl)) (by (simp [aN, bA, *]; done))) ?_
 refine WL.as rfl rfl (WL.nil (WE.ret ⟨[_], _, .nil _, ⟨rfl, trivial⟩, ?_⟩))
 exact ⟨rfl, H.aM⟩
theorem PQ {X : Nat → Prop} {w : World} {s f : Value} {l : List Ch} (hX : cW X w) (bU : aH X (fV s l) w) (hx : XL l) (hlen : l.length ≤ 1000000) (gC : ∀ c ∈ l, c.s.oneCell' = true) (hf : ∀ (c : Ch) (W : World), c.k.length = 32 → eU Tryz.prog f [.agg (dU c).toArray] W fun v W' => v = .agg (kc c.k).toArray ∧ Out Nil W W') :
  bD Tryz.prog 145 [s, f].toArray w fun v w' => Out Nil w w' ∧ aH X (eN v (l.map Ch.k)) w' := by
 refine bD.aI (N := 26) Tryz.func145 rfl rfl (by simp) ?_
 have H := St.begin hX
 replace H := H.add (cF bU)
 refine WE.aA (WL.as rfl rfl (WL.nil (WE.aA (WL.mv rfl rfl ?_))))
 refine WL.pv (PV.dO (by exact (H.p 0 rfl : fV s l _)) dQ rfl) rfl ?_
 refine WL.makeSlice (n := l.length) H rfl aCL rfl (by omega) (by omega) rfl ?_
 intro pQ w2 H
 replace H := H.conv (L' := [aO.blk pQ 24 ((KS l 0).flatMap kc)]) (by rw [XU])
 refine WL.as rfl rfl (WL.nil (WE.seq (WE.aA (WL.mv rfl rfl ?_))))
 refine WL.pv (PV.dO (by exact (H.p 0 rfl : fV s l _)) dQ rfl) rfl ?_
 refine WL.mv rfl rfl (WL.nil (WE.block ?_))
 refine WE.loop (α := Nat) [6, 7, 13, 14, 15, 16, 17, 18, 19, 20, 21, 22, 23, 24] (fun i => [(13, .int .i64 (i : Int))]) (fun i wl => i ≤ l.length ∧ St X w wl [] [aO.blk pQ 24 ((KS l i).flatMap kc)] [fV s l]) (fun i => l.length - i) 0 ⟨rfl, trivial⟩ ⟨Nat.zero_le _, H⟩ ?_
 intro i γ0 w4 hI
 try dsimp only at hI
 obtain ⟨hi, H⟩ := hI
 refine WE.aA (WL.pv (PV.lss rfl rfl rfl) rfl (WL.nil (WE.seq ?_)))
 refine WE.cond rfl (fun q9 => ?_) (fun q9 => ?_)
 ·
  try simp only [bW] at q9
  have hlt : i < l.length := by omega
  have hki := hx _ (List.getElem_mem hlt)
  have QO := iR hki
  have hks := aB4 hlt
  refine WE.skip (WE.seq (WE.block (WE.aA (WL.mv rfl rfl ?_))))
  refine WL.pv (PV.eQ rfl (by exact (H.p 0 rfl : fV s l _)) dQ eB rfl rfl (by omega) (by omega)) rfl ?_
  refine WL.bG rfl sM rfl rfl (fV.rd (by exact (H.p 0 rfl : fV s l _)) hx i hlt) (by (rw [eB]; refine congrArg some ?_; (simp [aN, bA, *]; done))) ?_
  refine WL.alloc H rfl y5 rfl ?_
  intro b7 w5 H
  refine WL.as rfl rfl ?_
  refine WL.aT H 0 rfl rfl rfl (new := dU l[i]) rfl (by (rw [eB]; refine congrArg some ?_; (simp [aN, bA, *]; done))) (k5 (gC _ (List.getElem_mem hlt))) (Laid.at (Laid.all (by simp only [aR]; omega)) (by rfl)) rfl ?_
  intro w6 H
  refine WL.nil (WE.eM (WL.mv rfl rfl (WL.mv rfl rfl (WL.mv rfl rfl ?_))))
  refine WL.bG rfl sM rfl rfl (by exact aK.aF (H.l 0 rfl) (aJ.all _) (by rfl)) (by (rw [eB]; refine congrArg some ?_; (simp [aN, bA, *]; done))) ?_
  refine WL.iK rfl rfl (hf l[i] _ hki) ?_
  rintro _ w8 ⟨rfl, hO⟩
  replace H := H.out hO
  refine WL.pv (PV.eq (v' := .pointer (some ⟨pQ, i * 32, none⟩)) (PV.vB rfl vY cN rfl rfl (by omega) (by omega)) (by simp)) rfl ?_
  refine WL.aT H 1 rfl rfl rfl (new := kc l[i].k) rfl (cI cN (by simp only [aR]; omega)) (by exact bK _) (by have h_ := pL (C := kc) (KS l i) (S4 hx i) [] (i := i) (x := l[i].k) (by rw [aB5 _ (by omega)]; exact hlt) (by rw [aN]; exact hki) rfl; rw [List.append_nil, List.append_nil] at h_; exact h_) rfl ?_
  intro vT H
  refine WL.nil (WE.eM ?_)
  refine WL.pv (PV.eq (v' := .int .i64 ((i + 1 : Nat) : Int)) (PV.bZ rfl rfl rfl (by omega) (by omega)) (by rfl)) rfl ?_
  refine WL.mv rfl rfl (WL.nil ?_)
  replace H := H.forget 0
  exact ⟨i + 1, (by repeat (first | with_reducible exact bQ.refl _ _ | refine bQ.dB rfl ?_ | refine bQ.cE rfl ?_ | refine bQ.cB rfl ?_)), ⟨rfl, trivial⟩, rfl, ⟨by omega, H.conv (by rw [← hks]; rfl)⟩, (by omega)⟩
 ·
  try simp only [bW] at q9
  have uM : i = l.length := by omega
  refine WE.exit (WE.aA (WL.mv rfl rfl (WL.as rfl rfl (WL.nil (WE.ret ⟨[_], _, .nil _, ⟨rfl, trivial⟩, ?_⟩)))))
  subst uM
  rw [S5] at H
  replace H := H.freeze (i := 0) rfl
  exact ⟨H.aM, H.gU ((H.bN 0 rfl).imp fun _ h => by have h_ := cS.cA (n := l.length) h (by rw [cZ _ (S4 hx l.length |> fun q => by rw [S5] at q; exact q), List.length_map]); unfold eN; rw [List.length_map]; exact h_)⟩
def vH (g : FuncId) : Value := .func (.func g) ([] : List Value).toArray ([] : List Value).toArray
theorem ER (c : Ch) (W : World) (h : c.k.length = 32) : eU Tryz.prog (vH 146) [.agg (dU c).toArray] W fun v W' => v = .agg (kc c.k).toArray ∧ Out Nil W W' :=
 eU.iV (fs := []) (cs := []) aFi (RU (X := Nil) (fun _ h => h.elim) h)
theorem EZ (c : Ch) (W : World) (h : c.k.length = 32) : eU Tryz.prog (vH 152) [.agg (dU c).toArray] W fun v W' => v = .agg (kc c.k).toArray ∧ Out Nil W W' :=
 eU.iV (fs := []) (cs := []) aFd (R8 (X := Nil) (fun _ h => h.elim) h)
theorem E0 (c : Ch) (W : World) (h : c.k.length = 32) : eU Tryz.prog (vH 150) [.agg (dU c).toArray] W fun v W' => v = .bool c.d ∧ Out Nil W W' :=
 eU.iV (fs := []) (cs := []) aFf (R9 (X := Nil) (fun _ h => h.elim) h)
open Go.ChangeShapes Go.WideShapes Go.ChangeAt
instance : Inhabited En := ⟨⟨[], .slice none 0 0, []⟩⟩
open Go.ChangeShapes Go.WideShapes Go.ChangeAt
def rE : List (List UInt8) → Int
 | a :: b :: r => if gP a b = 0 then 9 else if 0 < gP a b then 8 else rE (b :: r)
 | _ => 0
theorem MD {l : List (List UInt8)} {i : Nat} (h : i + 1 < l.length) : rE (l.drop i) = if gP l[i] l[i + 1] = 0 then 9 else if 0 < gP l[i] l[i + 1] then 8 else rE (l.drop (i + 1)) := by
 rw [List.drop_eq_getElem_cons (by omega : i < l.length), List.drop_eq_getElem_cons h]
 rfl
theorem RT {l : List (List UInt8)} {i : Nat} (h : l.length ≤ i + 1) : rE (l.drop i) = 0 := by
 rcases Nat.lt_or_ge i l.length with hl | hl
 ·
  rw [List.drop_eq_getElem_cons hl, List.drop_eq_nil_of_le (by omega)]; rfl
 ·
  rw [List.drop_eq_nil_of_le hl]; rfl
theorem X2 {X : Nat → Prop} {w : World} {s : Value} {ks : List (List UInt8)} (hX : cW X w) (bU : aH X (eN s ks) w) (pW : K32 ks) (hlen : ks.length ≤ 1000000) :
  bD Tryz.prog 144 [s].toArray w fun v w' => v = .int .i64 (rE ks) ∧ Out Nil w w' := by
 refine bD.aI (N := 27) Tryz.func144 rfl rfl (by simp) ?_
 have H := St.begin hX
 replace H := H.add (cF bU)
 refine WE.aA (WL.as rfl rfl (WL.nil (WE.seq (WE.aA (WL.as rfl rfl (WL.nil (WE.block ?_)))))))
 refine WE.loop (α := Nat) [2, 3, 4, 5, 6, 7, 8, 9, 10, 11, 12, 13, 14, 15, 16, 17, 18, 19, 20, 21, 22, 23, 24, 25, 26] (fun i => [(3, .int .i64 ((i + 1 : Nat) : Int))]) (fun i wl => i ≤ ks.length ∧ rE (ks.drop i) = rE ks ∧ St X w wl [] [] [eN s ks]) (fun i => ks.length - i) 0 ⟨rfl, trivial⟩ ⟨Nat.zero_le _, rfl, H⟩ ?_
 intro i γ0 w1 hI
 try dsimp only at hI
 obtain ⟨hi, hch, H⟩ := hI
 refine WE.seq (WE.aA (WL.mv rfl rfl (WL.mv rfl rfl (WL.pv (PV.dO (H.p 0 rfl : eN s ks _) vY rfl) rfl (WL.pv (PV.lss rfl rfl rfl) rfl (WL.nil ?_))))))
 refine WE.cond rfl (fun mO => ?_) (fun mO => ?_)
 ·
  try simp only [bW] at mO
  have hlt : i + 1 < ks.length := by omega
  have vF := pW _ (List.getElem_mem (show i < ks.length by omega))
  have CG := pW _ (List.getElem_mem hlt)
  have hst := MD hlt
  refine WE.skip (WE.seq (WE.block ?_))
  refine WE.bF (.take 0 (.take 1 (.take 2 (.take 3 (.take 4 (.take 5 (.take 6 (.take 7 (.take 8 (.aG 9 (.take 10 .done))))))))))) mixed (by kernel_rfl) ?_
  replace H := H.out (Out.drew _)
  refine WP.mv rfl rfl rfl (WP.mv rfl rfl rfl ?_)
  refine WP.aC rfl rfl (PV.eq (v' := .int .i64 ((i : Nat) : Int)) (PV.iT rfl rfl rfl (by omega) (by omega)) (by congr 1; omega)) ?_
  refine WP.aC rfl rfl (PV.eQ rfl (H.p 0 rfl : eN s ks _) vY cN rfl rfl (by omega) (by omega)) ?_
  refine WP.dF rfl rfl rfl cU rfl (eN.rd (H.p 0 rfl : eN s ks _) pW i (by omega)) (cI cN (by simp only [aR]; omega)) ?_
  refine WP.mv rfl rfl rfl (WP.mv rfl rfl rfl (WP.aC rfl rfl (PV.eQ rfl (H.p 0 rfl : eN s ks _) vY cN rfl rfl (by omega) (by omega)) ?_))
  refine WP.dF rfl rfl rfl cU rfl (eN.rd (H.p 0 rfl : eN s ks _) pW (i + 1) (by omega)) (cI cN (by simp only [aR]; omega)) ?_
  refine WP.aG rfl ?_
  refine WL.call aBs rfl (qR (k := ks[i]) (l := ks[i + 1]) H.aS  vF CG) ?_
  rintro _ w2 ⟨rfl, hO⟩
  replace H := H.out hO
  refine WL.nil ⟨(fa (nw 9 8 (by decide +kernel)) (fa (nw 9 4 (by decide +kernel)) cV)), ?_⟩
  refine WP.as rfl rfl rfl (WP.done (WE.block (WE.aA (WL.mv rfl rfl (WL.pv (PV.eql rfl rfl rfl) rfl (WL.as rfl rfl (WL.nil ?_)))))))
  refine WE.cond rfl (fun oE => ?_) (fun oE => ?_)
  ·
   try simp only [bW] at oE
   have hz0 : gP ks[i] ks[i + 1] = 0 := by exact oE
   refine WE.aA (WL.as rfl rfl (WL.nil (WE.ret ⟨[_], _, .nil _, ⟨rfl, trivial⟩, ?_⟩)))
   refine ⟨?_, H.aM⟩
   rw [← hch, hst, if_pos hz0]; rfl
  ·
   try simp only [bW] at oE
   have hn0 : ¬ gP ks[i] ks[i + 1] = 0 := by exact oE
   refine WE.aA (WL.mv rfl rfl (WL.pv (PV.gtr rfl rfl rfl) rfl (WL.as rfl rfl (WL.nil ?_))))
   refine WE.cond rfl (fun QS => ?_) (fun QS => ?_)
   ·
    try simp only [bW] at QS
    have hp1 : 0 < gP ks[i] ks[i + 1] := by exact QS
    refine WE.aA (WL.as rfl rfl (WL.nil (WE.ret ⟨[_], _, .nil _, ⟨rfl, trivial⟩, ?_⟩)))
    refine ⟨?_, H.aM⟩
    (rw [← hch, hst, if_neg hn0, if_pos hp1]; rfl)
   ·
    try simp only [bW] at QS
    have TR : ¬ 0 < gP ks[i] ks[i + 1] := by (have := QS; omega)
    refine WE.skip (WE.eM (WL.mv rfl rfl ?_))
    refine WL.pv (PV.eq (v' := .int .i64 ((i + 1 + 1 : Nat) : Int)) (PV.bZ rfl rfl rfl (by omega) (by omega)) (by congr 1)) rfl ?_
    refine WL.as rfl rfl (WL.nil ?_)
    exact ⟨i + 1, (by repeat (first | with_reducible exact bQ.refl _ _ | refine bQ.dB rfl ?_ | refine bQ.cE rfl ?_ | refine bQ.cB rfl ?_)), ⟨rfl, trivial⟩, rfl, ⟨by omega, by rw [← hch, hst, if_neg hn0, if_neg TR], H⟩, (by omega)⟩
 ·
  try simp only [bW] at mO
  have hen := RT (l := ks) (i := i) (by omega)
  refine WE.exit (WE.aA (WL.as rfl rfl (WL.nil (WE.ret ⟨[_], _, .nil _, ⟨rfl, trivial⟩, ?_⟩))))
  refine ⟨?_, H.aM⟩
  rw [← hch, hen]; rfl
theorem fV.one {s : Value} {l : List Ch} {w : World} (h : gJ l w) : ∀ c ∈ l, c.s.oneCell' = true := fun c hc => cS.fG (h c hc)
theorem BA {l : List Ch} (h : ∀ c ∈ l, c.s.oneCell' = true) : eC (l.flatMap dU) := fun v hv => by
 obtain ⟨c, hc, hv⟩ := List.mem_flatMap.1 hv
 exact k5 (h c hc) v hv
theorem AA {α : Type} {l m : List α} {i j : Nat} (h : l.drop i = m.drop i) (hj : i ≤ j) : l.drop j = m.drop j := by
 have := congrArg (List.drop (j - i)) h
 rwa [List.drop_drop, List.drop_drop, show i + (j - i) = j by omega] at this
theorem yI {α : Type} {l : List α} {i : Nat} {x : α} (h : i < l.length) : (l.set i x).take (i + 1) = l.take i ++ [x] := by
 rw [List.take_succ_eq_append_getElem (by rw [List.length_set]; exact h), List.getElem_set_self, List.take_set, List.set_eq_of_length_le (by rw [List.length_take]; omega)]
theorem wQ {l : List Ch} {i : Nat} (h : i < l.length) : dX (l.take (i + 1)) = if l[i].d then dX (l.take i) else dX (l.take i) ++ [l[i]] := by
 unfold dX
 rw [List.take_succ_eq_append_getElem h, List.filter_append]
 split
 ·
  rename_i h1; simp [h1]
 ·
  rename_i h1; simp [h1]
theorem zN {l : List Ch} (h : ∀ c ∈ l, c.d = false) : dX l = l := List.filter_eq_self.2 fun c hc => by rw [h c hc]; rfl
theorem XL.set {l : List Ch} (h : XL l) (i : Nat) {x : Ch} (hx : x.k.length = 32) : XL (l.set i x) := fun e he => by
 rcases List.mem_or_eq_of_mem_set he with h1 | h1
 ·
  exact h e h1
 ·
  rw [h1]; exact hx
theorem fV.G7 {w : World} {g n cap : Nat} {t : TypeId} {rs : List Ch} {rest : List Value} (h : aK w g t (rs.flatMap dU ++ rest)) (hk : XL rs) (hn : rs.length = n) (hc : n ≤ cap) : cS w (.slice (some ⟨g, 0, none⟩) n cap) 34 n (rs.flatMap dU) := by
 have h1 := JK rs hk.len rest 0 (Nat.zero_le _)
 rw [List.drop_zero] at h1
 exact cS.mX (h.aF h1 (by simp)) (by rw [cZ _ hk.len, hn]) hc
theorem aIl {w : World} {g j q : Nat} {t : TypeId} {rs ks : List Ch} {rest : List Value} (h : aK w g t (rs.flatMap dU ++ rest)) (hk : XL rs) (hrl : rs.length = ks.length) (hd : rs.drop q = ks.drop q) (hq : q ≤ j) (hl : j < ks.length) (n c : Nat) : cX w (jD (.slice (some ⟨g, 0, none⟩) n c) (j * 34)) (dU ks[j]) := by
 have h1 : rs[j]'(by omega) = ks[j] := by
  have e2 : (rs.drop q)[j - q]'(by rw [List.length_drop]; omega) = (ks.drop q)[j - q]'(by rw [List.length_drop]; omega) := by simp only [hd]
  rw [List.getElem_drop, List.getElem_drop] at e2
  simpa [show q + (j - q) = j by omega] using e2
 have h2 := fV.rd (show fV _ rs w from fV.G7 (cap := rs.length) h hk rfl (Nat.le_refl _)) hk j (by omega)
 rw [h1] at h2
 exact h2
theorem hU {g n cap lo hi : Nat} (h : lo < cap) : iS (.slice (some ⟨g, 0, none⟩) n cap) 34 lo hi = .slice (some ⟨g, lo * 34, none⟩) (hi - lo) (cap - lo) := by
 show Value.slice (if cap = lo then _ else _) _ _ = _
 rw [if_neg (by omega)]
 simp [lP]
theorem WX {X : Nat → Prop} {w : World} {s : Value} {l : List Ch} (hX : cW X w) (bU : aH X (fV s l) w) (hx : XL l) (hlen : l.length ≤ 1000000) (gC : ∀ c ∈ l, c.s.oneCell' = true) :
  bD Tryz.prog 95 [s].toArray w fun v w' => v = .int .i64 (rE (l.map Ch.k)) ∧ Out Nil w w' := by
 refine bD.aI (N := 6) Tryz.func95 rfl rfl (by simp) ?_
 have H := St.begin hX
 replace H := H.add (cF bU)
 refine WE.aA (WL.as rfl rfl (WL.nil (WE.aA (WL.mv rfl rfl ?_))))
 refine WL.call ZW rfl (PQ (s := s) (l := l) (f := vH 146) H.aS (H.bN 0 rfl) hx hlen gC ER) ?_
 rintro v4 w1 ⟨hO, hR⟩
 replace H := (H.out hO).add hR
 refine WL.call aFj rfl (X2 (ks := l.map Ch.k) H.aS (H.bN 0 rfl) (E9 hx) (by rw [List.length_map]; exact hlen)) ?_
 rintro _ w2 ⟨rfl, hO⟩
 replace H := H.out hO
 refine WL.as rfl rfl (WL.nil (WE.ret ⟨[_], _, .nil _, ⟨rfl, trivial⟩, ?_⟩))
 exact ⟨rfl, H.aM⟩
theorem yB {X : Nat → Prop} {w : World} {s : Value} {l : List Ch} (hX : cW X w) (bU : aH X (fV s l) w) (hx : XL l) (hlen : l.length ≤ 1000000) (gC : ∀ c ∈ l, c.s.oneCell' = true) :
  bD Tryz.prog 149 [s].toArray w fun v w' => Out Nil w w' ∧ w'.ownsRow w.heap.size 127 34 v (l).length ((l).flatMap dU) := by
 refine bD.aI (N := 8) Tryz.func149 rfl rfl (by simp) ?_
 have H := St.begin hX
 replace H := H.add (cF bU)
 refine WE.aA (WL.as rfl rfl (WL.nil (WE.seq (WE.aA (WL.mv rfl rfl (WL.pv (PV.Z4 rfl (H.p 0 rfl : fV s l _) dQ rfl rfl) rfl (WL.nil ?_)))))))
 refine WE.cond rfl (fun VV => ?_) (fun VV => ?_)
 ·
  try simp only [bW] at VV
  have h0 : l = [] := List.eq_nil_of_length_eq_zero (cS.PC (H.p 0 rfl : fV s l _) VV)
  subst h0
  refine WE.aA (WL.as rfl rfl (WL.nil (WE.ret ⟨[_], _, .nil _, ⟨rfl, trivial⟩, ?_⟩)))
  exact ⟨H.aM, World.ownsRow_nil _ _ _ _⟩
 ·
  try simp only [bW] at VV
  refine WE.skip (WE.aA ?_)
  refine WL.bJ (l0 := []) H rfl uF (by decide) (by rfl) Fl.nil rfl ?_
  intro b5 w1 H
  replace H := H.IK (n := 0) (sz := 34) (i := 0) rfl rfl (by decide)
  refine WL.mv rfl rfl ?_
  refine WL.append H 0 uF (by decide) rfl rfl rfl (H.p 0 rfl : fV s l _) (BA gC) (by omega) (by decide) rfl ?_
  intro v7 w2 H
  refine WL.as rfl rfl (WL.nil (WE.ret ⟨[_], _, .nil _, ⟨rfl, trivial⟩, ?_⟩))
  exact ⟨H.aM, by have h_ := H.l 0 rfl; rw [Nat.zero_add] at h_; exact h_⟩
theorem FB {X : Nat → Prop} {w : World} {s f : Value} {l : List Ch} (hX : cW X w) (bU : aH X (fV s l) w) (hx : XL l) (hlen : l.length ≤ 1000000) (hf : ∀ (c : Ch) (W : World), c.k.length = 32 → eU Tryz.prog f [.agg (dU c).toArray] W fun v W' => v = .bool c.d ∧ Out Nil W W') :
  bD Tryz.prog 188 [s, f].toArray w fun v w' => ∃ z : Int, v = .int .i64 z ∧ Out Nil w w' ∧ ((z = -1 ∧ ∀ c ∈ l, c.d = false) ∨ ∃ i, ∃ h : i < l.length, z = ((i : Nat) : Int) ∧ l[i].d = true ∧ ∀ c ∈ l.take i, c.d = false) := by
 refine bD.aI (N := 19) Tryz.func188 rfl rfl (by simp) ?_
 have H := St.begin hX
 replace H := H.add (cF bU)
 refine WE.aA (WL.as rfl rfl (WL.nil (WE.seq (WE.aA (WL.mv rfl rfl ?_)))))
 refine WL.pv (PV.dO (by exact (H.p 0 rfl : fV s l _)) dQ rfl) rfl ?_
 refine WL.mv rfl rfl (WL.nil (WE.block ?_))
 refine WE.loop (α := Nat) [4, 5, 8, 9, 10, 11, 12, 13, 14, 15, 16, 17, 18] (fun i => [(8, .int .i64 (i : Int))]) (fun i wl => i ≤ l.length ∧ (∀ c ∈ l.take i, c.d = false) ∧ St X w wl [] [] [fV s l]) (fun i => l.length - i) 0 ⟨rfl, trivial⟩ ⟨Nat.zero_le _, (fun c hc => by simp at hc), H⟩ ?_
 intro i γ0 w1 hI
 try dsimp only at hI
 obtain ⟨hi, hall, H⟩ := hI
 refine WE.aA (WL.pv (PV.lss rfl rfl rfl) rfl (WL.nil (WE.seq ?_)))
 refine WE.cond rfl (fun xA => ?_) (fun xA => ?_)
 ·
  try simp only [bW] at xA
  have hlt : i < l.length := by omega
  have hki := hx _ (List.getElem_mem hlt)
  have QO := iR hki
  refine WE.skip (WE.seq (WE.block (WE.aA (WL.mv rfl rfl (WL.as rfl rfl (WL.nil (WE.aA ?_)))))))
  refine WL.mv rfl rfl (WL.mv rfl rfl (WL.mv rfl rfl ?_))
  refine WL.pv (PV.eQ rfl (by exact (H.p 0 rfl : fV s l _)) dQ eB rfl rfl (by omega) (by omega)) rfl ?_
  refine WL.bG rfl sM rfl rfl (fV.rd (by exact (H.p 0 rfl : fV s l _)) hx i hlt) (by (rw [eB]; refine congrArg some ?_; (simp [aN, bA, *]; done))) ?_
  refine WL.iK rfl rfl (hf l[i] _ hki) ?_
  rintro _ w3 ⟨rfl, hO⟩
  replace H := H.out hO
  refine WL.nil ?_
  refine WE.cond rfl (fun tO => ?_) (fun tO => ?_)
  ·
   try simp only [bW] at tO
   have hd : l[i].d = true := by exact tO
   refine WE.aA (WL.mv rfl rfl (WL.as rfl rfl (WL.nil (WE.ret ⟨[_], _, .nil _, ⟨rfl, trivial⟩, ?_⟩))))
   exact ⟨_, rfl, H.aM, .inr ⟨i, hlt, rfl, hd, hall⟩⟩
  ·
   try simp only [bW] at tO
   have hd : l[i].d = false := by exact tO
   refine WE.skip (WE.eM ?_)
   refine WL.pv (PV.eq (v' := .int .i64 ((i + 1 : Nat) : Int)) (PV.bZ rfl rfl rfl (by omega) (by omega)) (by rfl)) rfl ?_
   refine WL.mv rfl rfl (WL.nil ?_)
   exact ⟨i + 1, (by repeat (first | with_reducible exact bQ.refl _ _ | refine bQ.dB rfl ?_ | refine bQ.cE rfl ?_ | refine bQ.cB rfl ?_)), ⟨rfl, trivial⟩, rfl, ⟨by omega, (fun c hc => by rw [List.take_succ_eq_append_getElem hlt] at hc; rcases List.mem_append.1 hc with h_ | h_; exact hall c h_; rw [List.mem_singleton.1 h_]; exact hd), H⟩, (by omega)⟩
 ·
  try simp only [bW] at xA
  have uM : i = l.length := by omega
  refine WE.exit (WE.aA (WL.as rfl rfl (WL.nil (WE.ret ⟨[_], _, .nil _, ⟨rfl, trivial⟩, ?_⟩))))
  exact ⟨_, rfl, H.aM, .inl ⟨rfl, fun c hc => by subst uM; rw [List.take_length] at hall; exact hall c hc⟩⟩
theorem TC {X : Nat → Prop} {w : World} {g cap : Nat} {f : Value} {l : List Ch} {rest : List Value} (hX : cW X w) (eR : aK w g 127 (l.flatMap dU ++ rest)) (hx : XL l) (hlen : l.length ≤ 1000000) (gC : ∀ c ∈ l, c.s.oneCell' = true) (jC : l.length ≤ cap) (hf : ∀ (c : Ch) (W : World), c.k.length = 32 → eU Tryz.prog f [.agg (dU c).toArray] W fun v W' => v = .bool c.d ∧ Out Nil W W') :
  bD Tryz.prog 148 [.slice (some ⟨g, 0, none⟩) l.length cap, f].toArray w fun v w' => v = .slice (some ⟨g, 0, none⟩) (dX l).length cap ∧ Out (· = g) w w' ∧ ∃ IV, aK w' g 127 ((dX l).flatMap dU ++ IV) ∧ IV.length + (dX l).length * 34 = rest.length + l.length * 34 := by
 refine bD.aI (N := 42) Tryz.func148 rfl rfl (by simp) ?_
 have H := St.c6 (b := g) (t := 127) (l := l.flatMap dU ++ rest) hX eR
 have hkr := hx
 have hrl : l.length = l.length := rfl
 refine WE.aA (WL.as rfl rfl (WL.nil (WE.aA (WL.mv rfl rfl (WL.mv rfl rfl ?_)))))
 refine WL.call ZR rfl (FB (X := Nil) (s := .slice (some ⟨g, 0, none⟩) l.length cap) (l := l) (f := f) (fun _ h => h.elim) ((H.aGN 0 rfl).imp fun _ h => fV.G7 h hx rfl jC) hx hlen hf) ?_
 rintro _ w1 ⟨z, rfl, hO, hz⟩
 replace H := H.out hO
 refine WL.as rfl rfl (WL.nil (WE.seq (WE.aA (WL.mv rfl rfl (WL.pv (PV.eql rfl rfl rfl) rfl (WL.nil ?_))))))
 refine WE.cond rfl (fun kW => ?_) (fun kW => ?_)
 ·
  try simp only [bW] at kW
  have hz1 : z = -1 := by exact kW
  have hlv : dX l = l := by rcases hz with ⟨_, h_⟩ | ⟨i_, h_, NB, _⟩; exact zN h_; omega
  refine WE.aA (WL.mv rfl rfl (WL.as rfl rfl (WL.nil (WE.ret ⟨[_], _, .nil _, ⟨rfl, trivial⟩, ?_⟩))))
  rw [hlv]
  exact ⟨rfl, H.l5.mono fun b _ ⟨_, he, hb⟩ => (by cases List.mem_singleton.1 he; exact hb), rest, H.o 0 rfl, rfl⟩
 ·
  try simp only [bW] at kW
  obtain ⟨i0, hi0, rfl, hd0, hall⟩ : ∃ i, ∃ h : i < l.length, z = ((i : Nat) : Int) ∧ l[i].d = true ∧ ∀ c ∈ l.take i, c.d = false := by rcases hz with ⟨h_, _⟩ | h_; exact absurd h_ (by exact kW); exact h_
  have aG5 : l.take i0 = dX (l.take (i0 + 1)) := by rw [wQ hi0, if_pos hd0, zN hall]
  refine WE.skip (WE.seq (WE.aA (WL.mv rfl rfl ?_)))
  refine WL.pv (PV.eq (v' := .int .i64 ((i0 + 1 : Nat) : Int)) (PV.bZ rfl rfl rfl (by omega) (by omega)) (by rfl)) rfl ?_
  refine WL.as rfl rfl (WL.nil (WE.block ?_))
  refine WE.loop (α := Nat × Nat × List Ch) [5, 6, 7, 16, 17, 18, 19, 20, 21, 22, 23, 24, 25, 26, 27, 28, 29, 30, 31, 32, 33, 34, 35] (fun q => [(5, .int .i64 (q.1 : Int)), (6, .int .i64 (q.2.1 : Int))]) (fun q wl => (q.1 + 1 ≤ q.2.1 ∧ q.2.1 ≤ l.length) ∧ (XL q.2.2 ∧ q.2.2.length = l.length) ∧ (q.2.2.take q.1 = dX (l.take q.2.1) ∧ q.2.2.drop q.2.1 = l.drop q.2.1) ∧ St X w wl [aO.blk g 127 ((q.2.2).flatMap dU ++ rest)] [] []) (fun q => l.length - q.2.1) (i0, i0 + 1, l) ⟨rfl, rfl, trivial⟩ ⟨⟨Nat.le_refl _, by dsimp only; omega⟩, ⟨hx, rfl⟩, ⟨aG5, rfl⟩, H⟩ ?_
  intro ⟨t, j, rs⟩ γ0 w2 hI
  try dsimp only at hI
  obtain ⟨⟨VN, hj⟩, ⟨hkr, hrl⟩, ⟨JC, hdr⟩, H⟩ := hI
  try dsimp only at VN hj hkr hrl JC hdr
  have hq1 : (((t, j, rs) : Nat × Nat × List Ch).snd.fst) = j := rfl
  have hq0 : (((t, j, rs) : Nat × Nat × List Ch).fst) = t := rfl
  refine WE.seq (WE.aA (WL.mv rfl rfl (WL.mv rfl rfl (WL.pv (PV.dO (fV.G7 (cap := cap) (H.o 0 rfl) hkr hrl jC) dQ rfl) rfl (WL.pv (PV.lss rfl rfl rfl) rfl (WL.nil ?_))))))
  refine WE.cond rfl (fun jJ => ?_) (fun jJ => ?_)
  ·
   try simp only [bW] at jJ
   have hlt : j < l.length := by omega
   have hkj := hx _ (List.getElem_mem hlt)
   have QO := iR hkj
   have CF := wQ hlt
   refine WE.skip (WE.seq (WE.block (WE.aA (WL.mv rfl rfl (WL.mv rfl rfl ?_)))))
   refine WL.pv (PV.eQ rfl (fV.G7 (cap := cap) (H.o 0 rfl) hkr hrl jC) dQ eB rfl rfl (by omega) (by omega)) rfl ?_
   refine WL.bG rfl sM rfl rfl ((aIl (j := j) (q := j) (ks := l) (H.o 0 rfl) hkr hrl hdr (by omega) hlt _ _)) (by (rw [eB]; refine congrArg some ?_; (simp [aN, bA, *]; done))) ?_
   refine WL.alloc H rfl y5 rfl ?_
   intro b7 w3 H
   refine WL.aT H 0 rfl rfl rfl (new := dU l[j]) rfl (by (rw [eB]; refine congrArg some ?_; (simp [aN, bA, *]; done))) (k5 (gC _ (List.getElem_mem hlt))) (Laid.at (Laid.all (by simp only [aR]; omega)) (by rfl)) rfl ?_
   intro w4 H
   refine WL.nil (WE.aA (WL.mv rfl rfl ?_))
   refine WL.bG rfl sM rfl rfl (by exact aK.aF (H.l 0 rfl) (aJ.all _) (by rfl)) (by (rw [eB]; refine congrArg some ?_; (simp [aN, bA, *]; done))) ?_
   refine WL.iK rfl rfl (hf l[j] _ hkj) ?_
   rintro _ w6 ⟨rfl, hO⟩
   replace H := H.out hO
   refine WL.pv (PV.not rfl rfl) rfl (WL.nil ?_)
   refine WE.cond rfl (fun BR => ?_) (fun BR => ?_)
   ·
    try simp only [bW] at BR
    have hdj : l[j].d = false := by exact BR
    rw [if_neg (by rw [hdj]; decide)] at CF
    let t2 := t + 1
    let OE := rs.set t l[j]
    have ht2 : t2 ≤ t + 1 := Nat.le_refl _
    have aBa : XL OE := hkr.set _ hkj
    have aA4 : OE.length = l.length := by show (rs.set _ _).length = _; rw [List.length_set]; exact hrl
    have aA1 : OE.take t2 = dX (l.take (j + 1)) := by show (rs.set t l[j]).take (t + 1) = _; rw [CF, ← JC, yI (by omega)]
    have aBd : OE.drop (j + 1) = l.drop (j + 1) := by show (rs.set t l[j]).drop _ = _; rw [List.drop_set_of_lt (by omega)]; exact AA hdr (by omega)
    refine WE.aA (WL.mv rfl rfl (WL.mv rfl rfl ?_))
    refine WL.bG rfl sM rfl rfl (by exact aK.aF (H.l 0 rfl) (aJ.all _) (by rfl)) (by (rw [eB]; refine congrArg some ?_; (simp [aN, bA, *]; done))) ?_
    refine WL.pv (PV.eq (v' := .pointer (some ⟨g, t * 34, none⟩)) (PV.eQ rfl (fV.G7 (cap := cap) (H.o 0 rfl) hkr hrl jC) dQ eB rfl rfl (by omega) (by omega)) (by show Value.pointer (some ((⟨g, 0, none⟩ : Addr).add (Int.toNat (t : Int) * 34))) = _; rw [lP, Int.toNat_natCast, Nat.zero_add])) rfl ?_
    refine WL.kV H 0 rfl rfl rfl (new := dU l[j]) rfl (by (rw [eB]; refine congrArg some ?_; (simp [aN, bA, *]; done))) (k5 (gC _ (List.getElem_mem hlt))) (pL (C := dU) rs hkr.len rest (i := t) (by omega) QO rfl) rfl ?_
    intro w8 H
    refine WL.nil (WE.eM (WL.mv rfl rfl ?_))
    refine WL.pv (PV.eq (v' := .int .i64 ((t + 1 : Nat) : Int)) (PV.bZ rfl rfl rfl (by omega) (by omega)) (by rfl)) rfl ?_
    refine WL.as rfl rfl (WL.nil (WE.eM (WL.mv rfl rfl ?_)))
    refine WL.pv (PV.eq (v' := .int .i64 ((j + 1 : Nat) : Int)) (PV.bZ rfl rfl rfl (by omega) (by omega)) (by rfl)) rfl ?_
    refine WL.as rfl rfl (WL.nil ?_)
    replace H := H.forget 0
    exact ⟨(t2, j + 1, OE), (by repeat (first | with_reducible exact bQ.refl _ _ | refine bQ.dB rfl ?_ | refine bQ.cE rfl ?_ | refine bQ.cB rfl ?_)), ⟨rfl, rfl, trivial⟩, rfl, ⟨⟨by dsimp only; omega, by dsimp only; omega⟩, ⟨aBa, aA4⟩, ⟨aA1, aBd⟩, H⟩, (by dsimp only; omega)⟩
   ·
    try simp only [bW] at BR
    have hdj : l[j].d = true := by exact BR
    rw [if_pos hdj] at CF
    let t2 := t
    let OE := rs
    have ht2 : t2 ≤ t + 1 := Nat.le_succ _
    have aBa : XL OE := hkr
    have aA4 : OE.length = l.length := hrl
    have aA1 : OE.take t2 = dX (l.take (j + 1)) := by rw [CF]; exact JC
    have aBd : OE.drop (j + 1) = l.drop (j + 1) := AA hdr (by omega)
    refine WE.skip (WE.eM (WL.mv rfl rfl ?_))
    refine WL.pv (PV.eq (v' := .int .i64 ((j + 1 : Nat) : Int)) (PV.bZ rfl rfl rfl (by omega) (by omega)) (by rfl)) rfl ?_
    refine WL.as rfl rfl (WL.nil ?_)
    replace H := H.forget 0
    exact ⟨(t2, j + 1, OE), (by repeat (first | with_reducible exact bQ.refl _ _ | refine bQ.dB rfl ?_ | refine bQ.cE rfl ?_ | refine bQ.cB rfl ?_)), ⟨rfl, rfl, trivial⟩, rfl, ⟨⟨by dsimp only; omega, by dsimp only; omega⟩, ⟨aBa, aA4⟩, ⟨aA1, aBd⟩, H⟩, (by dsimp only; omega)⟩
  ·
   try simp only [bW] at jJ
   have hje : j = l.length := by omega
   refine WE.exit (WE.aA (WL.mv rfl rfl (WL.mv rfl rfl ?_)))
   refine WL.pv (PV.eq (v' := .slice (some ⟨g, t * 34, none⟩) (l.length - t) (cap - t)) (PV.qC rfl (fV.G7 (cap := cap) (H.o 0 rfl) hkr hrl jC) dQ eB rfl rfl (by omega) (by omega)) (hU (by omega))) rfl ?_
   have BS := (fV.G7 (cap := cap) (H.o 0 rfl) hkr hrl jC)
   refine WL.aBC (sz := 34) (zl := _) H 0 dQ y5 (bC _ rfl) rfl rfl rfl (by omega) (by rw [List.length_append, cZ _ hkr.len, hrl]; omega) rfl ?_
   intro y8 new hnl H
   refine WL.nil (WE.aA (WL.mv rfl rfl (WL.mv rfl rfl ?_)))
   refine WL.pv (PV.eq (v' := .slice (some ⟨g, 0, none⟩) t cap) (PV.UB rfl BS dQ eB rfl rfl (by omega) (by omega)) (by have h_ := hU (g := g) (n := l.length) (cap := cap) (lo := 0) (hi := t) (by omega); rw [Nat.zero_mul] at h_; exact h_)) rfl ?_
   refine WL.as rfl rfl (WL.nil (WE.ret ⟨[_], _, .nil _, ⟨rfl, trivial⟩, ?_⟩))
   have qM : rs.take t = dX l := by have h_ := JC; rw [hje, List.take_length] at h_; exact h_
   have pX : (dX l).length = t := by rw [← qM, List.length_take]; omega
   have aEm := show aK _ g _ _ from H.o 0 rfl
   rw [EC rs hkr.len t (by omega), qM, List.append_assoc] at aEm
   rw [pX]
   refine ⟨rfl, H.l5.mono fun b _ ⟨_, he, hb⟩ => (by cases List.mem_singleton.1 he; exact hb), _, aEm, ?_⟩
   rw [List.length_append, hnl, List.length_drop, List.length_append, cZ _ hkr.len, hrl]; omega
theorem FE {X : Nat → Prop} {w : World} {f : Value} (hX : cW X w) (hf : ∀ (c : Ch) (W : World), c.k.length = 32 → eU Tryz.prog f [.agg (dU c).toArray] W fun v W' => v = .bool c.d ∧ Out Nil W W') :
  bD Tryz.prog 148 [.slice none 0 0, f].toArray w fun v w' => v = .slice none 0 0 ∧ Out Nil w w' := by
 refine bD.aI (N := 42) Tryz.func148 rfl rfl (by simp) ?_
 have H := St.begin hX
 refine WE.aA (WL.as rfl rfl (WL.nil (WE.aA (WL.mv rfl rfl (WL.mv rfl rfl ?_)))))
 refine WL.call ZR rfl (FB (X := Nil) (s := .slice none 0 0) (l := []) (f := f) (fun _ h => h.elim) (fun _ _ => cS.nil _ 34) (fun _ h => by cases h) (Nat.zero_le _) hf) ?_
 rintro _ w1 ⟨z, rfl, hO, hz⟩
 replace H := H.out hO
 obtain rfl : z = -1 := by rcases hz with ⟨h_, _⟩ | ⟨i_, h_, _⟩; exact h_; exact absurd h_ (Nat.not_lt_zero _)
 refine WL.as rfl rfl (WL.nil (WE.seq (WE.aA (WL.mv rfl rfl (WL.pv (PV.eql rfl rfl rfl) rfl (WL.nil ?_))))))
 refine WE.cO rfl rfl ?_
 refine WE.aA (WL.mv rfl rfl (WL.as rfl rfl (WL.nil (WE.ret ⟨[_], _, .nil _, ⟨rfl, trivial⟩, ?_⟩))))
 exact ⟨rfl, H.aM⟩
theorem FD {w : World} {base : Nat} {v f : Value} {l : List Ch} (hown : w.ownsRow base 127 34 v l.length (l.flatMap dU)) (hx : XL l) (hlen : l.length ≤ 1000000) (gC : ∀ c ∈ l, c.s.oneCell' = true) (hf : ∀ (c : Ch) (W : World), c.k.length = 32 → eU Tryz.prog f [.agg (dU c).toArray] W fun v W' => v = .bool c.d ∧ Out Nil W W') :
  bD Tryz.prog 148 [v, f].toArray w fun v' w' => Out (fun b => v.ownBlock = some b) w w' ∧ w'.ownsRow base 127 34 v' (dX l).length ((dX l).flatMap dU) ∧ v'.ownBlock = v.ownBlock := by
 obtain ⟨h1, ⟨rfl, h2⟩ | ⟨g, cap, cur, rfl, hg, BO, jC, P5, hsz, DT⟩⟩ := hown
 ·
  have h3 : l = [] := List.eq_nil_of_length_eq_zero h2
  subst h3
  refine (FE (X := Nil) (w := w) (fun _ h => h.elim) hf).mono ?_
  rintro v' w' ⟨rfl, hO⟩
  exact ⟨hO.mono fun _ _ h => h.elim, World.ownsRow_nil _ _ _ _, rfl⟩
 ·
  have hB : aK w g 127 (l.flatMap dU ++ cur.toList.drop (l.length * 34)) := by
   unfold aK
   rw [← DT, List.take_append_drop]
   exact BO
  refine (TC (X := Nil) (w := w) (fun _ h => h.elim) hB hx hlen gC jC hf).mono ?_
  rintro v' w' ⟨rfl, hO, IV, hB', hl⟩
  have pX : (dX l).length ≤ l.length := List.length_filter_le ..
  have qM : XL (dX l) := hx.sub fun c hc => (iP.1 hc).1
  refine ⟨hO.mono fun b _ h => by rw [h]; rfl, ⟨cZ _ qM.len, .inr ⟨g, cap, ((dX l).flatMap dU ++ IV).toArray, rfl, hg, hB', by omega, P5, ?_, ?_⟩⟩, rfl⟩
  ·
   simp only [List.size_toArray, List.length_append]
   rw [cZ _ qM.len]
   have h4 : (cur.toList.drop (l.length * 34)).length = cap * 34 - l.length * 34 := by rw [List.length_drop, Array.length_toList, hsz]
   have h5 : l.length * 34 ≤ cap * 34 := Nat.mul_le_mul_right _ jC
   omega
  ·
   rw [List.toList_toArray, List.take_left' (cZ _ qM.len)]
theorem St.aCR {X : Nat → Prop} {w0 w w' : World} {O L : List aO} {Ps : List (World → Prop)} (H : St X w0 w O L Ps) {i : Nat} {e : aO} (hi : O[i]? = some e) (h : Out e.fp w w') (e' : aO) (he : e'.ok w') (hf : ∀ b, e'.fp b ↔ e.fp b) (e2 : aO) (he2 : e2.ok w') (hn : ∀ b, e2.fp b → w.heap.size ≤ b) :
  St X w0 w' (O.set i e') (e2 :: L) Ps :=
 let H' := H.uY hi h e' he hf
 { H' with
  r8 := fun x hx => by
   cases List.mem_cons.1 hx with
   | inl hx => subst hx; exact he2
   | inr hx => exact H'.r8 x hx
  jR := fun x hx => by
   cases List.mem_cons.1 hx with
   | inl hx => subst hx; exact fun b hb => Nat.le_trans H.size (hn b hb)
   | inr hx => exact H'.jR x hx
  gY := List.pairwise_cons.2 ⟨fun x hx b hb => by
   have h1 := hn b hb.1
   have h2 := H.TN x hx b hb.2
   omega, H'.gY⟩
  iH := fun p hp => (H.iH p hp).out h (fun b _ hm => .inr (.inl ⟨e, List.mem_of_getElem? hi, hm⟩)) (fun b hb hx => by
   rcases hx with hx | ⟨x, hx, hb'⟩ | ⟨x, hx, hb'⟩
   ·
    exact .inl hx
   ·
    rcases dW hx with rfl | ⟨j, hne, hj⟩
    ·
     exact .inr (.inl ⟨e, List.mem_of_getElem? hi, (hf b).1 hb'⟩)
    ·
     exact .inr (.inl ⟨x, List.mem_of_getElem? hj, hb'⟩)
   ·
    cases List.mem_cons.1 hx with
    | inl hx => subst hx; have := hn b hb'; omega
    | inr hx => exact .inr (.inr ⟨x, hx, hb'⟩)) }
section
variable {r : Option Nat} {P : Program} {N : Nat} {σ : Env} {ds : List Deferred} {w : World} {ops : Array Oper} {rest : List Oper} {K : Env → List Deferred → World → Prop}
variable {X : Nat → Prop} {w0 : World} {O L : List aO} {Ps : List (World → Prop)}
theorem WL.XD {dst : Option Tmp} {t ty e : TypeId} {zl : List Value} {bytes base : Nat} {x y : Operand} {pos : String} {after : Array Edge} {guard : Option (Nat × Bool)} {v u : Value} {n m : Nat} {xs news : List Value}
  (H : St X w0 w O L Ps) (i : Nat) (hbase : base ≤ w0.heap.size) (ht : lR P t e zl bytes) (hz : 0 < zl.length) (hi : O[i]? = some (aO.iA base v e zl.length n xs)) (hx : ev σ x = v) (hy : ev σ y = u) (hu : cS w u zl.length m news)
  (h1 : eC news) (hb : (n + m) * bytes ≤ 140737488355328) (zS : 0 < bytes) (hw : cC ops σ ⟨dst, .call ⟨.builtin .append, [x, y].toArray, [t, t].toArray⟩, ty, pos, after, guard⟩ = true)
  (k1 : ∀ v' w', (∀ b, v'.ownBlock = some b → v.ownBlock = some b) → St X w0 w' (O.set i (aO.iA base v' e zl.length (n + m) (xs ++ news))) L Ps → WL r P N ops rest K (dB N σ dst v') ds w')
  (k2 : ∀ v' w', (∀ b, v'.ownBlock = some b → w0.heap.size ≤ b) → St X w0 w' (O.set i (aO.set fun b => v.ownBlock = some b)) (aO.iA base v' e zl.length (n + m) (xs ++ news) :: L) Ps → WL r P N ops rest K (dB N σ dst v') ds w') :
  WL r P N ops (⟨dst, .call ⟨.builtin .append, [x, y].toArray, [t, t].toArray⟩, ty, pos, after, guard⟩ :: rest) K σ ds w := by
 subst hx; subst hy
 have h63 : n + m ≤ maxLen := by
  have : (n + m) * 1 ≤ (n + m) * bytes := Nat.mul_le_mul_left _ zS
  unfold maxLen
  omega
 obtain ⟨v', w', hrun, zR, hg, hblk⟩ := qH (P := P) (ty := ty) base ht hz (H.o i hi) hu h1 h63 hb (Nat.le_trans hbase H.size)
 by_cases hc : ∃ b, v'.ownBlock = some b ∧ (ev σ x).ownBlock = some b
 ·
  obtain ⟨b0, h1', h2'⟩ := hc
  refine WL.val (v := v') (w' := w') hw rfl ?_ (k1 v' w' (fun b hb => by rw [h1'] at hb; rw [h2']; exact hb) ?_)
  ·
   simp [execOp, resolve, invoke, builtin, hrun]
  ·
   exact St.uY H hi (Out.grown hg) _ zR (fun b => by show v'.ownBlock = some b ↔ (ev σ x).ownBlock = some b; rw [h1', h2'])
 ·
  have hn : ∀ b, v'.ownBlock = some b → w.heap.size ≤ b := fun b hb => by
   rcases hblk b hb with h | h
   ·
    exact absurd ⟨b, hb, h⟩ hc
   ·
    exact h
  refine WL.val (v := v') (w' := w') hw rfl ?_ (k2 v' w' (fun b hb => Nat.le_trans H.size (hn b hb)) ?_)
  ·
   simp [execOp, resolve, invoke, builtin, hrun]
  ·
   exact St.aCR H hi (Out.grown hg) (aO.set fun b => (ev σ x).ownBlock = some b) (fun b hb => Nat.lt_of_lt_of_le ((aO.iA base (ev σ x) e zl.length n xs).lt w (H.o i hi) b hb) (Out.grown hg).size) (fun b => Iff.rfl) (aO.iA base v' e zl.length (n + m) (xs ++ news)) zR hn
end
theorem tV {a b : List UInt8} : gP a b = 0 ↔ num a = num b := by
 unfold gP
 by_cases h : num a < num b
 ·
  simp [h]; omega
 ·
  by_cases h2 : num b < num a
  ·
   simp [h, h2]; omega
  ·
   simp [h, h2]; omega
theorem PG {X : Nat → Prop} {w : World} {k q : List UInt8} {s : Value} {d : Bool} (hX : cW X w) (hk : k.length = 32) (hq : q.length = 32) :
  bD Tryz.prog 186 [.agg (kc k ++ ([s] ++ [Value.bool d])).toArray, .agg (kc q).toArray].toArray w fun v w' => v = .int .i64 (gP k q) ∧ Out Nil w w' := by
 refine bD.aI (N := 9) Tryz.func186 rfl rfl (by simp) ?_
 have H := St.begin hX
 refine WE.aA ?_
 refine WL.box (l := kc k ++ ([s] ++ [Value.bool d])) H rfl (rfl) rfl ?_
 intro b2 w1 H
 refine WL.box (l := kc q) H rfl (by rfl) rfl ?_
 intro b3 w2 H
 refine WL.as rfl rfl (WL.nil (WE.aA (WL.pv (PV.fieldAddr rfl p3 rfl) rfl ?_)))
 refine WL.bG rfl cU rfl rfl (by exact aK.aF (H.l 1 rfl) (aJ.l (aJ.all _)) (by rfl)) (cI cN (by simp only [aR]; omega)) ?_
 refine WL.bG rfl cU rfl rfl (by exact aK.aF (H.l 0 rfl) (aJ.all _) (by rfl)) (cI cN (by simp only [aR]; omega)) ?_
 refine WL.call aBs rfl (qR (k := k) (l := q) H.aS  hk hq) ?_
 rintro _ w3 ⟨rfl, hO⟩
 replace H := H.out hO
 refine WL.as rfl rfl (WL.nil (WE.ret ⟨[_], _, .nil _, ⟨rfl, trivial⟩, ?_⟩))
 exact ⟨rfl, H.aM⟩
theorem aGy {X : Nat → Prop} {w : World} {s f : Value} {l : List Ch} {k : List UInt8} (hX : cW X w) (bU : aH X (fV s l) w) (hx : XL l) (hl : rN l) (hlen : l.length ≤ 1000000) (hk : k.length = 32) (hf : ∀ (c : Ch) (W : World), c.k.length = 32 → eU Tryz.prog f [.agg (dU c).toArray, .agg (kc k).toArray] W fun v W' => v = .int .i64 (gP c.k k) ∧ Out Nil W W') :
  bD Tryz.prog 185 [s, .agg (kc k).toArray, f].toArray w fun v w' => ∃ (r : Nat) (b : Bool), v = .tuple [.int .i64 (r : Int), .bool b].toArray ∧ Out Nil w w' ∧ r ≤ l.length ∧ (∀ i (h : i < l.length), i < r → num l[i].k < num k) ∧ (∀ i (h : i < l.length), r ≤ i → num k ≤ num l[i].k) ∧ (b = true ↔ ∃ h : r < l.length, num l[r].k = num k) := by
 refine bD.aI (N := 49) Tryz.func185 rfl rfl (by simp) ?_
 have H := St.begin hX
 replace H := H.add (cF bU)
 refine WE.aA ?_
 refine WL.box (l := kc k) H rfl (by rfl) rfl ?_
 intro b4 w1 H
 refine WL.as rfl rfl (WL.as rfl rfl (WL.nil (WE.aA (WL.mv rfl rfl ?_))))
 refine WL.pv (PV.dO (by exact (H.p 0 rfl : fV s l _)) dQ rfl) rfl ?_
 refine WL.as rfl rfl (WL.nil (WE.aA (WL.mv rfl rfl (WL.as rfl rfl (WL.as rfl rfl (WL.nil (WE.seq ?_)))))))
 refine WE.block ?_
 refine WE.loop (α := Nat × Nat) [9, 10, 11, 15, 16, 17, 18, 19, 20, 21, 22, 23, 24, 25, 26, 27, 28, 29, 30, 31, 32, 33, 34] (fun q => [(9, .int .i64 (q.1 : Int)), (10, .int .i64 (q.2 : Int))]) (fun q wl => ((q.1 ≤ q.2 ∧ q.2 ≤ l.length) ∧ (∀ i (h : i < l.length), i < q.1 → num l[i].k < num k) ∧ (∀ i (h : i < l.length), q.2 ≤ i → num k ≤ num l[i].k)) ∧ St X w wl [] [aO.blk b4 24 (kc k)] [fV s l]) (fun q => q.2 - q.1) (0, l.length) ⟨rfl, rfl, trivial⟩ ⟨⟨⟨Nat.zero_le _, Nat.le_refl _⟩, (fun i _ h => absurd h (Nat.not_lt_zero _)), fun i h h2 => absurd h (Nat.not_lt.2 h2)⟩, H⟩ ?_
 intro ⟨lo, iU⟩ γ0 w2 hI
 try dsimp only at hI
 obtain ⟨⟨⟨hlh, aDF⟩, hlo, hge⟩, H⟩ := hI
 try dsimp only at hlh aDF hlo hge
 refine WE.seq (WE.aA (WL.mv rfl rfl (WL.mv rfl rfl (WL.pv (PV.lss rfl rfl rfl) rfl (WL.nil ?_)))))
 refine WE.cond rfl (fun iC => ?_) (fun iC => ?_)
 ·
  try simp only [bW] at iC
  have hlt : lo < iU := by omega
  have VS : (lo + iU) / 2 < l.length := by omega
  have sS := hx _ (List.getElem_mem VS)
  have QO := iR sS
  refine WE.skip (WE.block (WE.aA (WL.mv rfl rfl (WL.mv rfl rfl ?_))))
  refine WL.pv (PV.eq (v' := .int .i64 ((lo + iU : Nat) : Int)) (PV.bZ rfl rfl rfl (by omega) (by omega)) (by rfl)) rfl ?_
  refine WL.pv (PV.eq (v' := .int .u64 ((lo + iU : Nat) : Int)) (PV.conv rfl yD DR rfl) (by (rw [nQ]; congr 1; omega))) rfl ?_
  refine WL.pv (PV.eq (v' := .int .u64 (((lo + iU) / 2 : Nat) : Int)) (PV.UI rfl rfl rfl (by omega)) (by (congr 1; show Int.fdiv _ 2 = _; rw [Int.fdiv_eq_ediv_of_nonneg _ (by omega)]; omega))) rfl ?_
  refine WL.pv (PV.eq (v' := .int .i64 (((lo + iU) / 2 : Nat) : Int)) (PV.mL rfl DR yD rfl (by omega) (by omega)) (by rfl)) rfl ?_
  refine WL.as rfl rfl (WL.nil ?_)
  refine WE.bF (.take 0 (.take 1 (.take 2 (.take 3 (.take 4 (.take 5 (.aG 6 (.take 7 .done)))))))) mixed (by kernel_rfl) ?_
  replace H := H.out (Out.drew _)
  refine WP.mv rfl rfl rfl (WP.mv rfl rfl rfl (WP.mv rfl rfl rfl ?_))
  refine WP.aC rfl rfl (PV.eQ rfl (by exact (H.p 0 rfl : fV s l _)) dQ eB rfl rfl (by omega) (by omega)) ?_
  refine WP.dF rfl rfl rfl sM rfl (fV.rd (by exact (H.p 0 rfl : fV s l _)) hx ((lo + iU) / 2) VS) (by (rw [eB]; refine congrArg some ?_; (simp [aN, bA, *]; done))) ?_
  refine WP.dF rfl rfl rfl cU rfl (by exact aK.aF (H.l 0 rfl) (aJ.all _) (by rfl)) (cI cN (by simp only [aR]; omega)) ?_
  refine WP.aG rfl ?_
  refine WL.iK rfl rfl (hf l[(lo + iU) / 2] _ sS) ?_
  rintro _ w4 ⟨rfl, hO⟩
  replace H := H.out hO
  refine WL.nil ⟨(fa (nw 6 5 (by decide +kernel)) (fa (nw 6 4 (by decide +kernel)) cV)), ?_⟩
  refine WP.aC rfl rfl (PV.lss rfl rfl rfl) (WP.done ?_)
  refine WE.cond rfl (fun j9 => ?_) (fun j9 => ?_)
  ·
   try simp only [bW] at j9
   have BQ : num l[(lo + iU) / 2].k < num k := lL.1 (by exact j9)
   let q2 : Nat × Nat := ((lo + iU) / 2 + 1, iU)
   have VP : (q2.1 ≤ q2.2 ∧ q2.2 ≤ l.length) ∧ (∀ i (h : i < l.length), i < q2.1 → num l[i].k < num k) ∧ (∀ i (h : i < l.length), q2.2 ≤ i → num k ≤ num l[i].k) := ⟨⟨by show (lo + iU) / 2 + 1 ≤ iU; omega, aDF⟩, (fun i h hi => by have hi2 : i < (lo + iU) / 2 + 1 := hi; rcases Nat.lt_or_ge i ((lo + iU) / 2) with h_ | h_; exact Nat.lt_trans (List.pairwise_iff_getElem.1 hl i _ h VS h_) BQ; (have e_ : i = (lo + iU) / 2 := by omega); subst e_; exact BQ), hge⟩
   have hd2 : q2.2 - q2.1 < iU - lo := by show iU - ((lo + iU) / 2 + 1) < iU - lo; omega
   refine WE.eM (WL.mv rfl rfl ?_)
   refine WL.pv (PV.eq (v' := .int .i64 (((lo + iU) / 2 + 1 : Nat) : Int)) (PV.bZ rfl rfl rfl (by omega) (by omega)) (by rfl)) rfl ?_
   refine WL.as rfl rfl (WL.nil ?_)
   exact ⟨q2, (by repeat (first | with_reducible exact bQ.refl _ _ | refine bQ.dB rfl ?_ | refine bQ.cE rfl ?_ | refine bQ.cB rfl ?_)), ⟨rfl, rfl, trivial⟩, rfl, ⟨VP, H⟩, hd2⟩
  ·
   try simp only [bW] at j9
   have BQ : num k ≤ num l[(lo + iU) / 2].k := by rcases Nat.lt_or_ge (num l[(lo + iU) / 2].k) (num k) with h_ | h_; have NB := lL.2 h_; omega; exact h_
   let q2 : Nat × Nat := (lo, (lo + iU) / 2)
   have VP : (q2.1 ≤ q2.2 ∧ q2.2 ≤ l.length) ∧ (∀ i (h : i < l.length), i < q2.1 → num l[i].k < num k) ∧ (∀ i (h : i < l.length), q2.2 ≤ i → num k ≤ num l[i].k) := ⟨⟨by show lo ≤ (lo + iU) / 2; omega, by show (lo + iU) / 2 ≤ l.length; omega⟩, hlo, (fun i h hi => by have hi2 : (lo + iU) / 2 ≤ i := hi; rcases Nat.lt_or_ge ((lo + iU) / 2) i with h_ | h_; exact Nat.le_of_lt (Nat.lt_of_le_of_lt BQ (List.pairwise_iff_getElem.1 hl _ i VS h h_)); (have e_ : i = (lo + iU) / 2 := by omega); subst e_; exact BQ)⟩
   have hd2 : q2.2 - q2.1 < iU - lo := by show (lo + iU) / 2 - lo < iU - lo; omega
   refine WE.eM (WL.mv rfl rfl (WL.as rfl rfl (WL.nil ?_)))
   exact ⟨q2, (by repeat (first | with_reducible exact bQ.refl _ _ | refine bQ.dB rfl ?_ | refine bQ.cE rfl ?_ | refine bQ.cB rfl ?_)), ⟨rfl, rfl, trivial⟩, rfl, ⟨VP, H⟩, hd2⟩
 ·
  try simp only [bW] at iC
  have heq : lo = iU := by omega
  refine WE.exit ?_
  refine WE.bF (.take 0 (.take 1 (.take 2 (.take 3 (.take 4 (.take 5 (.take 6 (.take 7 (.take 8 (.take 9 (.take 10 (.aG 11 (.take 12 (.take 13 (.take 14 (.take 15 .done)))))))))))))))) mixed (by kernel_rfl) ?_
  replace H := H.out (Out.drew _)
  refine WP.mv rfl rfl rfl (WP.mv rfl rfl rfl (WP.mv rfl rfl rfl (WP.aC rfl rfl (PV.lss rfl rfl rfl) (WP.mv rfl rfl rfl ?_))))
  refine WP.split (t := 39) rfl (fun QD => ?_) (fun QD => ?_)
  ·
   refine WP.known (t := 38) (c := true) rfl QD ?_
   try simp only [bW] at QD
   have P6 : lo < l.length := by omega
   have aDB := hx _ (List.getElem_mem P6)
   have QO := iR aDB
   refine WP.mv rfl rfl rfl (WP.mv rfl rfl rfl (WP.mv rfl rfl rfl ?_))
   refine WP.aC rfl rfl (PV.eQ rfl (by exact (H.p 0 rfl : fV s l _)) dQ eB rfl rfl (by omega) (by omega)) ?_
   refine WP.dF rfl rfl rfl sM rfl (fV.rd (by exact (H.p 0 rfl : fV s l _)) hx lo P6) (by (rw [eB]; refine congrArg some ?_; (symm; assumption))) ?_
   refine WP.dF rfl rfl rfl cU rfl (by exact aK.aF (H.l 0 rfl) (aJ.all _) (by rfl)) (cI cN (by simp only [aR]; omega)) ?_
   refine WP.aG rfl ?_
   refine WL.iK rfl rfl (hf l[lo] _ aDB) ?_
   rintro _ w7 ⟨rfl, hO⟩
   replace H := H.out hO
   refine WL.nil ⟨(fa (nw 11 10 (by decide +kernel)) (fa (nw 11 9 (by decide +kernel)) cV)), ?_⟩
   refine WP.aC rfl rfl (PV.eql rfl rfl rfl) (WP.aC rfl rfl (PV.dH rfl rfl rfl) (WP.as rfl rfl rfl (WP.as rfl rfl rfl (WP.done (WE.ret ⟨[_, _], _, .nil _, ⟨rfl, rfl, trivial⟩, ?_⟩)))))
   refine ⟨lo, _, rfl, H.aM, by omega, hlo, (by rw [heq]; exact hge), ?_⟩
   (constructor; (intro h_; exact ⟨P6, tV.1 (by simpa using h_)⟩); (rintro ⟨_, h_⟩; simpa using tV.2 h_))
  ·
   refine WP.known (t := 38) (c := false) rfl QD ?_
   try simp only [bW] at QD
   have P6 : ¬ lo < l.length := by omega
   refine WP.dP rfl rfl (WP.dP rfl rfl (WP.dP rfl rfl (WP.dP rfl rfl (WP.dP rfl rfl (WP.dP rfl rfl (WP.aG rfl (WL.off rfl ?_)))))))
   refine WL.nil ⟨cV, ?_⟩
   refine WP.dP rfl rfl (WP.aC rfl rfl (PV.c5 rfl rfl rfl) (WP.as rfl rfl rfl (WP.as rfl rfl rfl (WP.done (WE.ret ⟨[_, _], _, .nil _, ⟨rfl, rfl, trivial⟩, ?_⟩)))))
   refine ⟨lo, _, rfl, H.aM, by omega, hlo, (by rw [heq]; exact hge), ?_⟩
   (constructor; (intro h_; cases h_); (rintro ⟨h_, _⟩; exact absurd h_ P6))
def j8 (l : List Ch) (r : Nat) (x : Ch) : List Ch := l.take r ++ x :: l.drop r
theorem wT (l : List Ch) {r : Nat} (x : Ch) (hr : r ≤ l.length) : (j8 l r x).length = l.length + 1 := by simp [j8]; omega
theorem iI {l : List Ch} {r : Nat} {x c : Ch} : c ∈ j8 l r x ↔ c = x ∨ c ∈ l := by
 have e : c ∈ l ↔ c ∈ l.take r ∨ c ∈ l.drop r := by rw [← List.mem_append, List.take_append_drop]
 unfold j8
 rw [List.mem_append, List.mem_cons, e]
 constructor
 ·
  rintro (h | h | h)
  ·
   exact .inr (.inl h)
  ·
   exact .inl h
  ·
   exact .inr (.inr h)
 ·
  rintro (h | h | h)
  ·
   exact .inr (.inl h)
  ·
   exact .inl h
  ·
   exact .inr (.inr h)
theorem JA {l : List Ch} {r : Nat} {x : Ch} (hl : rN l) (h1 : ∀ i (h : i < l.length), i < r → num l[i].k < num x.k) (h2 : ∀ i (h : i < l.length), r ≤ i → num x.k < num l[i].k) : rN (j8 l r x) := by
 unfold rN j8
 rw [List.pairwise_append]
 refine ⟨hl.sublist (List.take_sublist ..), List.pairwise_cons.2 ⟨fun c hc => ?_, hl.sublist (List.drop_sublist ..)⟩, fun a ha b hb => ?_⟩
 ·
  obtain ⟨i, hi, rfl⟩ := List.getElem_of_mem hc
  rw [List.length_drop] at hi
  rw [List.getElem_drop]
  exact h2 _ (by omega) (by omega)
 ·
  obtain ⟨i, hi, rfl⟩ := List.getElem_of_mem ha
  rw [List.length_take] at hi
  rw [List.getElem_take]
  have e1 := h1 i (by omega) (by omega)
  rcases List.mem_cons.1 hb with rfl | hb
  ·
   exact e1
  ·
   obtain ⟨j, hj, rfl⟩ := List.getElem_of_mem hb
   rw [List.length_drop] at hj
   rw [List.getElem_drop]
   exact Nat.lt_trans e1 (h2 _ (by omega) (by omega))
theorem KI (q : Nat) (zl : List Value) (hz : 0 < zl.length) : jA q zl = (List.replicate q zl).flatMap id := by
 have hl : ∀ x ∈ List.replicate q zl, (id x).length = zl.length := fun x hx => by rw [(List.mem_replicate.1 hx).2]; rfl
 have hlen := cZ (C := id) (List.replicate q zl) hl
 rw [List.length_replicate] at hlen
 refine List.ext_getElem (by rw [hlen]; simp [jA]) fun j h1 h2 => ?_
 have hj : j < q * zl.length := by rw [hlen] at h2; exact h2
 have hq : j / zl.length < q := (Nat.div_lt_iff_lt_mul hz).2 hj
 have hs := sI (C := id) (List.replicate q zl) hl (j / zl.length) (by rw [List.length_replicate]; exact hq)
 rw [List.getElem_replicate] at hs
 have hm := Nat.mod_lt j hz
 have e1 : ((List.replicate q zl).flatMap id)[j]? = zl[j % zl.length]? := by
  have : (((List.replicate q zl).flatMap id).drop (j / zl.length * zl.length)).take zl.length = zl := hs
  have e2 : zl[j % zl.length]? = ((((List.replicate q zl).flatMap id).drop (j / zl.length * zl.length)).take zl.length)[j % zl.length]? := by rw [this]
  rw [e2, List.getElem?_take_of_lt hm, List.getElem?_drop]
  congr 1
  have := Nat.div_add_mod j zl.length
  rw [Nat.mul_comm] at this
  omega
 have e3 : (jA q zl)[j]? = zl[j % zl.length]? := by
  unfold jA
  rw [List.getElem?_map, List.getElem?_range (by exact hj), Option.map_some, getElem!_pos zl _ hm, List.getElem?_eq_getElem hm]
 rw [← Option.some_inj, ← List.getElem?_eq_getElem, ← List.getElem?_eq_getElem, e1, e3]
def YD : Ch := ⟨List.replicate 32 0, .slice none 0 0, [], false⟩
theorem TX (q : Nat) : jA q (dU YD) = (List.replicate q YD).flatMap dU := by
 rw [KI q _ (by decide), List.flatMap_replicate, List.flatMap_replicate]; rfl
theorem cS.YU {w : World} {g n c : Nat} {t : TypeId} {l : List Value} (h : aK w g t l) (hn : n * 34 ≤ l.length) (hc : n ≤ c) : cS w (.slice (some ⟨g, 0, none⟩) n c) 34 n (l.take (n * 34)) :=
 cS.mX (h.aF (show aJ l 0 (l.take (n * 34)) from ⟨[], l.drop (n * 34), by rw [List.nil_append, List.take_append_drop], rfl⟩) rfl) (by rw [List.length_take]; omega) hc
theorem St.aBH {X : Nat → Prop} {w : World} {base sz n : Nat} {e : TypeId} {xs : List Value} {v : Value} (hX : cW X w) (hrow : w.ownsRow base e sz v n xs) : St X w w [aO.iA base v e sz n xs] [] [] :=
 St.start hX (fun x hx => by rw [List.mem_singleton.1 hx]; exact hrow) (List.pairwise_singleton _ _) (fun _ hp => by cases hp)
theorem aGM {X : Nat → Prop} {w : World} {p : World → Prop} {base sz n : Nat} {e : TypeId} {xs : List Value} {v : Value} (h : aH (fun c => X c ∨ v.ownBlock = some c) p w) : aH (YY X [aO.iA base v e sz n xs] []) p w :=
 h.mono fun c _ hc => by
  rcases hc with hc | ⟨x, hx, hc⟩ | ⟨x, hx, _⟩
  ·
   exact .inl hc
  ·
   rw [List.mem_singleton.1 hx] at hc; exact .inr hc
  ·
   cases hx
theorem LH {a : List Ch} {b c : List Ch} {more : List Value} {oo : Nat} (ha : XL a) (hb : XL b) (hc : XL c) (hbc : b.length = c.length) (ho : oo = a.length * 34) : Laid ((a ++ b).flatMap dU ++ more) oo (c.flatMap dU) ((a ++ c).flatMap dU ++ more) := by
 refine Laid.left ?_
 rw [List.flatMap_append, List.flatMap_append]
 exact Laid.right (o := 0) (Laid.all (by rw [cZ _ hc.len, cZ _ hb.len, hbc])) (by rw [ho, cZ _ ha.len]; omega)
theorem VI {l : List Ch} {i : Nat} {x : Ch} (hi : i < l.length) : (l.take (i + 1) ++ l.drop i).set i x = j8 l i x := by
 unfold j8
 rw [List.take_succ_eq_append_getElem hi, List.append_assoc, List.set_append_right (h := by rw [List.length_take]; omega), show i - (l.take i).length = 0 by rw [List.length_take]; omega]
 rfl
theorem K2 {l : List Ch} {i : Nat} {r1 r2 : List Value} (hx : XL l) (hi : i ≤ l.length) : aJ (l.flatMap dU ++ (r1 ++ r2)) (i * 34) ((l.drop i).flatMap dU ++ r1) := by
 refine ⟨(l.take i).flatMap dU, r2, ?_, by rw [cZ _ (hx.take i).len, List.length_take]; congr 1; omega⟩
 have e : l.flatMap dU = (l.take i).flatMap dU ++ (l.drop i).flatMap dU := by rw [← List.flatMap_append, List.take_append_drop]
 rw [e]
 simp only [List.append_assoc]
theorem GB {l : List Ch} {i oo : Nat} {r1 r2 : List Value} (hx : XL l) (hi : i < l.length) (PX : r1.length = 34) (ho : oo = (i + 1) * 34 := by rfl) : Laid (l.flatMap dU ++ (r1 ++ r2)) oo (((l.drop i).flatMap dU ++ r1).take ((l.length - i) * 34)) ((l.take (i + 1) ++ l.drop i).flatMap dU ++ r2) := by
 have hd : ((l.drop i).flatMap dU).length = (l.length - i) * 34 := by rw [cZ _ (hx.drop i).len, List.length_drop]
 have ht : ((l.take (i + 1)).flatMap dU).length = (i + 1) * 34 := by rw [cZ _ (hx.take _).len, List.length_take]; congr 1; omega
 rw [List.take_left' hd]
 have e1 : l.flatMap dU ++ (r1 ++ r2) = (l.take (i + 1)).flatMap dU ++ (((l.drop (i + 1)).flatMap dU ++ r1) ++ r2) := by
  have e : l.flatMap dU = (l.take (i + 1)).flatMap dU ++ (l.drop (i + 1)).flatMap dU := by rw [← List.flatMap_append, List.take_append_drop]
  rw [e]
  simp only [List.append_assoc]
 have e2 : (l.take (i + 1) ++ l.drop i).flatMap dU ++ r2 = (l.take (i + 1)).flatMap dU ++ ((l.drop i).flatMap dU ++ r2) := by rw [List.flatMap_append, List.append_assoc]
 rw [e1, e2]
 refine Laid.right (o := 0) (Laid.left (Laid.all ?_)) (by rw [ht, ho]; omega)
 rw [hd, List.length_append, cZ _ (hx.drop _).len, List.length_drop, PX]; omega
theorem S7 {X : Nat → Prop} {w : World} {v : Value} {base vb : Nat} {l : List Ch} {x : Ch} (hX : cW X w) (bU : aH (fun c_ => X c_ ∨ v.ownBlock = some c_) (fun w => aK w vb 127 (dU x)) w) (hx : XL l) (LL : x.k.length = 32) (gC : ∀ c ∈ l, c.s.oneCell' = true) (VL : x.s.oneCell' = true) (hlen : l.length ≤ 1000000) (hrow : w.ownsRow base 127 34 v l.length (l.flatMap dU)) (hbase : base ≤ w.heap.size) :
  bD Tryz.prog 187 [v, .int .i64 ((l.length : Nat) : Int), .slice (some ⟨vb, 0, none⟩) 1 1].toArray w fun v' w' => Out (fun c => v.ownBlock = some c) w w' ∧ w'.ownsRow base 127 34 v' (l.length + 1) ((j8 l l.length x).flatMap dU) ∧ ∀ b, v'.ownBlock = some b → v.ownBlock = some b ∨ w.heap.size ≤ b := by
 refine bD.aI (N := 95) Tryz.func187 rfl rfl (by simp) ?_
 have H := St.aBH hX hrow
 replace H := H.add (aGM bU)
 have DS : (dU x).length = 1 * 34 := iR LL
 refine WE.aA (WL.as rfl rfl (WL.nil (WE.aA (WL.mv rfl rfl (WL.mv rfl rfl (WL.pv (PV.qC rfl (cS.eH (H.o 0 rfl)) dQ eB rfl rfl (by omega) (by omega)) rfl (WL.nil ?_)))))))
 refine WE.aA (WL.mv rfl rfl ?_)
 refine WL.pv (PV.dO (by exact cS.cA (n := 1) (H.p 0 rfl) DS) dQ rfl) rfl ?_
 refine WL.as rfl rfl (WL.nil (WE.seq (WE.aA (WL.mv rfl rfl (WL.pv (PV.eql rfl rfl rfl) rfl (WL.nil ?_))))))
 refine WE.bB rfl rfl ?_
 refine WE.skip (WE.aA (WL.mv rfl rfl (WL.pv (PV.dO (cS.eH (H.o 0 rfl)) dQ rfl) rfl (WL.as rfl rfl (WL.nil (WE.seq (WE.aA ?_)))))))
 refine WL.mv rfl rfl (WL.mv rfl rfl (WL.pv (PV.eql rfl rfl rfl) rfl (WL.nil ?_)))
 refine WE.cO rfl (by simp) ?_
 refine WE.aA (WL.mv rfl rfl (WL.mv rfl rfl ?_))
 refine WL.XD (m := 1) H 0 hbase uF (by decide) rfl rfl rfl (by exact cS.cA (n := 1) (H.p 0 rfl) DS) (k5 VL) (by omega) (by decide) rfl ?_ ?_
 ·
  intro v25 w1 hgr H
  refine WL.as rfl rfl (WL.nil (WE.ret ⟨[_], _, .nil _, ⟨rfl, trivial⟩, ?_⟩))
  have hin : (j8 l l.length x).flatMap dU = l.flatMap dU ++ dU x := by unfold j8; rw [List.take_length, List.drop_length, List.flatMap_append, List.flatMap_singleton]
  rw [hin]
  exact ⟨H.l5.mono fun c _ ⟨e, he, hc⟩ => (by rw [List.mem_singleton.1 he] at hc; exact hgr c hc), H.o 0 rfl, fun b hb => .inl (hgr b hb)⟩
 ·
  intro v25 w2 hgr H
  refine WL.as rfl rfl (WL.nil (WE.ret ⟨[_], _, .nil _, ⟨rfl, trivial⟩, ?_⟩))
  have hin : (j8 l l.length x).flatMap dU = l.flatMap dU ++ dU x := by unfold j8; rw [List.take_length, List.drop_length, List.flatMap_append, List.flatMap_singleton]
  rw [hin]
  exact ⟨H.l5.mono fun c _ ⟨e, he, hc⟩ => (by rw [List.mem_singleton.1 he] at hc; exact hc), H.l 0 rfl, fun b hb => .inr (hgr b hb)⟩
theorem MX {X : Nat → Prop} {w : World} {g cap i vb : Nat} {l : List Ch} {x : Ch} {rest : List Value} (hX : cW X w) (eR : aK w g 127 (l.flatMap dU ++ rest)) (bU : aH (fun c_ => X c_ ∨ c_ = g) (fun w => aK w vb 127 (dU x)) w) (hx : XL l) (LL : x.k.length = 32) (gC : ∀ c ∈ l, c.s.oneCell' = true) (VL : x.s.oneCell' = true) (hlen : l.length ≤ 1000000) (jC : l.length ≤ cap) (hi : i < l.length) (aIN : cap < l.length + 1) :
  bD Tryz.prog 187 [.slice (some ⟨g, 0, none⟩) l.length cap, .int .i64 (i : Int), .slice (some ⟨vb, 0, none⟩) 1 1].toArray w fun v' w' => ∃ (b c : Nat) (more : List Value), v' = .slice (some ⟨b, 0, none⟩) (l.length + 1) c ∧ Out Nil w w' ∧ w.heap.size ≤ b ∧ aK w' b 127 ((j8 l i x).flatMap dU ++ more) ∧ l.length + 1 ≤ c ∧ c ≤ maxLen ∧ more.length = (c - (l.length + 1)) * 34 := by
 refine bD.aI (N := 95) Tryz.func187 rfl rfl (by simp) ?_
 have H := St.c6 (b := g) (t := 127) (l := l.flatMap dU ++ rest) hX eR
 replace H := H.add (bY bU)
 have DS : (dU x).length = 1 * 34 := iR LL
 refine WE.aA (WL.as rfl rfl (WL.nil (WE.aA (WL.mv rfl rfl (WL.mv rfl rfl ?_)))))
 refine WL.pv (PV.qC rfl (fV.G7 (cap := cap) (H.o 0 rfl) hx rfl jC) dQ eB rfl rfl (by omega) (by omega)) rfl ?_
 refine WL.nil (WE.aA (WL.mv rfl rfl ?_))
 refine WL.pv (PV.dO (by exact cS.cA (n := 1) (H.p 0 rfl) DS) dQ rfl) rfl ?_
 refine WL.as rfl rfl (WL.nil (WE.seq (WE.aA (WL.mv rfl rfl (WL.pv (PV.eql rfl rfl rfl) rfl (WL.nil ?_))))))
 refine WE.bB rfl rfl ?_
 refine WE.skip (WE.aA (WL.mv rfl rfl (WL.pv (PV.dO (fV.G7 (cap := cap) (H.o 0 rfl) hx rfl jC) dQ rfl) rfl (WL.as rfl rfl (WL.nil (WE.seq (WE.aA ?_)))))))
 refine WL.mv rfl rfl (WL.mv rfl rfl (WL.pv (PV.eql rfl rfl rfl) rfl (WL.nil ?_)))
 refine WE.bB rfl (by simp; omega) ?_
 refine WE.skip (WE.seq (WE.aA (WL.mv rfl rfl (WL.mv rfl rfl ?_))))
 refine WL.pv (PV.eq (v' := .int .i64 ((l.length + 1 : Nat) : Int)) (PV.bZ rfl rfl rfl (by omega) (by omega)) (by rfl)) rfl ?_
 refine WL.mv rfl rfl (WL.pv (PV.J1 dQ rfl) rfl (WL.pv (PV.gtr rfl rfl rfl) rfl (WL.nil ?_)))
 refine WE.cO rfl (by simp; omega) ?_
 refine WE.aA (WL.mv rfl rfl (WL.mv rfl rfl ?_))
 refine WL.pv (PV.eq (v' := .slice (some ⟨g, 0, none⟩) i cap) (PV.UB rfl (fV.G7 (cap := cap) (H.o 0 rfl) hx rfl jC) dQ eB rfl rfl (by omega) (by omega)) (by have h_ := hU (g := g) (n := l.length) (cap := cap) (lo := 0) (hi := i) (by omega); rw [Nat.zero_mul] at h_; exact h_)) rfl ?_
 refine WL.mv rfl rfl (WL.mv rfl rfl ?_)
 refine WL.pv (PV.eq (v' := .int .i64 ((l.length + 1 : Nat) : Int)) (PV.bZ rfl rfl rfl (by omega) (by omega)) (by rfl)) rfl ?_
 refine WL.mv rfl rfl ?_
 refine WL.pv (PV.eq (v' := .int .i64 ((l.length + 1 - i : Nat) : Int)) (PV.iT rfl rfl rfl (by omega) (by omega)) (by (congr 1; omega))) rfl ?_
 have hl0 : ((l.take i).flatMap dU).length = i * 34 := by rw [cZ _ (hx.take i).len, List.length_take]; congr 1; omega
 refine WL.aEo (zl := dU YD) (olds := (l.take i).flatMap dU) H uF (by decide) Tryz.underlying3 rfl rfl (aK.aF (H.o 0 rfl) (show aJ (l.flatMap dU ++ rest) 0 _ from ⟨[], (l.drop i).flatMap dU ++ rest, by rw [List.nil_append, ← List.append_assoc, ← List.flatMap_append, List.take_append_drop], rfl⟩) rfl) hl0 (by omega) (by omega) (by omega) (by omega) rfl ?_
 intro b40 c40 w3 more hc1 hc2 yQ H
 rw [show i + (l.length + 1 - i) = l.length + 1 by omega] at hc1 yQ ⊢
 have aDI : w.heap.size ≤ b40 := H.jR _ (List.mem_of_getElem? (i := 0) rfl) b40 rfl
 obtain ⟨rs, hrs⟩ : ∃ rs, rs = l.take i ++ List.replicate (l.length + 1 - i) YD := ⟨_, rfl⟩
 have hrl : rs.length = l.length + 1 := by rw [hrs]; simp; omega
 have hxr : XL rs := by rw [hrs]; intro c hc; rcases List.mem_append.1 hc with h_ | h_; exact hx.take i c h_; rw [(List.mem_replicate.1 h_).2]; rfl
 replace H := H.conv (L' := [aO.blk b40 127 (rs.flatMap dU ++ more)]) (by rw [TX, hrs, List.flatMap_append])
 have hSN := fV.G7 (cap := c40) (H.l 0 rfl) hxr hrl hc1
 refine WL.as rfl rfl (WL.nil (WE.aA (WL.mv rfl rfl (WL.mv rfl rfl ?_))))
 refine WL.pv (PV.eq (v' := .slice (some ⟨b40, (i) * 34, none⟩) (l.length + 1 - i) (c40 - i)) (PV.qC rfl hSN dQ eB rfl rfl (by omega) (by omega)) (hU (by omega))) rfl ?_
 refine WL.mv rfl rfl ?_
 have aG9 : rs.set i x = (l.take i ++ [x]) ++ List.replicate (l.length - i) YD := by rw [hrs, List.set_append_right (h := by rw [List.length_take]; omega), show l.length + 1 - i = (l.length - i) + 1 by omega, List.replicate_succ, show i - (l.take i).length = 0 by rw [List.length_take]; omega, List.set_cons_zero, List.append_assoc]; rfl
 refine WL.JV (sz := 34) (l' := (rs.set i x).flatMap dU ++ more) H 0 dQ eB rfl rfl rfl (by exact cS.cA (n := 1) (H.p 0 rfl) DS) (pF (k5 VL) _) (by rw [show min 1 (l.length + 1 - i) = 1 by omega, List.take_of_length_le (l := dU x) (by omega)]; exact pL (C := dU) rs hxr.len more (i := i) (by omega) (iR LL) rfl) rfl ?_
 intro FI H
 replace H := H.conv (L' := [aO.blk b40 127 (((l.take i ++ [x]) ++ List.replicate (l.length - i) YD).flatMap dU ++ more)]) (by rw [← aG9]; rfl)
 have aDj : XL (l.take i ++ [x]) := by intro c hc; rcases List.mem_append.1 hc with h_ | h_; exact hx.take i c h_; rw [List.mem_singleton.1 h_]; exact LL
 have hxz : XL (List.replicate (l.length - i) YD) := by intro c hc; rw [(List.mem_replicate.1 hc).2]; rfl
 have aG2 : XL ((l.take i ++ [x]) ++ List.replicate (l.length - i) YD) := by intro c hc; rcases List.mem_append.1 hc with h_ | h_; exact aDj c h_; exact hxz c h_
 clear hSN
 have hSN := fV.G7 (cap := c40) (H.l 0 rfl) aG2 (by simp; omega) hc1
 refine WL.nil ?_
 refine WE.bF (.take 0 (.take 1 (.take 2 (.take 3 (.take 4 (.take 5 (.take 6 (.take 7 (.aG 8 .done))))))))) mixed (by kernel_rfl) ?_
 replace H := H.out (Out.drew _)
 refine WP.mv rfl rfl rfl (WP.mv rfl rfl rfl (WP.mv rfl rfl rfl ?_))
 refine WP.aC rfl rfl (PV.eq (v' := .int .i64 ((i + 1 : Nat) : Int)) (PV.bZ rfl rfl rfl (by omega) (by omega)) (by rfl)) ?_
 refine WP.aC rfl rfl (PV.eq (v' := .slice (some ⟨b40, (i + 1) * 34, none⟩) (l.length + 1 - (i + 1)) (c40 - (i + 1))) (PV.qC rfl hSN dQ eB rfl rfl (by omega) (by omega)) (by rcases Nat.lt_or_ge (i + 1) c40 with h_ | h_; exact hU h_; omega)) ?_
 refine WP.mv rfl rfl rfl (WP.mv rfl rfl rfl ?_)
 refine WP.aC rfl rfl (PV.eq (v' := .slice (some ⟨g, (i) * 34, none⟩) (l.length - i) (cap - i)) (PV.qC rfl (fV.G7 (cap := cap) (H.o 0 rfl) hx rfl jC) dQ eB rfl rfl (by omega) (by omega)) (hU (by omega))) ?_
 refine WP.aG rfl ?_
 have hSD : cS _ (.slice (some ⟨g, (i) * 34, none⟩) (l.length - i) (cap - i)) 34 (l.length - i) ((l.drop i).flatMap dU) := cS.mX (aK.aF (H.o 0 rfl) (JK l hx.len rest i (by omega)) rfl) (by rw [cZ _ (hx.drop i).len, List.length_drop]) (by omega)
 refine WL.JV (sz := 34) (l' := ((l.take i ++ [x]) ++ l.drop i).flatMap dU ++ more) H 0 dQ eB rfl rfl rfl hSD (pF (BA fun c hc => gC c (List.mem_of_mem_drop hc)) _) (by rw [show min (l.length - i) (l.length + 1 - (i + 1)) = l.length - i by omega, List.take_of_length_le (l := (l.drop i).flatMap dU) (by rw [cZ _ (hx.drop i).len, List.length_drop]; exact Nat.le_refl _)]; exact LH aDj hxz (hx.drop i) (by simp) (by rw [List.length_append, List.length_take, List.length_singleton]; omega)) rfl ?_
 intro w22 H
 refine WL.nil ⟨cV, ?_⟩
 refine WP.done (WE.aA (WL.mv rfl rfl (WL.as rfl rfl (WL.nil (WE.ret ⟨[_], _, .nil _, ⟨rfl, trivial⟩, ?_⟩)))))
 refine ⟨b40, c40, more, rfl, ?_, aDI, ?_, hc1, hc2, yQ⟩
 ·
  exact ⟨H.os, H.tape, H.output, H.size, fun b hb _ => by by_cases hbg : b = g; (subst hbg; exact (H.o 0 rfl).trans eR.symm); exact H.old b hb (by intro e he hc; rw [List.mem_singleton.1 he] at hc; exact hbg hc)⟩
 ·
  have h_ := H.l 0 rfl; have e_ : j8 l i x = (l.take i ++ [x]) ++ l.drop i := by unfold j8; rw [List.append_assoc]; rfl
  rw [e_]; exact h_
theorem HU {X : Nat → Prop} {w : World} {g cap i vb : Nat} {l : List Ch} {x : Ch} {r1 r2 : List Value} (hX : cW X w) (eR : aK w g 127 (l.flatMap dU ++ (r1 ++ r2))) (bU : aH (fun c_ => X c_ ∨ c_ = g) (fun w => aK w vb 127 (dU x)) w) (hx : XL l) (LL : x.k.length = 32) (gC : ∀ c ∈ l, c.s.oneCell' = true) (VL : x.s.oneCell' = true) (hlen : l.length ≤ 1000000) (jC : l.length + 1 ≤ cap) (hi : i < l.length) (PX : r1.length = 34) (hne : vb ≠ g) :
  bD Tryz.prog 187 [.slice (some ⟨g, 0, none⟩) l.length cap, .int .i64 (i : Int), .slice (some ⟨vb, 0, none⟩) 1 1].toArray w fun v' w' => v' = .slice (some ⟨g, 0, none⟩) (l.length + 1) cap ∧ Out (· = g) w w' ∧ aK w' g 127 ((j8 l i x).flatMap dU ++ r2) := by
 refine bD.aI (N := 95) Tryz.func187 rfl rfl (by simp) ?_
 have H := St.c6 (b := g) (t := 127) (l := l.flatMap dU ++ (r1 ++ r2)) hX eR
 replace H := H.add (bY bU)
 have DS : (dU x).length = 1 * 34 := iR LL
 have M8 := cZ (C := dU) l hx.len
 have hx2 : XL (l.take (i + 1) ++ l.drop i) := by intro c hc; rcases List.mem_append.1 hc with h_ | h_; exact hx.take _ c h_; exact hx.drop _ c h_
 refine WE.aA (WL.as rfl rfl (WL.nil (WE.aA (WL.mv rfl rfl (WL.mv rfl rfl ?_)))))
 refine WL.pv (PV.qC rfl (fV.G7 (cap := cap) (H.o 0 rfl) hx rfl (by omega)) dQ eB rfl rfl (by omega) (by omega)) rfl ?_
 refine WL.nil (WE.aA (WL.mv rfl rfl ?_))
 refine WL.pv (PV.dO (by exact cS.cA (n := 1) (H.p 0 rfl) DS) dQ rfl) rfl ?_
 refine WL.as rfl rfl (WL.nil (WE.seq (WE.aA (WL.mv rfl rfl (WL.pv (PV.eql rfl rfl rfl) rfl (WL.nil ?_))))))
 refine WE.bB rfl rfl ?_
 refine WE.skip (WE.aA (WL.mv rfl rfl (WL.pv (PV.dO (fV.G7 (cap := cap) (H.o 0 rfl) hx rfl (by omega)) dQ rfl) rfl (WL.as rfl rfl (WL.nil (WE.seq (WE.aA ?_)))))))
 refine WL.mv rfl rfl (WL.mv rfl rfl (WL.pv (PV.eql rfl rfl rfl) rfl (WL.nil ?_)))
 refine WE.bB rfl (by simp; omega) ?_
 refine WE.skip (WE.seq (WE.aA (WL.mv rfl rfl (WL.mv rfl rfl ?_))))
 refine WL.pv (PV.eq (v' := .int .i64 ((l.length + 1 : Nat) : Int)) (PV.bZ rfl rfl rfl (by omega) (by omega)) (by rfl)) rfl ?_
 refine WL.mv rfl rfl (WL.pv (PV.J1 dQ rfl) rfl (WL.pv (PV.gtr rfl rfl rfl) rfl (WL.nil ?_)))
 refine WE.bB rfl (by simp; omega) ?_
 refine WE.skip (WE.aA (WL.mv rfl rfl (WL.mv rfl rfl (WL.mv rfl rfl ?_))))
 refine WL.pv (PV.eq (v' := .int .i64 ((l.length + 1 : Nat) : Int)) (PV.bZ rfl rfl rfl (by omega) (by omega)) (by rfl)) rfl ?_
 have hSW := cS.YU (n := l.length + 1) (c := cap) (H.o 0 rfl) (by rw [List.length_append, List.length_append, M8, PX]; omega) jC
 refine WL.pv (PV.aCE (j := l.length + 1) rfl dQ eB rfl rfl jC) rfl (WL.as rfl rfl (WL.nil (WE.seq (WE.aA (WL.mv rfl rfl (WL.mv rfl rfl (WL.mv rfl rfl ?_)))))))
 refine WL.mv rfl rfl ?_
 refine WL.pv (PV.eq (v' := .int .i64 ((i + 1 : Nat) : Int)) (PV.bZ rfl rfl rfl (by omega) (by omega)) (by rfl)) rfl ?_
 refine WL.pv (PV.eq (v' := .slice (some ⟨g, (i + 1) * 34, none⟩) (l.length + 1 - (i + 1)) (cap - (i + 1))) (PV.qC rfl hSW dQ eB rfl rfl (by omega) (by omega)) (hU (by omega))) rfl ?_
 refine WL.extern (e := Extern.SlicesOverlaps.overlaps #[119, 119] #[4]) (v := .bool false) Tryz.func202 (by kernel_rfl) (by kernel_rfl) (by kernel_rfl) (by kernel_rfl) rfl (yK dQ eB (by exact H.p 0 rfl) (H.o 0 rfl) hne (by intro h_; have NB := congrArg List.length h_; rw [List.length_append, List.length_append, PX] at NB; simp at NB)) ?_
 refine WL.pv (PV.not rfl rfl) rfl (WL.nil ?_)
 refine WE.cO rfl rfl ?_
 refine WE.bF (.take 0 (.take 1 (.take 2 (.take 3 (.take 4 (.take 5 (.take 6 (.take 7 (.aG 8 .done))))))))) mixed (by kernel_rfl) ?_
 replace H := H.out (Out.drew _)
 refine WP.mv rfl rfl rfl (WP.mv rfl rfl rfl (WP.mv rfl rfl rfl ?_))
 refine WP.aC rfl rfl (PV.eq (v' := .int .i64 ((i + 1 : Nat) : Int)) (PV.bZ rfl rfl rfl (by omega) (by omega)) (by rfl)) ?_
 refine WP.aC rfl rfl (PV.eq (v' := .slice (some ⟨g, (i + 1) * 34, none⟩) (l.length + 1 - (i + 1)) (cap - (i + 1))) (PV.qC rfl hSW dQ eB rfl rfl (by omega) (by omega)) (hU (by omega))) ?_
 refine WP.mv rfl rfl rfl (WP.mv rfl rfl rfl ?_)
 refine WP.aC rfl rfl (PV.eq (v' := .slice (some ⟨g, (i) * 34, none⟩) (l.length + 1 - i) (cap - i)) (PV.qC rfl hSW dQ eB rfl rfl (by omega) (by omega)) (hU (by omega))) ?_
 refine WP.aG rfl ?_
 have hSD : cS _ (.slice (some ⟨g, (i) * 34, none⟩) (l.length + 1 - i) (cap - i)) 34 (l.length + 1 - i) ((l.drop i).flatMap dU ++ r1) := cS.mX (aK.aF (H.o 0 rfl) (K2 hx (by omega)) rfl) (by rw [List.length_append, cZ _ (hx.drop i).len, List.length_drop, PX]; omega) (by omega)
 refine WL.Z5 (sz := 34) (l' := (l.take (i + 1) ++ l.drop i).flatMap dU ++ r2) H 0 dQ eB rfl rfl rfl hSD (by rw [show min (l.length + 1 - i) (l.length + 1 - (i + 1)) = l.length - i by omega, List.take_left' (by rw [cZ _ (hx.drop i).len, List.length_drop])]; exact BA fun c hc => gC c (List.mem_of_mem_drop hc)) (by rw [show min (l.length + 1 - i) (l.length + 1 - (i + 1)) = l.length - i by omega]; exact GB hx hi PX) rfl ?_
 intro w4 H
 clear hSW
 have hSW := cS.YU (n := l.length + 1) (c := cap) (H.o 0 rfl) (by rw [List.length_append, cZ _ hx2.len]; simp; omega) jC
 refine WL.nil ⟨cV, ?_⟩
 refine WP.done (WE.aA (WL.mv rfl rfl (WL.mv rfl rfl ?_)))
 refine WL.pv (PV.eq (v' := .slice (some ⟨g, (i) * 34, none⟩) (l.length + 1 - i) (cap - i)) (PV.qC rfl hSW dQ eB rfl rfl (by omega) (by omega)) (hU (by omega))) rfl ?_
 refine WL.mv rfl rfl ?_
 refine WL.Z5 (sz := 34) (l' := ((l.take (i + 1) ++ l.drop i).set i x).flatMap dU ++ r2) H 0 dQ eB rfl rfl rfl (by exact cS.cA (n := 1) (H.p 0 rfl) DS) (pF (k5 VL) _) (by rw [show min 1 (l.length + 1 - i) = 1 by omega, List.take_of_length_le (l := dU x) (by omega)]; exact pL (C := dU) _ hx2.len r2 (i := i) (by simp; omega) (iR LL) rfl) rfl ?_
 intro w8 H
 refine WL.nil (WE.aA (WL.mv rfl rfl (WL.as rfl rfl (WL.nil (WE.ret ⟨[_], _, .nil _, ⟨rfl, trivial⟩, ?_⟩)))))
 refine ⟨rfl, H.l5.mono fun b _ ⟨_, he, hb⟩ => (by cases List.mem_singleton.1 he; exact hb), ?_⟩
 have h_ := H.o 0 rfl
 have e_ : (l.take (i + 1) ++ l.drop i).set i x = j8 l i x := VI hi
 rw [← e_]; exact h_
theorem FA {w : World} {base vb i : Nat} {v : Value} {l : List Ch} {x : Ch} (hf : aH (fun c => v.ownBlock = some c) (fun w => aK w vb 127 (dU x)) w) (hx : XL l) (LL : x.k.length = 32) (gC : ∀ c ∈ l, c.s.oneCell' = true) (VL : x.s.oneCell' = true) (hlen : l.length ≤ 1000000)
  (hrow : w.ownsRow base 127 34 v l.length (l.flatMap dU)) (hbase : base ≤ w.heap.size) (hne : ¬ v.ownBlock = some vb) (hi : i ≤ l.length) :
  bD Tryz.prog 187 [v, .int .i64 (i : Int), .slice (some ⟨vb, 0, none⟩) 1 1].toArray w fun v' w' => Out (fun c => v.ownBlock = some c) w w' ∧ w'.ownsRow base 127 34 v' (j8 l i x).length ((j8 l i x).flatMap dU) ∧ ∀ b, v'.ownBlock = some b → v.ownBlock = some b ∨ w.heap.size ≤ b := by
 have hil := wT l x hi
 have hix : XL (j8 l i x) := fun c hc => by
  rcases iI.1 hc with rfl | h
  ·
   exact LL
  ·
   exact hx c h
 by_cases he : i = l.length
 ·
  subst he
  rw [hil]
  exact S7 (X := Nil) (fun _ h => h.elim) (hf.mono fun b _ h => h.elim (fun h => h.elim) id) hx LL gC VL hlen hrow hbase
 ·
  have hlt : i < l.length := by omega
  obtain ⟨h1, ⟨rfl, h2⟩ | ⟨g, cap, cur, rfl, hg, BO, jC, P5, hsz, DT⟩⟩ := hrow
  ·
   omega
  ·
   obtain ⟨rest, Y0⟩ : ∃ rest, rest = cur.toList.drop (l.length * 34) := ⟨_, rfl⟩
   have hB : aK w g 127 (l.flatMap dU ++ rest) := by
    unfold aK
    rw [Y0, ← DT, List.take_append_drop]
    exact BO
   have hrl : rest.length = cap * 34 - l.length * 34 := by rw [Y0, List.length_drop, Array.length_toList, hsz]
   have hgl : g < w.heap.size := hB.lt
   rcases Nat.lt_or_ge cap (l.length + 1) with hc | hc
   ·
    refine (MX (X := Nil) (i := i) (vb := vb) (x := x) (fun _ h => h.elim) hB (hf.mono fun b _ h => by rcases h with h | h; exact h.elim; rw [h]; rfl) hx LL gC VL hlen jC hlt hc).mono ?_
    rintro v' w' ⟨b, c, more, rfl, hO, hge, hB', hc1, hc2, yQ⟩
    rw [hil]
    refine ⟨hO.mono fun _ _ h => h.elim, ⟨by rw [cZ _ hix.len, hil], .inr ⟨b, c, ((j8 l i x).flatMap dU ++ more).toArray, rfl, Nat.le_trans hbase hge, hB', by omega, hc2, ?_, ?_⟩⟩, fun b' hb' => .inr (by have h_ : b = b' := Option.some.inj hb'; omega)⟩
    ·
     simp only [List.size_toArray, List.length_append]
     rw [cZ _ hix.len, yQ, hil]
     omega
    ·
     rw [List.toList_toArray, List.take_left' (by rw [cZ _ hix.len, hil])]
   ·
    have aJe : 34 ≤ rest.length := by rw [hrl]; omega
    have hr : rest = rest.take 34 ++ rest.drop 34 := (List.take_append_drop 34 rest).symm
    rw [hr] at hB
    refine (HU (X := Nil) (i := i) (vb := vb) (x := x) (fun _ h => h.elim) hB (hf.mono fun b _ h => by rcases h with h | h; exact h.elim; rw [h]; rfl) hx LL gC VL hlen hc hlt (by rw [List.length_take]; omega) (fun h => hne (by rw [h]; rfl))).mono ?_
    rintro v' w' ⟨rfl, hO, hB'⟩
    rw [hil]
    refine ⟨hO.mono fun b _ h => by rw [h]; rfl, ⟨by rw [cZ _ hix.len, hil], .inr ⟨g, cap, ((j8 l i x).flatMap dU ++ rest.drop 34).toArray, rfl, hg, hB', by omega, P5, ?_, ?_⟩⟩, fun b' hb' => .inl hb'⟩
    ·
     simp only [List.size_toArray, List.length_append]
     rw [cZ _ hix.len, hil, List.length_drop, hrl]
     omega
    ·
     rw [List.toList_toArray, List.take_left' (by rw [cZ _ hix.len, hil])]
theorem DK {k : List UInt8} (hk : k.length = 32) (c : Ch) (W : World) (h : c.k.length = 32) : eU Tryz.prog (vH 186) [.agg (dU c).toArray, .agg (kc k).toArray] W fun v W' => v = .int .i64 (gP c.k k) ∧ Out Nil W W' :=
 eU.iV (fs := []) (cs := []) aE1 (PG (X := Nil) (fun _ h => h.elim) h hk)
theorem BB {a b : List UInt8} (ha : a.length = 32) (hb : b.length = 32) : num a = num b ↔ a = b := ⟨sA _ _ (by rw [ha, hb]), fun h => by rw [h]⟩
theorem OJ {m m' : List En} {k : List UInt8} (h : m.map kv = m'.map kv) : (eY m k).map kv = (eY m' k).map kv := by
 have e : ∀ l : List En, (eY l k).map kv = (l.map kv).filter fun x => decide (x.1 ≠ k) := fun l => by rw [List.filter_map]; rfl
 rw [e, e, h]
theorem I9 (e : En) : ∀ l l' : List En, l.map kv = l'.map kv → (ins e l).map kv = (ins e l').map kv
 | [], [], _ => rfl
 | [], _ :: _, h => by simp at h
 | _ :: _, [], h => by simp at h
 | x :: l, y :: l', h => by
  rw [List.map_cons, List.map_cons] at h
  injection h with h1 h2
  have hk : x.k = y.k := congrArg Prod.fst h1
  have ih := I9 e l l' h2
  unfold ins
  rw [hk]
  split
  ·
   rw [List.map_cons, List.map_cons, List.map_cons, List.map_cons, h1, h2]
  ·
   rw [List.map_cons, List.map_cons, h1, ih]
theorem OP {m m' : List En} {e : En} (h : m.map kv = m'.map kv) : (gL m e).map kv = (gL m' e).map kv := I9 e _ _ (OJ h)
theorem G8 : ∀ (l : List Ch) (m m' : List En), m.map kv = m'.map kv → (k8 m l).map kv = (k8 m' l).map kv
 | [], _, _, h => h
 | c :: l, m, m', h => G8 l (xX m c) (xX m' c) (by
  unfold xX
  split
  ·
   exact OJ h
  ·
   exact OP h)
theorem St.YM {X : Nat → Prop} {w0 w : World} {O L : List aO} {Ps : List (World → Prop)} (H : St X w0 w O L Ps) (i j : Nat) {e1 e2 : aO} (hi : L[i]? = some e1) (hj : L[j]? = some e2) (hij : i ≠ j) : aH e1.fp e2.ok w := fun w' hw =>
 e2.loc w w' (fun b hb => hw b (H.TN e2 (List.mem_of_getElem? hj) b hb) fun h => eP H.gY hij hi hj b ⟨h, hb⟩) (H.l j hj)
theorem U4 {X : Nat → Prop} {w : World} {bits : Int} {s s0 : Value} {l : List Ch} {a : Nat} {q u : List UInt8} (hX : cW X w) (bU : aH X (cQ bits (.leaf a q u s0 : Tr)) w) (dA : aH X (fV s l) w) (fO : aH X (gJ l) w) (hx : XL l) (hl : rN l) (hsh : oL l) (hlen : l.length ≤ 999999) :
  bD Tryz.prog 147 [(.leaf a q u s0 : Tr).ptr, s].toArray w fun v w' => ∃ l' : List Ch, Out Nil w w' ∧ aH X (fV v l') w' ∧ aH X (gJ l') w' ∧ (XL l' ∧ rN l' ∧ oL l') ∧ l'.length ≤ l.length + 1 ∧ (∀ c ∈ l', c ∈ l ∨ c.k = q) ∧ ∀ (d : Nat) (e : En), e.k = q → e.v = u → grow d (k8 [] l') = grow d (k8 [e] l) := by
 refine bD.aI (N := 29) Tryz.func147 rfl rfl (by simp) ?_
 have H := St.begin hX
 replace H := H.add (cF fO)
 replace H := H.add (cF dA)
 replace H := H.add (cF bU)
 have hq : q.length = 32 := cQ.gG (bU.here)
 have hul : u.length ≤ 1000000 := cQ.NS (bU.here)
 have gC := fV.one (s := s) (fO.here)
 refine WE.aA (WL.as rfl rfl (WL.nil (WE.aA (WL.mv rfl rfl ?_))))
 refine WL.call aEA rfl (KF (T := (.leaf a q u s0 : Tr)) (bits := bits) H.aS (by exact H.bN 0 rfl) ) ?_
 rintro _ w1 ⟨N2, rfl, hO, gT⟩
 have JD := cS.fG (bI.eH gT)
 have hr_ := (pT H.aS gT).imp fun _ h => bI.eH h
 replace H := (H.out hO).add hr_
 refine WL.alloc H rfl kL rfl ?_
 intro b5 w2 H
 refine WL.aT H 0 rfl rfl rfl (new := kc q ++ [N2]) rfl (cI fL (by simp only [aR]; omega)) (bO (bK _) (bC _ (by simp [JD]))) (Laid.at (Laid.all (by simp only [aR]; omega)) (by rfl)) rfl ?_
 intro w3 H
 refine WL.nil (WE.aA (WL.mv rfl rfl (WL.pv (PV.fieldAddr rfl gW rfl) rfl ?_)))
 refine WL.bG rfl cU rfl rfl (by exact aK.aF (H.l 0 rfl) (aJ.l (aJ.all _)) (by rfl)) (cI cN (by simp only [aR]; omega)) ?_
 refine WL.call aE2 rfl (aGy (s := s) (l := l) (k := q) (f := vH 186) H.aS (by exact (H.bN 2 rfl : aH _ (fV s l) _)) hx hl (by omega) hq (DK hq)) ?_
 rintro _ w4 ⟨r, b, rfl, hO, hr, hlo, hge, hb⟩
 replace H := H.out hO
 refine WL.mv rfl rfl (WL.pv (PV.extract rfl rfl rfl) rfl (WL.pv (PV.extract rfl rfl rfl) rfl (WL.as rfl rfl (WL.as rfl rfl (WL.nil (WE.seq (WE.aA ?_)))))))
 refine WL.mv rfl rfl (WL.nil ?_)
 refine WE.cond rfl (fun iC => ?_) (fun iC => ?_)
 ·
  try simp only [bW] at iC
  have hbt : b = true := by exact iC
  obtain ⟨hrl, hrn⟩ := hb.1 hbt
  have hrk : l[r].k = q := (BB (hx _ (List.getElem_mem hrl)) hq).1 hrn
  refine WE.aA (WL.mv rfl rfl (WL.as rfl rfl (WL.nil (WE.ret ⟨[_], _, .nil _, ⟨rfl, trivial⟩, ?_⟩))))
  refine ⟨l, H.aM, H.gU (by exact (H.bN 2 rfl : aH _ (fV s l) _)), H.gU (by exact (H.bN 3 rfl : aH _ (gJ l) _)), ⟨hx, hl, hsh⟩, Nat.le_succ _, (fun c hc => .inl hc), fun d e he _ => ?_⟩
  rw [ML hx hl (by rw [he]; exact hq) ⟨l[r], List.getElem_mem hrl, by rw [he]; exact hrk⟩]
 ·
  try simp only [bW] at iC
  have hbf : b = false := by exact iC
  have LN : ∀ c ∈ l, c.k ≠ q := fun c hc hh => by obtain ⟨i, hi, rfl⟩ := List.getElem_of_mem hc; rcases Nat.lt_or_ge i r with h_ | h_; have NB := hlo i hi h_; rw [hh] at NB; omega; rcases Nat.lt_or_ge r i with V0 | V0; have h4_ := List.pairwise_iff_getElem.1 hl r i (by omega) hi V0; have h5_ := hge r (by omega) (Nat.le_refl _); rw [hh] at h4_; omega; (have h6_ : i = r := by omega); subst h6_; have h7_ := hb.2 ⟨hi, by rw [hh]⟩; rw [hbf] at h7_; cases h7_
  refine WE.skip ?_
  refine WE.bF (.take 0 (.take 2 (.take 3 (.take 4 (.take 5 (.take 6 (.take 7 (.gN 1 (.aG 8 (.aG 9 (.take 10 .done))) 8 (.aG 1 (.aG 9 (.take 10 .done))))))))))) mixed (by kernel_rfl) ?_
  replace H := H.out (Out.drew _)
  refine WP.mv rfl rfl rfl (WP.mv rfl rfl rfl (WP.aC rfl rfl (PV.fieldAddr rfl gW rfl) ?_))
  refine WP.dF rfl rfl rfl cU rfl (by exact aK.aF (H.l 0 rfl) (aJ.l (aJ.all _)) (by rfl)) (cI cN (by simp only [aR]; omega)) ?_
  refine WP.aC rfl rfl (PV.fieldAddr rfl p4 rfl) ?_
  refine WP.aQ rfl rfl (RV.aY rfl eL rfl) (by exact aK.aF (H.l 0 rfl) (aJ.r (aJ.all _) (by with_reducible rfl)) (by (simp [aN, bA, *]; done))) ?_
  refine WP.aC rfl rfl (PV.dD rfl YT y5 (Fl.cons rfl (by rfl) (by simp only [aR]; omega) (Laid.left (Laid.all (by simp only [aR]; omega))) (Fl.cons rfl (cells_one JD) (by simp only [aR]) (Laid.right (Laid.left (Laid.all (by simp only [aR]))) (by simp only [aR]; omega)) Fl.nil))) ?_
  refine WP.gN rfl rfl ?_ ?_ 
  ·
   refine WL.call RB rfl (yB (l := l) H.aS (by exact (H.bN 2 rfl : aH _ (fV s l) _)) hx (by omega) gC) ?_
   rintro v20 w5 ⟨hO, gT⟩
   replace H := H.push hO (aO.iA w.heap.size v20 127 34 _ _) (gB gT H.size) (fun b hb => (gT.lt b hb).1)
   refine WL.nil ⟨(fa (fun _ _ => (by exact aK.aF (H.l 1 rfl) (aJ.r (aJ.all _) (by with_reducible rfl)) (by (simp [aN, bA, *]; done)))) (fa (fun _ _ => (by exact aK.aF (H.l 1 rfl) (aJ.l (aJ.all _)) (by rfl))) cV)), ?_⟩
   refine WP.aG rfl ?_
   refine WL.bJ (l0 := ((kc (List.replicate 32 0) ++ ([.slice none 0 0] ++ ([.bool false]))))) H rfl uF (by decide) (by rfl) (Fl.cons rfl (by rfl) (by simp only [aR]; omega) (Laid.all (by simp only [aR]; omega)) Fl.nil) rfl ?_
   intro Z8 w6 H
   refine WL.nil ⟨(fa (nw 8 6 (by decide +kernel)) (fa (nw 8 4 (by decide +kernel)) cV)), ?_⟩
   refine WP.aG rfl ?_
   have hnv : ¬ v20.ownBlock = some Z8 := by exact fun h => eP H.gY (i := 1) (j := 0) (by decide) rfl rfl Z8 ⟨h, rfl⟩
   refine WL.call ZS rfl (FA (base := w.heap.size) (vb := Z8) (l := l) (x := ⟨q, N2, u, false⟩) (by exact St.YM H 1 0 rfl rfl (by decide)) hx hq gC JD (by omega) (by exact H.l 1 rfl) H.size hnv hr) ?_
   rintro v28 w7 ⟨hO, gT, hfp⟩
   replace H := H.nW (i := 1) rfl hO (aO.iA w.heap.size v28 127 34 _ _) gT hfp
   refine WL.nil ⟨(fa (nw 9 6 (by decide +kernel)) (fa (nw 9 4 (by decide +kernel)) cV)), ?_⟩
   refine WP.as rfl rfl rfl (WP.done (WE.ret ⟨[_], _, .nil _, ⟨rfl, trivial⟩, ?_⟩))
   have hlt : rN (j8 l r ⟨q, N2, u, false⟩) := JA hl hlo (fun i h hi => by have NB := hge i h hi; rcases Nat.lt_or_ge (num q) (num l[i].k) with V0 | V0; exact V0; exact absurd ((BB (hx _ (List.getElem_mem h)) hq).1 (by omega)) (LN _ (List.getElem_mem h)))
   refine ⟨j8 l r ⟨q, N2, u, false⟩, H.aM, (by exact (pT hX (H.l 1 rfl)).imp fun _ h => cS.eH h), (H.gU (aH.and (by exact (H.bN 3 rfl : aH _ (gJ l) _)) (by exact (H.bN 0 rfl : aH _ (bI N2 u) _)))).imp fun _ h c hc => ?_, ⟨fun c hc => ?_, hlt, fun c hc => ?_⟩, by rw [wT l _ hr]; exact Nat.le_refl _, fun c hc => ?_, fun d e he hv => ?_⟩
   ·
    rcases iI.1 hc with rfl | h_; exact h.2; exact h.1 c h_
   ·
    rcases iI.1 hc with rfl | h_; exact hq; exact hx c h_
   ·
    rcases iI.1 hc with rfl | h_; exact hul; exact hsh c h_
   ·
    rcases iI.1 hc with rfl | h_; exact .inr rfl; exact .inl h_
   ·
    rw [J9 (l := l) (e := ⟨q, N2, u⟩) hx hl hlt hq LN (fun c => iI)]; exact JI (G8 l _ _ (by obtain ⟨ek, es, ev⟩ := e; subst he; subst hv; rfl))
  ·
   refine WL.bJ (l0 := ((kc (List.replicate 32 0) ++ ([.slice none 0 0] ++ ([.bool false]))))) H rfl uF (by decide) (by rfl) (Fl.cons rfl (by rfl) (by simp only [aR]; omega) (Laid.all (by simp only [aR]; omega)) Fl.nil) rfl ?_
   intro Z8 w8 H
   refine WL.nil ⟨(fa (nw 8 6 (by decide +kernel)) (fa (nw 8 4 (by decide +kernel)) cV)), ?_⟩
   refine WP.aG rfl ?_
   refine WL.call RB rfl (yB (l := l) H.aS (by exact (H.bN 2 rfl : aH _ (fV s l) _)) hx (by omega) gC) ?_
   rintro v20 w9 ⟨hO, gT⟩
   replace H := H.push hO (aO.iA w.heap.size v20 127 34 _ _) (gB gT H.size) (fun b hb => (gT.lt b hb).1)
   refine WL.nil ⟨(fa (fun _ _ => (by exact aK.aF (H.l 2 rfl) (aJ.r (aJ.all _) (by with_reducible rfl)) (by (simp [aN, bA, *]; done)))) (fa (fun _ _ => (by exact aK.aF (H.l 2 rfl) (aJ.l (aJ.all _)) (by rfl))) cV)), ?_⟩
   refine WP.aG rfl ?_
   have hnv : ¬ v20.ownBlock = some Z8 := by exact fun h => eP H.gY (i := 0) (j := 1) (by decide) rfl rfl Z8 ⟨h, rfl⟩
   refine WL.call ZS rfl (FA (base := w.heap.size) (vb := Z8) (l := l) (x := ⟨q, N2, u, false⟩) (by exact St.YM H 0 1 rfl rfl (by decide)) hx hq gC JD (by omega) (by exact H.l 0 rfl) H.size hnv hr) ?_
   rintro v28 vT ⟨hO, gT, hfp⟩
   replace H := H.nW (i := 0) rfl hO (aO.iA w.heap.size v28 127 34 _ _) gT hfp
   refine WL.nil ⟨(fa (nw 9 6 (by decide +kernel)) (fa (nw 9 4 (by decide +kernel)) cV)), ?_⟩
   refine WP.as rfl rfl rfl (WP.done (WE.ret ⟨[_], _, .nil _, ⟨rfl, trivial⟩, ?_⟩))
   have hlt : rN (j8 l r ⟨q, N2, u, false⟩) := JA hl hlo (fun i h hi => by have NB := hge i h hi; rcases Nat.lt_or_ge (num q) (num l[i].k) with V0 | V0; exact V0; exact absurd ((BB (hx _ (List.getElem_mem h)) hq).1 (by omega)) (LN _ (List.getElem_mem h)))
   refine ⟨j8 l r ⟨q, N2, u, false⟩, H.aM, (by exact (pT hX (H.l 0 rfl)).imp fun _ h => cS.eH h), (H.gU (aH.and (by exact (H.bN 3 rfl : aH _ (gJ l) _)) (by exact (H.bN 0 rfl : aH _ (bI N2 u) _)))).imp fun _ h c hc => ?_, ⟨fun c hc => ?_, hlt, fun c hc => ?_⟩, by rw [wT l _ hr]; exact Nat.le_refl _, fun c hc => ?_, fun d e he hv => ?_⟩
   ·
    rcases iI.1 hc with rfl | h_; exact h.2; exact h.1 c h_
   ·
    rcases iI.1 hc with rfl | h_; exact hq; exact hx c h_
   ·
    rcases iI.1 hc with rfl | h_; exact hul; exact hsh c h_
   ·
    rcases iI.1 hc with rfl | h_; exact .inr rfl; exact .inl h_
   ·
    rw [J9 (l := l) (e := ⟨q, N2, u⟩) hx hl hlt hq LN (fun c => iI)]; exact JI (G8 l _ _ (by obtain ⟨ek, es, ev⟩ := e; subst he; subst hv; rfl))
theorem SP {X : Nat → Prop} {w : World} {n : Nat} {f : Value} {p : Nat → Bool} (hX : cW X w) (hf : ∀ (i : Nat) (W : World), i < n → Out Nil w W → eU Tryz.prog f [.int .i64 (i : Int)] W fun v W' => v = .bool (p i) ∧ Out Nil W W') (hn : n ≤ 1000000) :
  bD Tryz.prog 189 [.int .i64 (n : Int), f].toArray w fun v w' => ∃ r : Nat, v = .int .i64 (r : Int) ∧ Out Nil w w' ∧ r ≤ n ∧ (∀ i, i + 1 = r → p i = false) ∧ (r < n → p r = true) := by
 refine bD.aI (N := 26) Tryz.func189 rfl rfl (by simp) ?_
 have H := St.begin hX
 refine WE.aA (WL.as rfl rfl (WL.nil (WE.aA (WL.mv rfl rfl (WL.as rfl rfl (WL.as rfl rfl (WL.nil ?_)))))))
 refine WE.seq (WE.block ?_)
 refine WE.loop (α := Nat × Nat) [5, 6, 7, 9, 10, 11, 12, 13, 14, 15, 16, 17, 18, 19, 20, 21, 22, 23, 24] (fun q => [(5, .int .i64 (q.1 : Int)), (6, .int .i64 (q.2 : Int))]) (fun q wl => (q.1 ≤ q.2 ∧ q.2 ≤ n ∧ (∀ i, i + 1 = q.1 → p i = false) ∧ (q.2 < n → p q.2 = true)) ∧ St X w wl [] [] []) (fun q => q.2 - q.1) (0, n) ⟨rfl, rfl, trivial⟩ ⟨⟨Nat.zero_le _, Nat.le_refl _, (fun i h => by cases h), fun h => absurd h (Nat.lt_irrefl _)⟩, H⟩ ?_
 intro ⟨lo, iU⟩ γ0 w1 hI
 try dsimp only at hI
 obtain ⟨hq, H⟩ := hI
 have aJf : lo ≤ iU := hq.1
 have aHc : iU ≤ n := hq.2.1
 refine WE.seq (WE.aA (WL.mv rfl rfl (WL.mv rfl rfl (WL.pv (PV.lss rfl rfl rfl) rfl (WL.nil ?_)))))
 refine WE.cond rfl (fun kC => ?_) (fun kC => ?_)
 ·
  try simp only [bW] at kC
  have hlt : lo < iU := by omega
  refine WE.skip (WE.block (WE.aA (WL.mv rfl rfl (WL.mv rfl rfl ?_))))
  refine WL.pv (PV.eq (v' := .int .i64 ((lo + iU : Nat) : Int)) (PV.bZ rfl rfl rfl (by omega) (by omega)) (by rfl)) rfl ?_
  refine WL.pv (PV.eq (v' := .int .u64 ((lo + iU : Nat) : Int)) (PV.conv rfl yD DR rfl) (by (rw [nQ]; congr 1; omega))) rfl ?_
  refine WL.pv (PV.eq (v' := .int .u64 (((lo + iU) / 2 : Nat) : Int)) (PV.UI rfl rfl rfl (by omega)) (by (congr 1; show Int.fdiv _ 2 = _; rw [Int.fdiv_eq_ediv_of_nonneg _ (by omega)]; omega))) rfl ?_
  refine WL.pv (PV.eq (v' := .int .i64 (((lo + iU) / 2 : Nat) : Int)) (PV.mL rfl DR yD rfl (by omega) (by omega)) (by rfl)) rfl ?_
  refine WL.as rfl rfl (WL.nil (WE.aA (WL.mv rfl rfl (WL.mv rfl rfl ?_))))
  have wZ := hf ((lo + iU) / 2) _ (by omega) H.aM
  refine WL.iK rfl rfl wZ ?_
  rintro _ w4 ⟨rfl, hO⟩
  replace H := H.out hO
  refine WL.pv (PV.not rfl rfl) rfl (WL.nil ?_)
  refine WE.cond rfl (fun oE => ?_) (fun oE => ?_)
  ·
   try simp only [bW] at oE
   have hpf : p ((lo + iU) / 2) = false := by exact oE
   let q2 : Nat × Nat := ((lo + iU) / 2 + 1, iU)
   have VP : q2.1 ≤ q2.2 ∧ q2.2 ≤ n ∧ (∀ i, i + 1 = q2.1 → p i = false) ∧ (q2.2 < n → p q2.2 = true) := ⟨by show (lo + iU) / 2 + 1 ≤ iU; omega, aHc, (fun i hi => by have h_ : i = (lo + iU) / 2 := Nat.succ.inj hi; rw [h_]; exact hpf), hq.2.2.2⟩
   have hd2 : q2.2 - q2.1 < iU - lo := by show iU - ((lo + iU) / 2 + 1) < iU - lo; omega
   refine WE.eM (WL.mv rfl rfl ?_)
   refine WL.pv (PV.eq (v' := .int .i64 (((lo + iU) / 2 + 1 : Nat) : Int)) (PV.bZ rfl rfl rfl (by omega) (by omega)) (by rfl)) rfl ?_
   refine WL.as rfl rfl (WL.nil ?_)
   exact ⟨q2, (by repeat (first | with_reducible exact bQ.refl _ _ | refine bQ.dB rfl ?_ | refine bQ.cE rfl ?_ | refine bQ.cB rfl ?_)), ⟨rfl, rfl, trivial⟩, rfl, ⟨VP, H⟩, hd2⟩
  ·
   try simp only [bW] at oE
   have hpt : p ((lo + iU) / 2) = true := by exact oE
   let q2 : Nat × Nat := (lo, (lo + iU) / 2)
   have VP : q2.1 ≤ q2.2 ∧ q2.2 ≤ n ∧ (∀ i, i + 1 = q2.1 → p i = false) ∧ (q2.2 < n → p q2.2 = true) := ⟨by show lo ≤ (lo + iU) / 2; omega, by show (lo + iU) / 2 ≤ n; have h_ := hq.2.1; omega, hq.2.2.1, fun _ => hpt⟩
   have hd2 : q2.2 - q2.1 < iU - lo := by show (lo + iU) / 2 - lo < iU - lo; omega
   refine WE.eM (WL.mv rfl rfl (WL.as rfl rfl (WL.nil ?_)))
   exact ⟨q2, (by repeat (first | with_reducible exact bQ.refl _ _ | refine bQ.dB rfl ?_ | refine bQ.cE rfl ?_ | refine bQ.cB rfl ?_)), ⟨rfl, rfl, trivial⟩, rfl, ⟨VP, H⟩, hd2⟩
 ·
  try simp only [bW] at kC
  have heq : lo = iU := by omega
  refine WE.exit (WE.aA (WL.mv rfl rfl (WL.as rfl rfl (WL.nil (WE.ret ⟨[_], _, .nil _, ⟨rfl, trivial⟩, ?_⟩)))))
  refine ⟨lo, rfl, H.aM, by omega, hq.2.2.1, fun h => ?_⟩
  rw [heq]; exact hq.2.2.2 (by omega)
theorem SN {X : Nat → Prop} {w : World} {b1 b2 : Nat} {s : Value} {ks : List (List UInt8)} {i d : Nat} (hX : cW X w) (bU : aH X (fun w => cX w ⟨b1, 0, none⟩ [s]) w) (dA : aH X (fun w => cX w ⟨b2, 0, none⟩ [.int .i64 (d : Int)]) w) (fO : aH X (eN s ks) w) (pW : K32 ks) (hi : i < ks.length) (hd : d < 256) :
  bD Tryz.prog 190 [.int .i64 (i : Int), .pointer (some ⟨b1, 0, none⟩), .pointer (some ⟨b2, 0, none⟩)].toArray w fun v w' => v = .bool (decide ((bH ks[i] d : Int) = 1)) ∧ Out Nil w w' := by
 refine bD.aI (N := 12) Tryz.func190 rfl rfl (by simp) ?_
 have H := St.begin hX
 replace H := H.add (cF fO)
 replace H := H.add (cF dA)
 replace H := H.add (cF bU)
 have hki := pW _ (List.getElem_mem hi)
 refine WE.aA (WL.as rfl rfl (WL.nil ?_))
 refine WE.bF (.take 0 (.take 1 (.take 2 (.take 3 (.take 4 (.aG 5 (.take 6 (.take 7 .done)))))))) mixed (by kernel_rfl) ?_
 replace H := H.out (Out.drew _)
 refine WP.aQ rfl rfl (RV.aY rfl aAc rfl) (H.p 0 rfl) (WP.mv rfl rfl rfl ?_)
 refine WP.aC rfl rfl (PV.eQ rfl (by exact (H.p 2 rfl : eN s ks _)) vY cN rfl rfl (by omega) (by omega)) ?_
 refine WP.dF rfl rfl rfl cU rfl (eN.rd (by exact (H.p 2 rfl : eN s ks _)) pW i hi) (cI cN (by simp only [aR]; omega)) ?_
 refine WP.aQ rfl rfl (RV.aY rfl oZ rfl) (H.p 1 rfl) (WP.aG rfl ?_)
 refine WL.call ED rfl (jH (k := ks[i]) (d := d) H.aS  hki hd) ?_
 rintro _ w1 ⟨rfl, hO⟩
 replace H := H.out hO
 refine WL.nil ⟨(fa (nw 5 4 (by decide +kernel)) (fa (nw 5 3 (by decide +kernel)) (fa (nw 5 0 (by decide +kernel)) cV))), ?_⟩
 refine WP.aC rfl rfl (PV.eql rfl rfl rfl) (WP.as rfl rfl rfl (WP.done (WE.ret ⟨[_], _, .nil _, ⟨rfl, trivial⟩, ?_⟩)))
 exact ⟨rfl, H.aM⟩
def aCO (b2 b3 : Nat) : Value := .func (.func 190) ([] : List Value).toArray [.pointer (some ⟨b2, 0, none⟩), .pointer (some ⟨b3, 0, none⟩)].toArray
theorem E6 {X : Nat → Prop} {w : World} {s : Value} {ks : List (List UInt8)} {d b2 b3 : Nat} (LW : aH X (fun w => cX w ⟨b2, 0, none⟩ [s]) w) (JH : aH X (fun w => cX w ⟨b3, 0, none⟩ [.int .i64 (d : Int)]) w) (ZI : aH X (eN s ks) w) (pW : K32 ks) (hd : d < 256) (i : Nat) (W : World) (hi : i < ks.length) (hW : Out Nil w W) :
  eU Tryz.prog (aCO b2 b3) [.int .i64 (i : Int)] W fun v W' => v = .bool (decide ((bH (ks.getD i []) d : Int) = 1)) ∧ Out Nil W W' := by
 refine eU.iV (fs := []) (cs := [.pointer (some ⟨b2, 0, none⟩), .pointer (some ⟨b3, 0, none⟩)]) aEZ ?_
 refine (SN (X := Nil) (s := s) (ks := ks) (i := i) (d := d) (b1 := b2) (b2 := b3) (fun _ h => h.elim) (LW.out hW (fun _ _ h => h.elim) (fun _ _ h => h.elim)) (JH.out hW (fun _ _ h => h.elim) (fun _ _ h => h.elim)) (ZI.out hW (fun _ _ h => h.elim) (fun _ _ h => h.elim)) pW hi hd).mono fun v W' hv => ?_
 rw [List.getD_eq_getElem?_getD, List.getElem?_eq_getElem hi]
 exact hv
theorem XM {X : Nat → Prop} {w : World} {s : Value} {ks : List (List UInt8)} {d : Nat} (hX : cW X w) (bU : aH X (eN s ks) w) (pW : K32 ks) (hlen : ks.length ≤ 1000000) (hd : d < 256) :
  bD Tryz.prog 151 [s, .int .i64 (d : Int)].toArray w fun v w' => ∃ r : Nat, v = .int .i64 (r : Int) ∧ Out Nil w w' ∧ r ≤ ks.length ∧ (∀ i (h : i < ks.length), i + 1 = r → bH ks[i] d ≠ 1) ∧ (∀ h : r < ks.length, bH ks[r] d = 1) := by
 refine bD.aI (N := 9) Tryz.func151 rfl rfl (by simp) ?_
 have H := St.begin hX
 replace H := H.add (cF bU)
 have hs1 : s.oneCell' = true := cS.fG (H.p 0 rfl : eN s ks _)
 refine WE.aA ?_
 refine WL.box (l := [s]) H rfl (cells_one hs1) rfl ?_
 intro b2 w1 H
 refine WL.box (l := [.int .i64 (d : Int)]) H rfl (rfl) rfl ?_
 intro b3 w2 H
 refine WL.as rfl rfl (WL.nil (WE.aA ?_))
 refine WL.aZ rfl aAc rfl rfl (by exact aK.aF (H.l 1 rfl) (aJ.all _) (by rfl)) ?_
 refine WL.pv (PV.dO (by exact (H.p 0 rfl : eN s ks _)) vY rfl) rfl ?_
 refine WL.pv (PV.makeFunc rfl) rfl ?_
 replace H := H.freeze (i := 0) rfl
 replace H := H.freeze (i := 0) rfl
 have LW := (H.bN 0 rfl).imp fun _ h => h.rd
 have JH := (H.bN 1 rfl).imp fun _ h => h.rd
 have ZI := H.bN 2 rfl
 refine WL.call aE0 rfl (SP (X := Nil) (f := aCO b2 b3) (p := fun i => decide ((bH (ks.getD i []) d : Int) = 1)) (fun _ h => h.elim) (E6 LW JH ZI pW hd) hlen) ?_
 rintro _ w3 ⟨r, rfl, hO, PX, hr2, hr3⟩
 replace H := H.out hO
 refine WL.as rfl rfl (WL.nil (WE.ret ⟨[_], _, .nil _, ⟨rfl, trivial⟩, ?_⟩))
 refine ⟨r, rfl, H.aM, PX, fun i hi he h1 => ?_, fun h => ?_⟩
 ·
  have h_ := hr2 i he; rw [List.getD_eq_getElem?_getD, List.getElem?_eq_getElem hi] at h_; simp [h1] at h_
 ·
  have h_ := hr3 h; rw [List.getD_eq_getElem?_getD, List.getElem?_eq_getElem h] at h_; simp at h_; omega
structure AP (d : Nat) (T : Tr) (m : List En) (l : List Ch) : Prop where
 er : T.er = grow d m
 srt : k7 m
 kl : KL m
 near : oT d m l
 xl : XL l
 lt : rN l
 sh : oL l
 sz : m.length + l.length ≤ 900000
 dle : d ≤ 256
theorem AP.pm {d : Nat} {T : Tr} {m : List En} {l : List Ch} (h : AP d T m l) : Pm d m where
 le := h.dle
 kl := h.kl
 L9 := h.srt.L9
 Z6 := by obtain ⟨p, h1, _⟩ := h.near; exact fun a ha b hb => (h1 a ha).trans (h1 b hb).symm
theorem AP.pm2 {d : Nat} {T : Tr} {m : List En} {l : List Ch} (h : AP d T m l) : Pm d (k8 m l) := aBK h.dle h.srt h.kl h.xl h.lt h.near
theorem AP.one {d : Nat} {a : Nat} {q u : List UInt8} {s0 : Value} {m : List En} {l : List Ch} (h : AP d (.leaf a q u s0) m l) : ∃ e, m = [e] ∧ e.k = q ∧ e.v = u := by
 have h1 := h.er
 have h2 := nE h.pm
 rw [← h1] at h2
 match m, h, h1, h2 with
 | [e], _, h1, _ => rw [dI] at h1; injection h1 with h3 h4; exact ⟨e, rfl, h3.symm, h4.symm⟩
 | [], _, _, h2 => cases h2
 | _ :: _ :: _, _, _, h2 => simp [Tr.er, Sh.fU] at h2
theorem AP.none {d : Nat} {m : List En} {l : List Ch} (h : AP d .nil m l) : m = [] := by
 have h2 := nE h.pm
 rw [← h.er] at h2
 exact List.eq_nil_of_length_eq_zero h2.symm
theorem AP.sub {d b : Nat} {T : Tr} {m : List En} {l : List Ch} (h : AP d T m l) (hd : d < 256) (hb : b < 2) (hk : T.er.kind ≠ 1) : AP (d + 1) (T.child b) (bR m d b) (k3 l d b) where
 er := by
  cases T with
  | nil =>
   rw [h.none]
   have : (Tr.child .nil b) = .nil := by unfold Tr.child; split <;> rfl
   rw [this]; exact (eD _).symm
  | leaf a q u s => exact absurd rfl hk
  | inner a x y =>
   have h2 : 2 ≤ m.length := (nD h.pm).1 (by rw [← h.er]; rfl)
   have h3 := h.er
   rw [jF d m hd h2] at h3
   injection h3 with h4 h5
   rcases (show b = 0 ∨ b = 1 by omega) with rfl | rfl
   ·
    exact h4
   ·
    exact h5
 srt := h.srt.part
 kl := fun e he => h.kl e (hZ.1 he).1
 near := h.near.part hd h.kl h.xl
 xl := h.xl.sub fun c hc => (gO.1 hc).1
 lt := h.lt.sub (zH l d b)
 sh := fun c hc => h.sh c (gO.1 hc).1
 sz := by
  have h1 : (bR m d b).length ≤ m.length := List.length_filter_le ..
  have h2 : (k3 l d b).length ≤ l.length := List.length_filter_le ..
  have := h.sz
  omega
 dle := hd
theorem AP.live {d : Nat} {l : List Ch} (h : AP d .nil [] l) : AP d .nil [] (dX l) ∧ grow d (k8 [] (dX l)) = grow d (k8 [] l) := by
 refine ⟨⟨h.er, h.srt, h.kl, ?_, h.xl.sub fun c hc => (iP.1 hc).1, h.lt.sub (zM l), fun c hc => h.sh c (iP.1 hc).1, ?_, h.dle⟩, by rw [SC h.xl h.lt]⟩
 ·
  obtain ⟨p, h1, h2⟩ := h.near
  exact ⟨p, h1, fun c hc => h2 c (iP.1 hc).1⟩
 ·
  have h2 : (dX l).length ≤ l.length := List.length_filter_le ..
  have := h.sz
  omega
theorem AP.merge {d a : Nat} {q u : List UInt8} {s0 : Value} {m : List En} {l l' : List Ch} (h : AP d (.leaf a q u s0) m l) (hX : XL l' ∧ rN l' ∧ oL l') (hn : l'.length ≤ l.length + 1) (hm : ∀ c ∈ l', c ∈ l ∨ c.k = q) (hg : ∀ (d : Nat) (e : En), e.k = q → e.v = u → grow d (k8 [] l') = grow d (k8 [e] l)) :
  AP d .nil [] l' ∧ grow d (k8 [] l') = grow d (k8 m l) := by
 obtain ⟨e, rfl, hk, hv⟩ := h.one
 refine ⟨⟨(eD d).symm, List.Pairwise.nil, (fun _ h => by cases h), ?_, hX.1, hX.2.1, hX.2.2, ?_, h.dle⟩, hg d e hk hv⟩
 ·
  obtain ⟨p, h1, h2⟩ := h.near
  refine ⟨p, (fun _ h => by cases h), fun c hc => ?_⟩
  rcases hm c hc with h3 | h3
  ·
   exact h2 c h3
  ·
   rw [h3, ← hk]; exact h1 e (by simp)
 ·
  have := h.sz
  simp at this ⊢
  omega
theorem AP.join {d : Nat} {T l r : Tr} {m : List En} {cs : List Ch} (h : AP d T m cs) (hd : d < 256) (hl : l.er = grow (d + 1) (k8 (bR m d 0) (k3 cs d 0))) (hr : r.er = grow (d + 1) (k8 (bR m d 1) (k3 cs d 1))) : jW l.er r.er = grow d (k8 m cs) ∧ l.er.fU + r.er.fU ≤ 1000000000 := by
 rw [hl, hr, ← E2 h.srt h.kl h.xl h.lt, ← E2 h.srt h.kl h.xl h.lt]
 refine ⟨oB h.pm2 hd, ?_⟩
 rw [nE (h.pm2.part hd 0), nE (h.pm2.part hd 1), mV]
 have h1 := XF cs m
 have := h.sz
 omega
theorem LJ {T : Tr} (h : T.er.kind = 1) : ∃ a q u s0, T = .leaf a q u s0 := by
 cases T with
 | nil => cases h
 | leaf a q u s => exact ⟨a, q, u, s, rfl⟩
 | inner a l r => cases h
def aAm (d : Nat) : Prop := ∀ {X : Nat → Prop} {w : World} {bh bc : Nat} {bits c0 : Int} {T : Tr} {m : List En} {l : List Ch} {s : Value}, (∀ b, X b → b < w.heap.size) → aK w bc 213 [.int .i64 c0] → aH (fun c => X c ∨ c = bc) (fJ bh bc bits) w →
 aH (fun c => X c ∨ c = bc) (cQ bits T) w → aH (fun c => X c ∨ c = bc) (fV s l) w → aH (fun c => X c ∨ c = bc) (gJ l) w → aH (fun c => X c ∨ c = bc) aW w → 0 ≤ bits ∧ bits ≤ 256 → AP d T m l →
 bD Tryz.prog 96 [.pointer (some ⟨bh, 0, none⟩), T.ptr, s, .int .i64 (d : Int)].toArray w fun v w' => ∃ (T' : Tr) (k : Int), v = T'.ptr ∧ T'.er = grow d (k8 m l) ∧ Out (· = bc) w w' ∧ aK w' bc 213 [.int .i64 k] ∧ aH (fun c => X c ∨ c = bc) (cQ bits T') w'
theorem KH {X : Nat → Prop} {w : World} {bh bc : Nat} {bits c0 : Int} {T : Tr} {m : List En} {l : List Ch} {s : Value} {d : Nat} (hX : cW X w) (eR : aK w bc 213 ([.int .i64 c0])) (bU : aH (fun c_ => X c_ ∨ c_ = bc) (fJ bh bc bits) w) (dA : aH (fun c_ => X c_ ∨ c_ = bc) (cQ bits T) w) (fO : aH (fun c_ => X c_ ∨ c_ = bc) (fV s l) w) (jM : aH (fun c_ => X c_ ∨ c_ = bc) (gJ l) w) (oC : aH (fun c_ => X c_ ∨ c_ = bc) (aW) w) (bS : 0 ≤ bits ∧ bits ≤ 256) (hap : AP d T m l) (ih : d < 256 → aAm (d + 1)) :
  bD Tryz.prog 96 [.pointer (some ⟨bh, 0, none⟩), T.ptr, s, .int .i64 (d : Int)].toArray w fun v w' => ∃ (T' : Tr) (k : Int), v = T'.ptr ∧ T'.er = grow d (k8 m l) ∧ Out (· = bc) w w' ∧ aK w' bc 213 [.int .i64 k] ∧ aH (fun c => X c ∨ c = bc) (cQ bits T') w' := by
 refine bD.aI (N := 73) Tryz.func96 rfl rfl (by simp) ?_
 have H := St.c6 (b := bc) (t := 213) (l := [.int .i64 c0]) hX eR
 replace H := H.add (bY oC)
 replace H := H.add (bY jM)
 replace H := H.add (bY fO)
 replace H := H.add (bY dA)
 replace H := H.add (bY bU)
 have hsz := hap.sz
 have QH := hap.dle
 refine WE.aA (WL.as rfl rfl (WL.nil ?_))
 refine WE.cut (α := Tr × Value × List Ch × List En) [1, 2, 8, 12, 13, 14, 15, 16, 17, 18, 19, 20, 21, 22, 23] (fun p => [(1, p.1.ptr), (2, p.2.1)]) (fun p wl => (AP d p.1 p.2.2.2 p.2.2.1 ∧ p.1.er.kind ≠ 1 ∧ grow d (k8 p.2.2.2 p.2.2.1) = grow d (k8 m l)) ∧ St X w wl [aO.blk bc 213 [.int .i64 c0]] [] [fJ bh bc bits, cQ bits p.1, fV p.2.1 p.2.2.1, gJ p.2.2.1, aW]) ?_ ?_
 ·
  refine WE.block (WE.aA (WL.mv rfl rfl ?_))
  refine WL.pv (PV.dO (by exact (H.p 2 rfl : (fV s l) _)) dQ rfl) rfl ?_
  refine WL.pv (PV.eql rfl rfl rfl) rfl (WL.as rfl rfl (WL.nil ?_))
  refine WE.cond rfl (fun kW => ?_) (fun kW => ?_)
  ·
   try simp only [bW] at kW
   have hl0 : l = [] := List.eq_nil_of_length_eq_zero (by omega)
   refine WE.aA (WL.mv rfl rfl (WL.as rfl rfl (WL.nil (WE.ret ⟨[_], _, .nil _, ⟨rfl, trivial⟩, ?_⟩))))
   subst hl0
   exact ⟨T, c0, rfl, hap.er, H.cM, H.o 0 rfl, H.fM (by exact (H.bN 1 rfl : aH _ (cQ bits T) _))⟩
  ·
   try simp only [bW] at kW
   refine WE.aA (WL.mv rfl rfl ?_)
   refine WL.call mJ rfl (fC (T := T) (bits := bits) H.aS (by exact H.bN 1 rfl) ) ?_
   rintro _ w1 ⟨rfl, hO⟩
   replace H := H.out hO
   refine WL.pv (PV.eql rfl rfl rfl) rfl (WL.as rfl rfl (WL.nil ?_))
   refine WE.cond rfl (fun iC => ?_) (fun iC => ?_)
   ·
    try simp only [bW] at iC
    have vF : T.er.kind = 1 := by exact iC
    obtain ⟨a, q, u, s0, rfl⟩ := LJ vF
    refine WE.eM (WL.mv rfl rfl (WL.mv rfl rfl ?_))
    refine WL.call aFh rfl (U4 (bits := bits) (s := s) (l := l) (a := a) (q := q) (u := u) (s0 := s0) H.aS (by exact (H.bN 1 rfl : aH _ (cQ bits (.leaf a q u s0)) _)) (by exact (H.bN 2 rfl : aH _ (fV s l) _)) (by exact (H.bN 3 rfl : aH _ (gJ l) _)) hap.xl hap.lt hap.sh (by omega)) ?_
    rintro v23 w2 ⟨l23, hO, aHH, aHF, aHE, aHo, aHp, aHy⟩
    replace H := ((H.out hO).add aHF).add aHH
    have hmg := hap.merge aHE aHo aHp aHy
    replace H := H.add (show aH _ (cQ bits .nil) _ from fun _ _ => trivial)
    refine WL.as rfl rfl (WL.as rfl rfl (WL.nil ?_))
    exact ⟨(.nil, v23, l23, []), (by repeat (first | with_reducible exact bQ.refl _ _ | refine bQ.dB rfl ?_)), ⟨rfl, rfl, trivial⟩, rfl, ⟨⟨hmg.1, (by show (0 : Int) ≠ 1; decide), hmg.2⟩, H.rM [3, 0, 1, 2, 7]⟩⟩
   ·
    try simp only [bW] at iC
    have vF : T.er.kind ≠ 1 := by exact iC
    refine WE.skip ?_
    exact ⟨(T, s, l, m), (by repeat (first | with_reducible exact bQ.refl _ _ | refine bQ.dB rfl ?_)), ⟨rfl, rfl, trivial⟩, rfl, ⟨⟨hap, vF, rfl⟩, H⟩⟩
 ·
  intro ⟨T1, s1, l1, m1⟩ γ w3 hI
  try dsimp only at hI
  obtain ⟨⟨yT, vF, hg1⟩, H⟩ := hI
  try dsimp only at yT vF hg1
  refine WE.cut (α := Value × List Ch) [2, 8, 24, 25, 26, 27, 28, 29, 30, 31, 32, 33, 34, 35, 36, 37, 38, 39, 40, 41, 42, 43, 44, 45] (fun p => [(2, p.1)]) (fun p wl => (AP d T1 m1 p.2 ∧ d < 256 ∧ grow d (k8 m1 p.2) = grow d (k8 m l)) ∧ St X w wl [aO.blk bc 213 [.int .i64 c0]] [] [fJ bh bc bits, cQ bits T1, fV p.1 p.2, gJ p.2, aW]) ?_ ?_
  ·
   refine WE.aA (WL.mv rfl rfl (WL.pv (PV.iX rfl wH rfl rfl) rfl (WL.nil ?_)))
   refine WE.cond rfl (fun q7 => ?_) (fun q7 => ?_)
   ·
    try simp only [bW] at q7
    obtain rfl : T1 = .nil := Tr.F8 (by exact q7)
    obtain rfl := yT.none
    have Y3 := fV.one (s := s1) (by exact (H.p 3 rfl : (gJ l1) _))
    have hlv := yT.live
    have aJb := yT.sz
    refine WE.aA (WL.mv rfl rfl ?_)
    refine WL.call RB rfl (yB (l := l1) H.aS (by exact (H.bN 2 rfl : aH _ (fV s1 l1) _)) yT.xl (by omega) Y3) ?_
    rintro v27 w4 ⟨hO, gT⟩
    replace H := H.push hO (aO.iA w.heap.size v27 127 34 _ _) (gB gT H.size) (fun b hb => (gT.lt b hb).1)
    refine WL.call aFg rfl (FD (l := l1) (f := vH 150) (H.l 0 rfl) yT.xl (by omega) Y3 E0) ?_
    rintro v28 w5 ⟨hO, gT, LM⟩
    replace H := H.nW (i := 0) rfl hO (aO.iA w.heap.size v28 127 34 _ _) gT (fun b hb => .inl (LM.symm.trans hb))
    replace H := H.freeze (i := 0) rfl
    replace H := H.add (show aH _ (fV v28 (dX l1)) _ from (H.bN 0 rfl).imp fun _ h => cS.eH h)
    replace H := H.add (show aH _ (gJ (dX l1)) _ from (by exact (H.bN 5 rfl : aH _ (gJ l1) _).imp fun _ h => h.sub fun c hc => (iP.1 hc).1))
    refine WL.as rfl rfl (WL.nil (WE.aA (WL.mv rfl rfl ?_)))
    refine WL.pv (PV.dO (by exact (H.p 1 rfl : (fV v28 (dX l1)) _)) dQ rfl) rfl ?_
    refine WL.nil (WE.block (WE.aA (WL.pv (PV.eql rfl rfl rfl) rfl (WL.as rfl rfl (WL.nil ?_)))))
    refine WE.cond rfl (fun j9 => ?_) (fun j9 => ?_)
    ·
     try simp only [bW] at j9
     have hl0 : dX l1 = [] := List.eq_nil_of_length_eq_zero (by omega)
     refine WE.aA (WL.as rfl rfl (WL.nil (WE.ret ⟨[_], _, .nil _, ⟨rfl, trivial⟩, ?_⟩)))
     refine ⟨.nil, c0, rfl, ?_, H.cM, H.o 0 rfl, H.fM (fun _ _ => trivial)⟩
     rw [← hg1, ← hlv.2, hl0]; exact (eD d).symm
    ·
     try simp only [bW] at j9
     refine WE.aA (WL.pv (PV.eql rfl rfl rfl) rfl (WL.as rfl rfl (WL.nil ?_)))
     refine WE.cond rfl (fun aBl => ?_) (fun aBl => ?_)
     ·
      try simp only [bW] at aBl
      have hl1 : 0 < (dX l1).length := by omega
      obtain ⟨c1, hc1⟩ := List.length_eq_one_iff.1 (show (dX l1).length = 1 by omega)
      have BQ : c1 ∈ dX l1 := by rw [hc1]; simp
      have qM := hlv.1.xl _ BQ
      have hge : (dX l1)[0] = c1 := by simp [hc1]
      refine WE.bF (.take 0 (.take 1 (.take 2 (.take 3 (.take 4 (.take 5 (.take 6 (.take 7 (.take 8 (.take 9 (.aG 10 (.take 11 .done)))))))))))) mixed (by kernel_rfl) ?_
      replace H := H.out (Out.drew _)
      refine WP.mv rfl rfl rfl (WP.mv rfl rfl rfl ?_)
      refine WP.aC rfl rfl (PV.eQ rfl (by exact (H.p 1 rfl : (fV v28 (dX l1)) _)) dQ eB rfl rfl (by omega) (by omega)) ?_
      refine WP.aC rfl rfl (PV.dL rfl p3 rfl) ?_
      refine WP.dF rfl rfl rfl cU rfl ((by have h_ := fV.rd (by exact (H.p 1 rfl : (fV v28 (dX l1)) _)) hlv.1.xl 0 hl1; rw [hge] at h_; exact h_.sub (aJ.l (aJ.all _)))) (cI cN (by simp only [aR]; omega)) ?_
      refine WP.mv rfl rfl rfl ?_
      refine WP.aC rfl rfl (PV.eQ rfl (by exact (H.p 1 rfl : (fV v28 (dX l1)) _)) dQ eB rfl rfl (by omega) (by omega)) ?_
      refine WP.aC rfl rfl (PV.dL rfl WD rfl) ?_
      refine WP.aQ rfl rfl (RV.aY rfl eL rfl) ((by have h_ := fV.rd (by exact (H.p 1 rfl : (fV v28 (dX l1)) _)) hlv.1.xl 0 hl1; rw [hge] at h_; exact h_.sub (aJ.r (aJ.l (aJ.all _)) (by rw [aN, qM])))) ?_
      refine WP.aC rfl rfl (PV.dD rfl wJ kL (Fl.cons rfl (by rfl) (by simp only [aR]; omega) (Laid.left (Laid.all (by simp only [aR]; omega))) (Fl.cons rfl (cS.cells ((show gJ (dX l1) _ from (by exact (H.p 0 rfl : (gJ (dX l1)) _))) c1 BQ)) (by simp only [aR]) (Laid.right (Laid.all (by simp only [aR])) (by simp only [aR]; omega)) Fl.nil))) ?_
      refine WP.aG rfl ?_
      refine WL.call ZY rfl (x6 (k := c1.k) (lv := c1.v) (s := c1.s) (bits := bits) H.aS (H.o 0 rfl) (by exact (H.aL 0 rfl 3 rfl : aH _ (fJ bh bc bits) _)) (by exact (H.aL 0 rfl 7 rfl : aH _ (aW) _)) bS (hlv.1.sh _ BQ) qM (by exact ((H.aL 0 rfl 0 rfl : aH _ (gJ (dX l1)) _).imp fun _ h => h _ BQ).wk1)) ?_
      rintro _ w6 ⟨aIu, aIV, rfl, aDZ, hO, hB, hR⟩
      replace H := H.c9 0 rfl hO hB hR
      refine WL.nil ⟨(fa (nw 10 8 (by decide +kernel)) (fa (nw 10 4 (by decide +kernel)) cV)), ?_⟩
      refine WP.as rfl rfl rfl (WP.done (WE.ret ⟨[_], _, .nil _, ⟨rfl, trivial⟩, ?_⟩))
      refine ⟨aIu, _, rfl, ?_, H.cM, H.o 0 rfl, H.fM (H.bN 0 rfl)⟩
      have hcd := (iP.1 BQ).2
      rw [aDZ, ← hg1, ← hlv.2, hc1]
      have e_ : k8 [] [c1] = [c1.en] := by show xX [] c1 = _; unfold xX; rw [hcd]; rfl
      rw [e_, dI]; rfl
     ·
      try simp only [bW] at aBl
      have CI : d < 256 := by rcases Nat.lt_or_ge d 256 with h_ | h_; exact h_; (have NB : d = 256 := by omega); subst NB; have V0 := oT.one hlv.1.near hlv.1.xl hlv.1.lt; omega
      refine WE.skip ?_
      exact ⟨(v28, dX l1), (by repeat (first | with_reducible exact bQ.refl _ _ | refine bQ.dB rfl ?_)), ⟨rfl, trivial⟩, rfl, ⟨⟨hlv.1, CI, hlv.2.trans hg1⟩, H.rM [3, 4, 1, 0, 7]⟩⟩
   ·
    try simp only [bW] at q7
    have CI : d < 256 := by cases aBm : T1 with | nil => subst aBm; simp [Tr.addr] at q7 | leaf a q u s => subst aBm; exact absurd rfl vF | inner a x y => subst aBm; exact yT.pm.lt ((nD yT.pm).1 (by rw [← yT.er]; rfl))
    refine WE.skip ?_
    exact ⟨(s1, l1), (by repeat (first | with_reducible exact bQ.refl _ _ | refine bQ.dB rfl ?_)), ⟨rfl, trivial⟩, rfl, ⟨⟨yT, CI, hg1⟩, H⟩⟩
  ·
   intro ⟨s2, l2⟩ γ w7 hI
   try dsimp only at hI
   obtain ⟨⟨u2, CI, hg2⟩, H⟩ := hI
   try dsimp only at u2 CI hg2
   have aJa := u2.sz
   refine WE.aA (WL.mv rfl rfl ?_)
   refine WL.call ZW rfl (PQ (s := s2) (l := l2) (f := vH 152) H.aS (by exact (H.bN 2 rfl : aH _ (fV s2 l2) _)) u2.xl (by omega) (fV.one (s := s2) (by exact (H.p 3 rfl : (gJ l2) _))) EZ) ?_
   rintro v47 w8 ⟨hO, hR⟩
   replace H := (H.out hO).add hR
   refine WL.mv rfl rfl ?_
   refine WL.call aFe rfl (XM (ks := l2.map Ch.k) (d := d) H.aS (H.bN 0 rfl) (E9 u2.xl) (by rw [List.length_map]; omega) CI) ?_
   rintro _ w9 ⟨r, rfl, hO, hr, hlo, hhi⟩
   replace H := H.out hO
   rw [List.length_map] at hr
   have hps := DF u2.xl u2.lt u2.near CI hr (fun i h hi => by have h_ := hlo i (by rw [List.length_map]; exact h) hi; rw [List.getElem_map] at h_; exact h_) (fun h => by have h_ := hhi (by rw [List.length_map]; exact h); rw [List.getElem_map] at h_; exact h_)
   have hs0 := u2.sub CI (b := 0) (by omega) vF
   have aHa := u2.sub CI (b := 1) (by omega) vF
   refine WL.as rfl rfl (WL.nil ?_)
   refine WE.bF (.take 0 (.take 1 (.take 3 (.take 4 (.take 5 (.take 6 (.take 7 (.take 8 (.aG 2 (.aG 9 (.take 10 .done))))))))))) mixed (by kernel_rfl) ?_
   replace H := H.out (Out.drew _)
   refine WP.mv rfl rfl rfl (WP.mv rfl rfl rfl (WP.mv rfl rfl rfl (WP.mv rfl rfl rfl (WP.mv rfl rfl rfl ?_))))
   refine WP.aC rfl rfl (PV.aCF rfl (by exact (H.p 3 rfl : (fV s2 l2) _)) dQ eB rfl rfl rfl (by omega) (by omega)) ?_
   refine WP.mv rfl rfl rfl ?_
   refine WP.aC rfl rfl (PV.eq (v' := .int .i64 ((d + 1 : Nat) : Int)) (PV.bZ rfl rfl rfl (by omega) (by omega)) (by congr 1)) ?_
   refine WP.aG rfl ?_
   refine WL.call L5 rfl (qB (T := T1) (bits := bits) (b := 0) H.aS (by exact (H.bN 2 rfl : aH _ (cQ bits T1) _))) ?_
   rintro _ vT ⟨rfl, hO⟩
   replace H := H.out hO
   refine WL.nil ⟨cV, ?_⟩
   refine WP.aG rfl ?_
   refine WL.call aBr rfl (ih CI (T := T1.child 0) (m := bR m1 d 0) (l := k3 l2 d 0) (bits := bits) H.aS (H.o 0 rfl) (by exact (H.aL 0 rfl 1 rfl : aH _ (fJ bh bc bits) _)) (by exact (H.aL 0 rfl 2 rfl : aH _ (cQ bits T1) _).imp fun _ h => h.left) (by exact (H.aL 0 rfl 3 rfl : aH _ (fV s2 l2) _).imp fun _ h => (by have h_ := h.KX u2.xl (lo := 0) (hi := r) (Nat.zero_le _) hr; rw [List.drop_zero, Nat.sub_zero, hps.1] at h_; exact h_)) (by exact (H.aL 0 rfl 4 rfl : aH _ (gJ l2) _).imp fun _ h => h.sub fun c hc => (gO.1 hc).1) (by exact (H.aL 0 rfl 5 rfl : aH _ (aW) _)) bS hs0) ?_
   rintro _ y8 ⟨aGg, aIS, rfl, aDX, hO, hB, hR⟩
   replace H := H.c9 0 rfl hO hB hR
   refine WL.nil ⟨cV, ?_⟩
   refine WP.as rfl rfl rfl (WP.done ?_)
   refine WE.bF (.take 0 (.take 1 (.take 3 (.take 4 (.take 5 (.take 6 (.take 7 (.aG 2 (.aG 8 (.take 9 .done)))))))))) mixed (by kernel_rfl) ?_
   replace H := H.out (Out.drew _)
   refine WP.mv rfl rfl rfl (WP.mv rfl rfl rfl (WP.mv rfl rfl rfl (WP.mv rfl rfl rfl ?_)))
   refine WP.aC rfl rfl (PV.qC rfl (by exact (H.p 4 rfl : (fV s2 l2) _)) dQ eB rfl rfl (by omega) (by omega)) ?_
   refine WP.mv rfl rfl rfl ?_
   refine WP.aC rfl rfl (PV.eq (v' := .int .i64 ((d + 1 : Nat) : Int)) (PV.bZ rfl rfl rfl (by omega) (by omega)) (by congr 1)) ?_
   refine WP.aG rfl ?_
   refine WL.call L5 rfl (qB (T := T1) (bits := bits) (b := 1) H.aS (by exact (H.bN 3 rfl : aH _ (cQ bits T1) _))) ?_
   rintro _ IE ⟨rfl, hO⟩
   replace H := H.out hO
   refine WL.nil ⟨cV, ?_⟩
   refine WP.aG rfl ?_
   refine WL.call aBr rfl (ih CI (T := T1.child 1) (m := bR m1 d 1) (l := k3 l2 d 1) (bits := bits) H.aS (H.o 0 rfl) (by exact (H.aL 0 rfl 2 rfl : aH _ (fJ bh bc bits) _)) (by exact (H.aL 0 rfl 3 rfl : aH _ (cQ bits T1) _).imp fun _ h => h.right) (by exact (H.aL 0 rfl 4 rfl : aH _ (fV s2 l2) _).imp fun _ h => (by have h_ := h.sub u2.xl (lo := r) (hi := l2.length) hr (Nat.le_refl _); rw [List.take_of_length_le (by rw [List.length_drop]; exact Nat.le_refl _), hps.2] at h_; exact h_)) (by exact (H.aL 0 rfl 5 rfl : aH _ (gJ l2) _).imp fun _ h => h.sub fun c hc => (gO.1 hc).1) (by exact (H.aL 0 rfl 6 rfl : aH _ (aW) _)) bS aHa) ?_
   rintro _ FI ⟨aGf, aIR, rfl, aDW, hO, hB, hR⟩
   replace H := H.c9 0 rfl hO hB hR
   refine WL.nil ⟨cV, ?_⟩
   refine WP.as rfl rfl rfl (WP.done (WE.aA (WL.mv rfl rfl (WL.mv rfl rfl (WL.mv rfl rfl ?_)))))
   have hjn := u2.join CI aDX aDW
   refine WL.call EG rfl (x7 (l := aGg) (r := aGf) (bits := bits) H.aS (H.o 0 rfl) (by exact (H.aL 0 rfl 3 rfl : aH _ (fJ bh bc bits) _)) (by exact (H.aL 0 rfl 1 rfl : aH _ (cQ bits aGg) _)) (by exact (H.aL 0 rfl 0 rfl : aH _ (cQ bits aGf) _)) (by exact (H.aL 0 rfl 7 rfl : aH _ (aW) _)) bS hjn.2) ?_
   rintro _ KT ⟨aIs, aIQ, rfl, aDV, hO, hB, hR⟩
   replace H := H.c9 0 rfl hO hB hR
   refine WL.as rfl rfl (WL.nil (WE.ret ⟨[_], _, .nil _, ⟨rfl, trivial⟩, ?_⟩))
   refine ⟨aIs, _, rfl, ?_, H.cM, H.o 0 rfl, H.fM (H.bN 0 rfl)⟩
   rw [aDV, hjn.1]; exact hg2
theorem TG : ∀ (n d : Nat), 256 - d = n → aAm d
 | 0, d, hn => fun hX h0 h1 h2 h3 h4 h5 h6 h7 => KH hX h0 h1 h2 h3 h4 h5 h6 h7 (fun h => by omega)
 | n + 1, d, hn => fun hX h0 h1 h2 h3 h4 h5 h6 h7 => KH hX h0 h1 h2 h3 h4 h5 h6 h7 (fun _ => TG n (d + 1) (by omega))
abbrev LtK (l : List (List UInt8)) : Prop := l.Pairwise fun a b => num a < num b
theorem EP : ∀ l : List (List UInt8), rE l = 0 → LtK l
 | [], _ => .nil
 | [a], _ => List.pairwise_singleton _ _
 | a :: b :: r, h => by
  have h0 : (if gP a b = 0 then (9 : Int) else if 0 < gP a b then 8 else rE (b :: r)) = 0 := h
  by_cases h1 : gP a b = 0
  ·
   rw [if_pos h1] at h0; cases h0
  ·
   rw [if_neg h1] at h0
   by_cases h2 : 0 < gP a b
   ·
    rw [if_pos h2] at h0; cases h0
   ·
    rw [if_neg h2] at h0
    have ih := EP (b :: r) h0
    have hab : num a < num b := lL.1 (by omega)
    refine List.pairwise_cons.2 ⟨fun z hz => ?_, ih⟩
    rcases List.mem_cons.1 hz with rfl | hz
    ·
     exact hab
    ·
     exact Nat.lt_trans hab ((List.pairwise_cons.1 ih).1 z hz)
theorem RS {a b : List UInt8} : 0 < gP a b ↔ num b < num a := by
 unfold gP
 by_cases h : num a < num b
 ·
  simp [h]; omega
 ·
  by_cases h2 : num b < num a
  ·
   simp [h, h2]
  ·
   simp [h, h2]
theorem JZ : ∀ (l : List (List UInt8)), LtK l → rE l = 0
 | [], _ => rfl
 | [a], _ => rfl
 | a :: b :: r, h => by
  have h1 := List.pairwise_cons.1 h
  have h2 := h1.1 b (by simp)
  have e1 : ¬ gP a b = 0 := fun e => by have := tV.1 e; omega
  have e2 : ¬ 0 < gP a b := fun e => by have := RS.1 e; omega
  show (if gP a b = 0 then 9 else if 0 < gP a b then 8 else rE (b :: r)) = 0
  rw [if_neg e1, if_neg e2]
  exact JZ (b :: r) h1.2
theorem rN.aAP {l : List Ch} (h : rE (l.map Ch.k) = 0) : rN l := (List.pairwise_map (f := Ch.k) (R := fun a b => num a < num b)).1 (EP _ h)
theorem rN.chk {l : List Ch} (h : rN l) : rE (l.map Ch.k) = 0 := JZ _ ((List.pairwise_map (f := Ch.k) (R := fun a b => num a < num b)).2 h)
theorem M3 {X : Nat → Prop} {w : World} {bh bc : Nat} {bits c0 : Int} {T : Tr} {m : List En} {l : List Ch} {s : Value} (hX : cW X w) (eR : aK w bc 213 ([.int .i64 c0])) (bU : aH (fun c_ => X c_ ∨ c_ = bc) (fJ bh bc bits) w) (dA : aH (fun c_ => X c_ ∨ c_ = bc) (cQ bits T) w) (fO : aH (fun c_ => X c_ ∨ c_ = bc) (fV s l) w) (jM : aH (fun c_ => X c_ ∨ c_ = bc) (gJ l) w) (oC : aH (fun c_ => X c_ ∨ c_ = bc) (aW) w) (bS : 0 ≤ bits ∧ bits ≤ 256) (hT : T.er = grow 0 m) (hs : k7 m) (sS : KL m) (hx : XL l) (hsh : oL l) (qM : rE (l.map Ch.k) = 0) (hsz : m.length + l.length ≤ 900000) :
  bD Tryz.prog 55 [.pointer (some ⟨bh, 0, none⟩), T.ptr, s].toArray w fun v w' => ∃ (T' : Tr) (k : Int), v = .tuple [T'.ptr, .int .i64 0].toArray ∧ T'.er = grow 0 (k8 m l) ∧ Out (· = bc) w w' ∧ aK w' bc 213 [.int .i64 k] ∧ aH (fun c => X c ∨ c = bc) (cQ bits T') w' := by
 refine bD.aI (N := 18) Tryz.func55 rfl rfl (by simp) ?_
 have H := St.c6 (b := bc) (t := 213) (l := [.int .i64 c0]) hX eR
 replace H := H.add (bY oC)
 replace H := H.add (bY jM)
 replace H := H.add (bY fO)
 replace H := H.add (bY dA)
 replace H := H.add (bY bU)
 have hlt := rN.aAP qM
 refine WE.aA (WL.as rfl rfl (WL.as rfl rfl (WL.nil (WE.seq (WE.aA (WL.mv rfl rfl ?_))))))
 refine WL.call aHP rfl (WX (s := s) (l := l) H.aS (by exact (H.bN 2 rfl : aH _ (fV s l) _)) hx (by omega) (fV.one (s := s) (by exact (H.p 3 rfl : (gJ l) _)))) ?_
 rintro _ w1 ⟨rfl, hO⟩
 replace H := H.out hO
 refine WL.as rfl rfl (WL.nil (WE.aA (WL.mv rfl rfl (WL.pv (PV.neq rfl rfl rfl) rfl (WL.nil ?_)))))
 refine WE.bB rfl (by simp [qM]) ?_
 refine WE.skip (WE.aA (WL.mv rfl rfl (WL.mv rfl rfl (WL.mv rfl rfl ?_))))
 refine WL.call aBr rfl (TG 256 0 rfl (T := T) (m := m) (l := l) (s := s) (bits := bits) H.aS (H.o 0 rfl) (by exact (H.aL 0 rfl 0 rfl : aH _ (fJ bh bc bits) _)) (by exact (H.aL 0 rfl 1 rfl : aH _ (cQ bits T) _)) (by exact (H.aL 0 rfl 2 rfl : aH _ (fV s l) _)) (by exact (H.aL 0 rfl 3 rfl : aH _ (gJ l) _)) (by exact (H.aL 0 rfl 4 rfl : aH _ (aW) _)) bS ⟨hT, hs, sS, oT.zero sS hx, hx, hlt, hsh, hsz, Nat.zero_le _⟩) ?_
 rintro _ w2 ⟨aIA, aI3, rfl, aD7, hO, hB, hR⟩
 replace H := H.c9 0 rfl hO hB hR
 refine WL.as rfl rfl (WL.as rfl rfl (WL.nil (WE.ret ⟨[_, _], _, .nil _, ⟨rfl, rfl, trivial⟩, ?_⟩)))
 exact ⟨aIA, _, rfl, aD7, H.cM, H.o 0 rfl, H.fM (H.bN 0 rfl)⟩
end Go.Sp.Tryz
