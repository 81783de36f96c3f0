/- Part of the proof of this claim: walks through the program's functions and the plain laws that they need, printed by a program of this session. -/
import Derived.Test.YthkombhebdjamaaGreatDoorP1
import Derived.Test.YthkombhebdjamaaGreatDoorMore
import Derived.Test.YthkombhebdjamaaGreatDoorExt
import Derived.Test.YthkombhebdjamaaGreatDoorDfr
import Derived.Test.YthkombhebdjamaaGreatDoorStr
import Derived.Test.YthkombhebdjamaaGreatDoorOpen
import Derived.Test.YthkombhebdjamaaGreatDoorIns
import Derived.LaidEqlPtr
set_option maxRecDepth 100000
set_option maxHeartbeats 1000000
set_option linter.unusedVariables false
set_option linter.unusedSimpArgs false
namespace Go.Sp.Tryz
open Go.Proofs Go.RowKit Go.Sp Go.Sp.TryzT Go.Proofs.Tryz
variable {X : Nat → Prop} {w : World}
def len8 (n : Nat) : Nat := if n = 0 then 0 else Nat.log2 n + 1
theorem PS : ∀ x : Fin 256, (⟨#[0, 1, 2, 2, 3, 3, 3, 3, 4, 4, 4, 4, 4, 4, 4, 4, 5, 5, 5, 5, 5, 5, 5, 5, 5, 5, 5, 5, 5, 5, 5, 5, 6, 6, 6, 6, 6, 6, 6, 6, 6, 6, 6, 6, 6, 6, 6, 6, 6, 6, 6, 6, 6, 6, 6, 6, 6, 6, 6, 6, 6, 6, 6, 6, 7, 7, 7, 7, 7, 7, 7, 7, 7, 7, 7, 7, 7, 7, 7, 7, 7, 7, 7, 7, 7, 7, 7, 7, 7, 7, 7, 7, 7, 7, 7, 7, 7, 7, 7, 7, 7, 7, 7, 7, 7, 7, 7, 7, 7, 7, 7, 7, 7, 7, 7, 7, 7, 7, 7, 7, 7, 7, 7, 7, 7, 7, 7, 7, 8, 8, 8, 8, 8, 8, 8, 8, 8, 8, 8, 8, 8, 8, 8, 8, 8, 8, 8, 8, 8, 8, 8, 8, 8, 8, 8, 8, 8, 8, 8, 8, 8, 8, 8, 8, 8, 8, 8, 8, 8, 8, 8, 8, 8, 8, 8, 8, 8, 8, 8, 8, 8, 8, 8, 8, 8, 8, 8, 8, 8, 8, 8, 8, 8, 8, 8, 8, 8, 8, 8, 8, 8, 8, 8, 8, 8, 8, 8, 8, 8, 8, 8, 8, 8, 8, 8, 8, 8, 8, 8, 8, 8, 8, 8, 8, 8, 8, 8, 8, 8, 8, 8, 8, 8, 8, 8, 8, 8, 8, 8, 8, 8, 8, 8, 8, 8, 8, 8, 8, 8, 8, 8, 8, 8, 8, 8, 8]⟩ : ByteArray)[x.val]? = some (UInt8.ofNat (len8 x.val)) := by decide +kernel
theorem PT (x : UInt8) : (⟨#[0, 1, 2, 2, 3, 3, 3, 3, 4, 4, 4, 4, 4, 4, 4, 4, 5, 5, 5, 5, 5, 5, 5, 5, 5, 5, 5, 5, 5, 5, 5, 5, 6, 6, 6, 6, 6, 6, 6, 6, 6, 6, 6, 6, 6, 6, 6, 6, 6, 6, 6, 6, 6, 6, 6, 6, 6, 6, 6, 6, 6, 6, 6, 6, 7, 7, 7, 7, 7, 7, 7, 7, 7, 7, 7, 7, 7, 7, 7, 7, 7, 7, 7, 7, 7, 7, 7, 7, 7, 7, 7, 7, 7, 7, 7, 7, 7, 7, 7, 7, 7, 7, 7, 7, 7, 7, 7, 7, 7, 7, 7, 7, 7, 7, 7, 7, 7, 7, 7, 7, 7, 7, 7, 7, 7, 7, 7, 7, 8, 8, 8, 8, 8, 8, 8, 8, 8, 8, 8, 8, 8, 8, 8, 8, 8, 8, 8, 8, 8, 8, 8, 8, 8, 8, 8, 8, 8, 8, 8, 8, 8, 8, 8, 8, 8, 8, 8, 8, 8, 8, 8, 8, 8, 8, 8, 8, 8, 8, 8, 8, 8, 8, 8, 8, 8, 8, 8, 8, 8, 8, 8, 8, 8, 8, 8, 8, 8, 8, 8, 8, 8, 8, 8, 8, 8, 8, 8, 8, 8, 8, 8, 8, 8, 8, 8, 8, 8, 8, 8, 8, 8, 8, 8, 8, 8, 8, 8, 8, 8, 8, 8, 8, 8, 8, 8, 8, 8, 8, 8, 8, 8, 8, 8, 8, 8, 8, 8, 8, 8, 8, 8, 8, 8, 8, 8, 8]⟩ : ByteArray)[x.toNat]? = some (UInt8.ofNat (len8 x.toNat)) := PS ⟨x.toNat, x.toNat_lt⟩
theorem zP : ∀ x : Fin 256, len8 x.val ≤ 8 ∧ (x.val ≠ 0 → 1 ≤ len8 x.val ∧ x.val.testBit (len8 x.val - 1) = true ∧ ∀ j : Fin 8, len8 x.val ≤ j.val → x.val.testBit j.val = false) := by decide +kernel
theorem BK (x : UInt8) : len8 x.toNat ≤ 8 := (zP ⟨x.toNat, x.toNat_lt⟩).1
theorem p5 (k : List UInt8) (i : Nat) : bH k i = ((k.getD (i / 8) 0).toNat.testBit (7 - i % 8)).toNat := by
 unfold bH
 rw [Nat.toNat_testBit]
theorem R2 {a b : List UInt8} (ha : a.length = 32) (hb : b.length = 32) {i : Nat} (hi : i < 32) (he : ∀ j (h : j < i), a.getD j 0 = b.getD j 0) (hx : (a.getD i 0 ^^^ b.getD i 0).toNat ≠ 0) :
  AU a b (8 * i + (8 - len8 (a.getD i 0 ^^^ b.getD i 0).toNat)) := by
 have h1 := (zP ⟨(a.getD i 0 ^^^ b.getD i 0).toNat, UInt8.toNat_lt _⟩)
 have h2 := h1.2 hx
 dsimp only at h1 h2
 generalize hL : len8 (a.getD i 0 ^^^ b.getD i 0).toNat = L at *
 refine ⟨by omega, fun j hj => ?_, fun _ => ?_⟩
 ·
  rw [p5, p5]
  rcases Nat.lt_or_ge j (8 * i) with h | h
  ·
   rw [he (j / 8) (by omega)]
  ·
   have e : j / 8 = i := by omega
   have h3 := h2.2.2 ⟨7 - j % 8, by omega⟩ (by dsimp only; omega)
   rw [UInt8.toNat_xor, Nat.testBit_xor] at h3
   rw [e]
   congr 1
   dsimp only at h3
   revert h3
   cases (a.getD i 0).toNat.testBit (7 - j % 8) <;> cases (b.getD i 0).toNat.testBit (7 - j % 8) <;> simp
 ·
  rw [p5, p5, show (8 * i + (8 - L)) / 8 = i by omega, show 7 - (8 * i + (8 - L)) % 8 = L - 1 by omega]
  have h3 := h2.2.1
  rw [UInt8.toNat_xor, Nat.testBit_xor] at h3
  revert h3
  cases (a.getD i 0).toNat.testBit (L - 1) <;> cases (b.getD i 0).toNat.testBit (L - 1) <;> simp
theorem aCF (a b : UInt8) : IntKind.u8.wrap ((BitVec.ofInt IntKind.u8.bits (a.toNat : Int) ^^^ BitVec.ofInt IntKind.u8.bits (b.toNat : Int)).toNat : Int) = ((a ^^^ b).toNat : Int) := by
 rw [IL]
 have e : (BitVec.ofInt IntKind.u8.bits (a.toNat : Int) ^^^ BitVec.ofInt IntKind.u8.bits (b.toNat : Int)).toNat = (a ^^^ b).toNat := by
  show (BitVec.ofInt 8 (a.toNat : Int) ^^^ BitVec.ofInt 8 (b.toNat : Int)).toNat = _
  rw [BitVec.ofInt_natCast, BitVec.ofInt_natCast, BitVec.toNat_xor, UInt8.toNat_xor]
  have h1 := a.toNat_lt
  have h2 := b.toNat_lt
  simp
 rw [e]
 have := (a ^^^ b).toNat_lt
 omega
theorem bytes_eq {a b : List UInt8} (ha : a.length = 32) (hb : b.length = 32) (he : ∀ j, j < 32 → a.getD j 0 = b.getD j 0) : a = b := by
 apply List.ext_getElem (by omega)
 intro i h1 h2
 have := he i (by omega)
 rwa [jT h1, jT h2] at this
theorem aCh {X : Nat → Prop} {w : World} {x : UInt8} (hX : cU X w) :
  bF prog 206 [.int .u8 (x.toNat : Int)].toArray w fun v w' => v = .int .i64 (len8 x.toNat : Int) ∧ Out Nil w w' := by
 refine bF.aI (N := 6) func206 rfl rfl (by simp) ?_
 have H := St.begin hX
 have hle := BK x
 refine WE.aA (WL.as rfl rfl (WL.nil (WE.aA (WL.mv rfl rfl (WL.pv (PV.DX (i := x.toNat) rfl (by kernel_rfl) rfl rfl (PT x)) rfl ?_)))))
 refine WL.pv (PV.eq (v' := .int .i64 ((len8 x.toNat : Nat) : Int)) (PV.mL rfl oW yD rfl (by omega) (by have := (UInt8.ofNat (len8 x.toNat)).toNat_lt; omega)) (by congr 1; rw [UInt8.toNat_ofNat_of_lt' (by show _ < 256; omega)])) rfl ?_
 refine WL.as rfl rfl (WL.nil (WE.ret ⟨[_], _, .nil _, ⟨rfl, trivial⟩, ?_⟩))
 exact ⟨rfl, H.aL⟩
theorem aGD {X : Nat → Prop} {w : World} {x : UInt8} (hX : cU X w) :
  bF prog 195 [.int .u8 (x.toNat : Int)].toArray w fun v w' => v = .int .i64 ((8 - len8 x.toNat : Nat) : Int) ∧ Out Nil w w' := by
 refine bF.aI (N := 6) func195 rfl rfl (by simp) ?_
 have H := St.begin hX
 have hle := BK x
 refine WE.aA (WL.as rfl rfl (WL.nil (WE.aA (WL.mv rfl rfl ?_))))
 refine WL.call aE5 rfl (aCh (x := x) H.aS  ) ?_
 rintro _ w1 ⟨rfl, hO⟩
 replace H := H.out hO
 refine WL.pv (PV.iS rfl rfl rfl (by omega) (by omega)) rfl (WL.as rfl rfl (WL.nil (WE.ret ⟨[_], _, .nil _, ⟨rfl, trivial⟩, ?_⟩)))
 refine ⟨?_, H.aL⟩
 show Value.int .i64 _ = Value.int .i64 _
 congr 1; omega
theorem yA {X : Nat → Prop} {w : World} {a b : List UInt8} (hX : cU X w) (ha : a.length = 32) (hb : b.length = 32) :
  bF prog 164 [.agg (kc a).toArray, .agg (kc b).toArray].toArray w fun v w' => v = .int .i64 (fB a b : Int) ∧ Out Nil w w' := by
 refine bF.aI (N := 28) func164 rfl rfl (by simp) ?_
 have H := St.begin hX
 refine WE.aA ?_
 refine WL.box (l := kc a) H rfl rfl rfl ?_
 intro b2 w1 H
 refine WL.box (l := kc b) H rfl rfl rfl ?_
 intro b3 w2 H
 refine WL.as rfl rfl (WL.nil (WE.seq (WE.aA ?_)))
 refine WL.bC rfl cV rfl rfl (aM.aF (H.l 1 rfl) (aJ.all _) rfl) (cH cM (by simp only [aR, aU, aB]; omega)) ?_
 refine WL.bC rfl cV rfl rfl (aM.aF (H.l 0 rfl) (aJ.all _) rfl) (cH cM (by simp only [aR, aU, aB]; omega)) ?_
 refine WL.pv (PV.B8 rfl gM oW gY (by kernel_rfl) rfl rfl (by assumption) (by assumption)) rfl (WL.nil ?_)
 refine WE.cond rfl (fun wY => ?_) (fun wY => ?_)
 ·
  try simp only [bU] at wY
  have hab : a = b := by exact wY
  refine WE.aA (WL.as rfl rfl (WL.nil (WE.ret ⟨[_], _, .nil _, ⟨rfl, trivial⟩, ?_⟩)))
  refine ⟨?_, H.aL⟩
  show Value.int .i64 _ = Value.int .i64 _
  have := (nJ ha hb).2 hab
  have := J4 a b
  congr 1; omega
 ·
  try simp only [bU] at wY
  have hab : a ≠ b := by exact wY
  refine WE.skip (WE.seq (WE.aA (WL.mv rfl rfl (WL.nil (WE.block ?_)))))
  refine WE.loop (α := Nat) (rg [(4, 3), (10, 18)]) (fun i => [(10, .int .i64 i)]) (fun i wl => i ≤ 32 ∧ (∀ j, j < i → a.getD j 0 = b.getD j 0) ∧ St X w wl [] [aN.blk b3 24 (kc b), aN.blk b2 24 (kc a)] []) (fun i => 32 - i) 0 ⟨rfl, trivial⟩ ⟨Nat.zero_le _, fun _ h => by omega, H⟩ ?_
  intro i γ0 w3 hI
  try dsimp only at hI
  obtain ⟨hle, hall, H⟩ := hI
  refine WE.aA (WL.pv (PV.lss rfl rfl rfl) rfl (WL.nil (WE.seq ?_)))
  refine WE.cond rfl (fun kD => ?_) (fun kD => ?_)
  ·
   try simp only [bU] at kD
   have hlt : i < 32 := by omega
   refine WE.skip (WE.seq (WE.block (WE.aA (WL.mv rfl rfl (WL.as rfl rfl (WL.nil ?_))))))
   refine WE.bG (.take 0 (.take 1 (.take 2 (.take 3 (.take 4 (.take 5 (.take 6 (.take 7 .done)))))))) mixed (by kernel_rfl) ?_
   replace H := H.out (Out.drew _)
   refine WP.mv rfl rfl rfl (WP.aC rfl rfl (PV.cF rfl gM gY rfl rfl (by omega) (by omega)) (WP.aQ rfl rfl (RV.aZ rfl CE rfl) (aM.R9 (H.l 1 rfl) i (by omega) (by omega)) (WP.mv rfl rfl rfl (WP.aC rfl rfl (PV.cF rfl gM gY rfl rfl (by omega) (by omega)) (WP.aQ rfl rfl (RV.aZ rfl CE rfl) (aM.R9 (H.l 0 rfl) i (by omega) (by omega)) ?_)))))
   refine WP.aC rfl rfl (PV.eq (v' := .int .u8 ((a.getD i 0 ^^^ b.getD i 0).toNat : Int)) (PV.aAz rfl rfl rfl) (congrArg (Value.int .u8) (aCF _ _))) ?_
   refine WP.as rfl rfl rfl (WP.done (WE.aA (WL.mv rfl rfl (WL.pv (PV.neq rfl rfl rfl) rfl (WL.nil ?_)))))
   refine WE.cond rfl (fun oF => ?_) (fun oF => ?_)
   ·
    try simp only [bU] at oF
    have hx : (a.getD i 0 ^^^ b.getD i 0).toNat ≠ 0 := by omega
    have aJA := BK (a.getD i 0 ^^^ b.getD i 0)
    refine WE.aA (WL.mv rfl rfl (WL.pv (PV.sA rfl rfl rfl (by omega) (by omega)) rfl (WL.mv rfl rfl ?_)))
    refine WL.call aE8 rfl (aGD (x := a.getD i 0 ^^^ b.getD i 0) H.aS  ) ?_
    rintro _ w4 ⟨rfl, hO⟩
    replace H := H.out hO
    refine WL.pv (PV.bY rfl rfl rfl (by omega) (by omega)) rfl (WL.as rfl rfl (WL.nil (WE.ret ⟨[_], _, .nil _, ⟨rfl, trivial⟩, ?_⟩)))
    refine ⟨?_, H.aL⟩
    show Value.int .i64 _ = Value.int .i64 _
    rw [(oL a b).uniq (R2 ha hb hlt hall hx)]
    congr 1 <;> omega
   ·
    try simp only [bU] at oF
    have hx : (a.getD i 0 ^^^ b.getD i 0).toNat = 0 := by omega
    have TZ : a.getD i 0 = b.getD i 0 := UInt8.xor_eq_zero_iff.1 (UInt8.toNat_inj.1 hx)
    refine WE.skip (WE.eH (WL.pv (PV.bY rfl rfl rfl (by omega) (by omega)) rfl (WL.mv rfl rfl (WL.nil ?_))))
    exact ⟨i + 1, (by repeat (first | with_reducible exact bQ.refl _ _ | refine bQ.dG rfl ?_ | refine bQ.cC rfl ?_ | refine bQ.cB rfl ?_)), ⟨rfl, trivial⟩, rfl, ⟨by omega, fun j hj => by (by_cases e : j = i; (subst e; exact TZ); exact hall j (by omega)), H⟩, (by omega)⟩
  ·
   try simp only [bU] at kD
   have hend : i = 32 := by omega
   refine WE.exit (WE.aA (WL.as rfl rfl (WL.nil (WE.ret ⟨[_], _, .nil _, ⟨rfl, trivial⟩, ?_⟩))))
   exact absurd (bytes_eq ha hb fun j hj => hall j (by omega)) hab
theorem O2 {a b : List UInt8} {d : Nat} (h : num a ≤ num b) : pre d a ≤ pre d b := Nat.div_le_div_right h
theorem LO {a b : List UInt8} {d : Nat} (h : pre d a < pre d b) : num a < num b := by
 rcases Nat.lt_or_ge (num a) (num b) with hl | hl
 ·
  exact hl
 ·
  exact absurd (O2 (d := d) hl) (by omega)
theorem LP {a b : List UInt8} {d : Nat} (ha : a.length = 32) (hb : b.length = 32) (hd : d < 256) (hp : pre d a = pre d b) (h0 : bH a d = 0) (h1 : bH b d = 1) : num a < num b := by
 apply LO (d := d + 1)
 rw [kT a ha d hd, kT b hb d hd, hp, h0, h1]
 omega
theorem x6 {X : Nat → Prop} {w : World} {bh bc : Nat} {bits n : Int} {k lv : List UInt8} {s : Value} (hX : cU X w) (eT : aM w bc 213 ([.int .i64 n])) (bT : aH (fun c_ => X c_ ∨ c_ = bc) (fF bh bc bits) w) (dA : aH (fun c_ => X c_ ∨ c_ = bc) (aX) w) (bR : 0 ≤ bits ∧ bits ≤ 256) (wV : lv.length ≤ 1000000) (hk : k.length = 32) (hw : aH (fun c => c = bc) (bI s lv) w) :
  bF prog 137 [.pointer (some ⟨bh, 0, none⟩), .agg (kc k ++ [s]).toArray].toArray w fun v w' => ∃ (T : Tr) (m : Int), v = T.ptr ∧ T.er = .leaf k lv ∧ Out (· = bc) w w' ∧ aM w' bc 213 [.int .i64 m] ∧ aH (fun c => X c ∨ c = bc) (cQ bits T) w' := by
 refine bF.aI (N := 18) func137 rfl rfl (by simp) ?_
 have H := ((St.c7 (b := bc) (t := 213) (l := [.int .i64 n]) hX eT).add (bX dA)).add (bX bT)
 have JJ := fZ bits lv
 have hs1 : s.oneCell' = true := cR.fH hw.here
 refine WE.aA ?_
 refine WL.box (l := kc k ++ [s]) H rfl (rfl) rfl ?_
 intro b3 w1 H
 refine WL.as rfl rfl (WL.nil ?_)
 refine WE.bG (.take 0 (.take 1 (.take 2 (.take 3 (.take 4 (.take 5 (.take 7 (.take 8 (.aG 6 (.aG 9 (.take 10 (.take 11 (.aG 12 (.take 13 .done)))))))))))))) mixed (by kernel_rfl) ?_
 replace H := H.out (Out.drew _)
 refine WP.mv rfl rfl rfl (WP.mv rfl rfl rfl (WP.aC rfl rfl (PV.fieldAddr rfl gR rfl) ?_))
 refine WP.dF rfl rfl rfl cV rfl (aM.aF (H.l 0 rfl) (aJ.l (aJ.all _)) rfl) (cH cM (by simp only [aR, aU, aB]; omega)) ?_
 refine WP.aC rfl rfl (PV.fieldAddr rfl pY rfl) ?_
 refine WP.aQ rfl rfl (RV.aZ rfl eN rfl) (aM.aF (H.l 0 rfl) (aJ.r (aJ.all _) rfl) (by simp [aO, bA, *])) ?_
 refine WP.aC rfl rfl (PV.fieldAddr rfl pY rfl) ?_
 refine WP.aQ rfl rfl (RV.aZ rfl eN rfl) (aM.aF (H.l 0 rfl) (aJ.r (aJ.all _) rfl) (by simp [aO, bA, *])) ?_
 refine WP.aG rfl ?_
 refine WL.call aFg rfl (TF (X := Nil) (k := k) (la := lv) (mZ _) (H.o 0 rfl) (by exact (H.aK 0 rfl 0 rfl).wk) ((H.CU H.l5 hw rfl).FO) (by exact (H.aK 0 rfl 1 rfl).wk) bR wV hk) ?_
 rintro _ w2 ⟨m1, rfl, hO, hB⟩
 replace H := H.eU 0 rfl hO hB
 refine WL.nil ⟨(fa (fun _ _ => (aM.aF (H.l 0 rfl) (aJ.r (aJ.all _) rfl) (by simp [aO, bA, *]))) (fa (nw 6 5) (fa (nw 6 3) c5))), ?_⟩
 refine WP.aG rfl ?_
 refine WL.call aAe rfl (FM (X := Nil) (la := lv) (mZ _) ((H.CU H.l5 hw rfl).wk0) (by omega)) ?_
 rintro s2 w3 ⟨hO, gP⟩
 have hr_ := (pR H.aS gP).imp fun _ h => bI.eM h
 replace H := (H.out hO).add hr_
 refine WL.nil ⟨(fa (nw 9 8) (fa (nw 9 5) (fa (nw 9 3) c5))), ?_⟩
 refine WP.aC rfl rfl (PV.dD rfl Y4 IJ (Fl.cons rfl rfl (by simp only [aR, aU, aB]; omega) (Laid.left (Laid.all (by simp only [aR, aU, aB]; omega))) (Fl.cons rfl (cR.cells (H.p 0 rfl)) (by simp only [aR, aU, aB]) (Laid.right (Laid.all (by simp only [aR, aU, aB])) (by simp only [aR, aU, aB]; omega)) Fl.nil))) ?_
 refine WP.aC rfl rfl (PV.JB rfl EX) (WP.aG rfl ?_)
 refine WL.call Z5 rfl (FZ (k := k) (d := mS bits lv) (s := s2) H.aS (H.o 0 rfl) (by exact H.aK 0 rfl 1 rfl) (by exact H.aK 0 rfl 2 rfl) bR hk JJ) ?_
 rintro _ w4 ⟨a2, m2, rfl, hO, hB, hR⟩
 replace H := H.c9 0 rfl hO hB hR
 refine WL.nil ⟨(fa (nw 12 8) (fa (nw 12 5) (fa (nw 12 3) c5))), ?_⟩
 refine WP.as rfl rfl rfl (WP.done (WE.ret ⟨[_], _, .nil _, ⟨rfl, trivial⟩, ?_⟩))
 exact ⟨.leaf a2 k lv s2, m2, rfl, rfl, H.cL, H.o 0 rfl, (H.fL ((H.bK 0 rfl).and (H.bK 1 rfl))).imp fun _ h => ⟨hk, h.2, wV, h.1⟩⟩
structure Ong (C : Nat → Prop) (W0 w : World) : Prop where
 os : w.os = W0.os
 tape : w.tape = W0.tape
 output : w.output = W0.output
 size : W0.heap.size ≤ w.heap.size
 old : ∀ b, b < W0.heap.size → ¬ C b → w.heap[b]? = W0.heap[b]?
def aGw (P : Program) (g : FuncId) (fs cs : List Value) (n : Nat) (V : Nat → List Value → World → Prop) (C : Nat → Prop) (W0 : World) : Prop :=
 ∀ (f : Value) (J : Nat → World → Prop) (Jx : World → Prop), J 0 W0 → (∀ i W W', J i W → Out Nil W W' → J i W') → (∀ W W', Jx W → Out Nil W W' → Jx W') →
  (∀ i xs W W2, i < n → J i W → Out Nil W W2 → aH (· < W.heap.size) (V i xs) W2 → eV P f xs W2 fun v W' => Kept Nil C W0 W2 W' ∧ ((v = .bool true ∧ J (i + 1) W') ∨ (v = .bool false ∧ Jx W'))) → M8 f →
  bF P g (fs ++ [f] ++ cs).toArray W0 fun v W' => v = .tuple #[] ∧ (J n W' ∨ Jx W')
structure aAv (C : Nat → Prop) (w : World) (l : Nat) (W W' : World) : Prop where
 os : W'.os = W.os
 tape : W'.tape = W.tape
 output : W'.output = W.output
 size : w.heap.size + 2 ≤ W'.heap.size
 old : ∀ b, b < w.heap.size → ¬ C b → W'.heap[b]? = W.heap[b]?
 loop : W'.heap[l]? = W.heap[l]?
theorem ML (x : UInt8) (a b : List UInt8) (h : a.length = b.length) : gN (x :: a) (x :: b) = gN a b := by
 unfold gN
 rw [kU, kU, h]
 simp only [Nat.add_lt_add_iff_left]
theorem kH : ∀ (a b : List UInt8), a.length = b.length → Lib.compareBytes a b = gN a b
 | [], [], _ => by simp [Lib.compareBytes, gN]
 | [], _ :: _, h => by cases h
 | _ :: _, [], h => by cases h
 | x :: a, y :: b, h => by
  have hl : a.length = b.length := by simpa using h
  unfold Lib.compareBytes
  by_cases h1 : x < y
  ·
   rw [if_pos h1]
   have := pS (a := x :: a) (b := y :: b) h 0 (by simp) rfl (UInt8.lt_iff_toNat_lt.1 h1)
   rw [gN, if_pos this]
  ·
   rw [if_neg h1]
   by_cases h2 : y < x
   ·
    rw [if_pos h2]
    have := pS (a := y :: b) (b := x :: a) h.symm 0 (by simp) rfl (UInt8.lt_iff_toNat_lt.1 h2)
    rw [gN, if_neg (by omega), if_pos this]
   ·
    rw [if_neg h2]
    have e : x = y := by
     have h3 : ¬ x.toNat < y.toNat := fun h => h1 (UInt8.lt_iff_toNat_lt.2 h)
     have h4 : ¬ y.toNat < x.toNat := fun h => h2 (UInt8.lt_iff_toNat_lt.2 h)
     exact UInt8.toNat_inj.1 (by omega)
    subst e
    rw [kH a b hl, ML _ _ _ hl]
theorem xP {X : Nat → Prop} {w : World} {a b : Value} {la lb : List UInt8} (hX : cU X w) (bT : aH X (bI a la) w) (dA : aH X (bI b lb) w) :
  bF prog 143 [a, b].toArray w fun v w' => v = .int .i64 (Lib.compareBytes la lb) ∧ Out Nil w w' := by
 refine bF.aI (N := 8) func143 rfl rfl (by simp) ?_
 have H := ((St.begin hX).add (cE dA)).add (cE bT)
 refine WE.aA (WL.as rfl rfl (WL.nil (WE.aA (WL.mv rfl rfl (WL.mv rfl rfl ?_)))))
 refine WL.extern (e := Extern.BytealgCompare.compare) (v := .int .i64 (Lib.compareBytes la lb)) func184 (by kernel_rfl) (by kernel_rfl) (by kernel_rfl) (by kernel_rfl) rfl (rV (H.p 0 rfl) (H.p 1 rfl)) ?_
 refine WL.as rfl rfl (WL.nil (WE.ret ⟨[_], _, .nil _, ⟨rfl, trivial⟩, ?_⟩))
 exact ⟨rfl, H.aL⟩
theorem qN {X : Nat → Prop} {w : World} {k l : List UInt8} (hX : cU X w) (hk : k.length = 32) (hl : l.length = 32) :
  bF prog 94 [.agg (kc k).toArray, .agg (kc l).toArray].toArray w fun v w' => v = .int .i64 (gN k l) ∧ Out Nil w w' := by
 refine bF.aI (N := 8) func94 rfl rfl (by simp) ?_
 have H := St.begin hX
 refine WE.aA ?_
 refine WL.box (l := kc k) H rfl rfl rfl ?_
 intro b2 w1 H
 refine WL.box (l := kc l) H rfl rfl rfl ?_
 intro b3 w2 H
 refine WL.as rfl rfl (WL.nil ?_)
 refine WE.bG (.take 0 (.take 1 (.aG 2 (.take 3 .done)))) mixed (by kernel_rfl) ?_
 replace H := H.out (Out.drew _)
 replace H := H.freeze (i := 0) rfl
 replace H := H.freeze (i := 0) rfl
 replace H := H.sS [1, 0]
 refine WP.aC rfl rfl (PV.fO rfl gM (by rw [gY]; rfl) rfl) ?_
 refine WP.aC rfl rfl (PV.fO rfl gM (by rw [gY]; rfl) rfl) ?_
 refine WP.aG rfl ?_
 refine WL.call Z9 rfl (xP (la := k) (lb := l) H.aS ((H.bK 1 rfl).imp fun _ h => bI.bZ h hk) ((H.bK 0 rfl).imp fun _ h => bI.bZ h hl)) ?_
 rintro _ w3 ⟨rfl, hO⟩
 replace H := H.out hO
 rw [kH k l (by rw [hk, hl])]
 refine WL.nil ⟨c5, ?_⟩
 refine WP.as rfl rfl rfl (WP.done (WE.ret ⟨[_], _, .nil _, ⟨rfl, trivial⟩, ?_⟩))
 exact ⟨rfl, H.aL⟩
theorem lD.part {m : List En} {d b : Nat} (h : lD m) : lD (bP m d b) := h.filter _
theorem oD {d : Nat} {m : List En} (h : Pm d m) (hd : d < 256) : jX (grow (d + 1) (bP m d 0)) (grow (d + 1) (bP m d 1)) = grow d m := by
 match m, h with
 | [], _ => simp [bP, eG, jX]
 | [e], _ =>
  have hb := eD e.k d
  rw [dI]
  by_cases h0 : bH e.k d = 0
  ·
   have e0 : bP [e] d 0 = [e] := by simp [bP, h0]
   have e1 : bP [e] d 1 = [] := by simp [bP, h0]
   rw [e0, e1, dI, eG]; rfl
  ·
   have e0 : bP [e] d 0 = [] := by simp [bP, h0]
   have e1 : bP [e] d 1 = [e] := by simp [bP]; omega
   rw [e0, e1, dI, eG]; rfl
 | a :: b :: m, h =>
  rw [jH d _ hd (by simp)]
  exact DW (by rw [(h.part hd 0).fU, (h.part hd 1).fU, mW]; simp)
theorem rX (m : List En) (k : List UInt8) (d b : Nat) : bP (eX m k) d b = eX (bP m d b) k := by
 unfold bP eX
 rw [List.filter_filter, List.filter_filter]
 apply List.filter_congr
 intro e _
 rw [Bool.and_comm]
theorem tE {m : List En} {k : List UInt8} {d b : Nat} (hb : bH k d ≠ b) : eX (bP m d b) k = bP m d b := by
 unfold eX
 rw [List.filter_eq_self]
 intro e he
 have := (hZ.1 he).2
 simp
 rintro rfl
 exact hb this
theorem PZ {e x : En} {l : List En} (h : num e.k < num x.k) : ins e (x :: l) = e :: x :: l := if_pos h
theorem P0 {e x : En} {l : List En} (h : ¬ num e.k < num x.k) : ins e (x :: l) = x :: ins e l := if_neg h
theorem wR {e : En} {p : En → Bool} : ∀ {l : List En}, lD l → (ins e l).filter p = if p e then ins e (l.filter p) else l.filter p := by
 intro l
 induction l with
 | nil => intro _; cases hp : p e <;> simp [ins, hp]
 | cons x l ih =>
  intro hs
  have h1 := List.pairwise_cons.1 hs
  by_cases hl : num e.k < num x.k
  ·
   rw [PZ hl]
   cases hp : p e
   ·
    simp [List.filter_cons, hp]
   ·
    rw [List.filter_cons_of_pos hp, if_pos rfl]
    have hall : ∀ y ∈ (x :: l).filter p, num e.k < num y.k := fun y hy => by
     rcases List.mem_cons.1 (List.mem_filter.1 hy).1 with rfl | hy
     ·
      exact hl
     ·
      exact Nat.lt_trans hl (h1.1 y hy)
    generalize (x :: l).filter p = q at *
    cases q with
    | nil => rfl
    | cons y q => exact (PZ (hall y (by simp))).symm
  ·
   rw [P0 hl, List.filter_cons, ih h1.2]
   cases hx : p x
   ·
    rw [List.filter_cons, hx]; rfl
   ·
    rw [List.filter_cons, hx]
    cases hp : p e
    ·
     rfl
    ·
     show x :: ins e _ = ins e (x :: _)
     rw [P0 hl]
theorem zF {m : List En} {e : En} {d : Nat} (hs : lD m) : bP (gJ m e) d (bH e.k d) = gJ (bP m d (bH e.k d)) e := by
 unfold gJ
 have := wR (e := e) (p := fun x => bH x.k d == bH e.k d) (hs.filter (p := fun x => decide (x.k ≠ e.k)))
 unfold bP
 show List.filter _ (ins e (eX m e.k)) = _
 rw [show eX m e.k = m.filter fun x => decide (x.k ≠ e.k) from rfl, this]
 rw [if_pos (by simp)]
 congr 1
 exact rX m e.k d (bH e.k d)
theorem wF {m : List En} {e : En} {d b : Nat} (hs : lD m) (hb : bH e.k d ≠ b) : bP (gJ m e) d b = bP m d b := by
 have := wR (e := e) (p := fun x => bH x.k d == b) (hs.filter (p := fun x => decide (x.k ≠ e.k)))
 unfold bP gJ
 rw [show eX m e.k = m.filter fun x => decide (x.k ≠ e.k) from rfl, this]
 rw [if_neg (by simpa using hb)]
 have h2 : bP (eX m e.k) d b = bP m d b := by rw [rX, tE hb]
 exact h2
def u4 (d : Nat) (m : List En) (k : List UInt8) : Prop := ∀ e ∈ m, d ≤ fB e.k k
theorem u4.part {d : Nat} {m : List En} {k : List UInt8} (h : u4 d m k) (hd : d < 256) : u4 (d + 1) (bP m d (bH k d)) k := fun e he =>
 (AD hd).2 ⟨h e (hZ.1 he).1, (hZ.1 he).2⟩
theorem u4.zero (m : List En) (k : List UInt8) : u4 0 m k := fun _ _ => Nat.zero_le _
theorem aAV {d : Nat} {m : List En} {e : En} (h : Pm d m) (hs : lD m) (he : e.k.length = 32) (hn : u4 d m e.k) : Pm d (gJ m e) where
 le := h.le
 kl := A7 h.kl he
 MK := (wE hs h.kl he).MK
 com := by
  have hp : ∀ x ∈ gJ m e, pre d x.k = pre d e.k := fun x hx => by
   rcases nA.1 hx with rfl | ⟨hx, _⟩
   ·
    rfl
   ·
    exact (A9 (h.kl x hx) he d h.le).2 (hn x hx)
  intro a ha b hb
  rw [hp a ha, hp b hb]
def FQ (k : List UInt8) (d : Nat) (n b : Sh) : Sh := if bH k d = 0 then jX n b else jX b n
theorem BM (k : List UInt8) (d : Nat) (n b : Sh) : (FQ k d n b).fU = n.fU + b.fU := by unfold FQ; split <;> rw [LV]; omega
def uL (k : List UInt8) (a b : Sh) : Nat → Nat → Sh
 | 0, c => FQ k c a b
 | f + 1, d => FQ k d (uL k a b f (d + 1)) .nil
theorem LI {a b : En} (ha : a.k.length = 32) (hb : b.k.length = 32) (hne : num a.k ≠ num b.k) : ∀ (f d : Nat), d + f = fB a.k b.k → ∀ m : List En, (m = [a, b] ∨ m = [b, a]) → uL a.k (.leaf a.k a.v) (.leaf b.k b.v) f d = grow d m := by
 have hc : fB a.k b.k < 256 := by
  rcases Nat.lt_or_ge (fB a.k b.k) 256 with h | h
  ·
   exact h
  ·
   exact absurd (congrArg num ((nJ ha hb).1 h)) hne
 have qG : ∀ d, d ≤ fB a.k b.k → ∀ m : List En, (m = [a, b] ∨ m = [b, a]) → Pm d m := fun d hd m hm => by
  have hpre := (A9 ha hb d (by omega)).2 hd
  refine ⟨by omega, ?_, ?_, ?_⟩
  ·
   rcases hm with rfl | rfl <;> (intro e he; simp at he; rcases he with rfl | rfl <;> assumption)
  ·
   rcases hm with rfl | rfl <;> simp <;> first | exact hne | exact hne.symm
  ·
   intro x hx y hy
   have h1 : ∀ z ∈ m, pre d z.k = pre d a.k := by rcases hm with rfl | rfl <;> (intro z hz; simp at hz; rcases hz with rfl | rfl <;> simp [hpre])
   rw [h1 x hx, h1 y hy]
 intro f
 induction f with
 | zero =>
  intro d hd m hm
  have V5 : d < 256 := by omega
  have V8 : bH a.k d ≠ bH b.k d := by rw [show d = fB a.k b.k by omega]; exact (oL a.k b.k).ne hc
  have h1 := eD a.k d
  have h2 := eD b.k d
  rw [jH d m V5 (by rcases hm with rfl | rfl <;> simp)]
  show FQ a.k d _ _ = _
  unfold FQ
  by_cases h0 : bH a.k d = 0
  ·
   have FT : bH b.k d = 1 := by omega
   have e0 : bP m d 0 = [a] := by rcases hm with rfl | rfl <;> simp [bP, h0, FT]
   have e1 : bP m d 1 = [b] := by rcases hm with rfl | rfl <;> simp [bP, h0, FT]
   rw [if_pos h0, e0, e1, dI, dI]; rfl
  ·
   have ha1 : bH a.k d = 1 := by omega
   have zT : bH b.k d = 0 := by omega
   have e0 : bP m d 0 = [b] := by rcases hm with rfl | rfl <;> simp [bP, ha1, zT]
   have e1 : bP m d 1 = [a] := by rcases hm with rfl | rfl <;> simp [bP, ha1, zT]
   rw [if_neg h0, e0, e1, dI, dI]; rfl
 | succ f ih =>
  intro d hd m hm
  have V5 : d < 256 := by omega
  have V8 : bH a.k d = bH b.k d := (oL a.k b.k).eq d (by omega)
  have h1 := eD a.k d
  show FQ a.k d _ _ = _
  have hp : bP m d (bH a.k d) = m := by rcases hm with rfl | rfl <;> simp [bP, V8]
  have hq : bP m d (1 - bH a.k d) = [] := by
   have : bH b.k d ≠ 1 - bH b.k d := by rw [← V8]; omega
   rcases hm with rfl | rfl <;> simp [bP, V8, this]
  have hl : 2 ≤ m.length := by rcases hm with rfl | rfl <;> simp
  rw [ih (d + 1) (by omega) m hm]
  rw [← oD (qG d (by omega) m hm) V5]
  unfold FQ
  by_cases h0 : bH a.k d = 0
  ·
   rw [if_pos h0]
   rw [h0] at hp hq
   rw [hp, show bP m d 1 = [] from hq, eG]
  ·
   have ha1 : bH a.k d = 1 := by omega
   rw [if_neg h0]
   rw [ha1] at hp hq
   rw [hp, show bP m d 0 = [] from hq, eG]
def rZ (k v : List UInt8) : Nat → Sh → Sh
 | _, .nil => .leaf k v
 | d, .leaf q u => if q = k then .leaf k v else uL q (.leaf q u) (.leaf k v) (fB q k - d) d
 | d, .inner l r => if bH k d = 0 then jX (rZ k v (d + 1) l) r else jX l (rZ k v (d + 1) r)
theorem LD (e : En) (he : e.k.length = 32) : ∀ (n d : Nat) (m : List En), 256 - d = n → Pm d m → lD m → u4 d m e.k → rZ e.k e.v d (grow d m) = grow d (gJ m e) := by
 intro n
 induction n with
 | zero =>
  intro d m hn hp hs FR
  match m, hp, hs, FR with
  | [], _, _, _ => rw [eG]; exact (dI d e).symm
  | [x], hp, hs, FR =>
   rw [dI]
   have hx := hp.kl x (by simp)
   have BU := FR x (by simp)
   have hd := hp.le
   have TZ : x.k = e.k := (nJ hx he).1 (by omega)
   show (if x.k = e.k then _ else _) = _
   rw [if_pos TZ]
   have : gJ [x] e = [e] := by simp [gJ, eX, TZ, ins]
   rw [this, dI]
  | a :: b :: m, hp, _, _ => have := hp.lt (by simp); omega
 | succ n ih =>
  intro d m hn hp hs FR
  match m, hp, hs, FR with
  | [], _, _, _ => rw [eG]; exact (dI d e).symm
  | [x], hp, hs, FR =>
   rw [dI]
   have hx := hp.kl x (by simp)
   have BU := FR x (by simp)
   show (if x.k = e.k then _ else _) = _
   by_cases TZ : x.k = e.k
   ·
    rw [if_pos TZ]
    have : gJ [x] e = [e] := by simp [gJ, eX, TZ, ins]
    rw [this, dI]
   ·
    rw [if_neg TZ]
    refine LI hx he (fun h => TZ (r9 _ _ (by rw [hx, he]) h)) _ d (by omega) _ ?_
    have : eX [x] e.k = [x] := by simp [eX, TZ]
    unfold gJ
    rw [this]
    unfold ins
    split
    ·
     exact .inr rfl
    ·
     exact .inl rfl
  | a :: b :: m, hp, hs, FR =>
   have hd := hp.lt (by simp)
   have hb := eD e.k d
   have aHs := aAV hp hs he FR
   rw [← oD aHs hd, jH d _ hd (by simp)]
   show (if bH e.k d = 0 then _ else _) = _
   by_cases h0 : bH e.k d = 0
   ·
    rw [if_pos h0]
    have hpt := zF (d := d) (e := e) hs
    have hot := wF (d := d) (b := 1) (e := e) hs (by omega)
    have hnp := FR.part hd
    rw [h0] at hpt hnp
    rw [hpt, hot, ih (d + 1) _ (by omega) (hp.part hd 0) hs.part hnp]
   ·
    have h1 : bH e.k d = 1 := by omega
    rw [if_neg h0]
    have hpt := zF (d := d) (e := e) hs
    have hot := wF (d := d) (b := 0) (e := e) hs (by omega)
    have hnp := FR.part hd
    rw [h1] at hpt hnp
    rw [hpt, hot, ih (d + 1) _ (by omega) (hp.part hd 1) hs.part hnp]
theorem wC {d : Nat} {m : List En} (e : En) (he : e.k.length = 32) (hp : Pm d m) (hs : lD m) (hn : u4 d m e.k) : rZ e.k e.v d (grow d m) = grow d (gJ m e) := LD e he _ d m rfl hp hs hn
theorem ON {d : Nat} {m : List En} {k : List UInt8} (h : Pm d m) : Pm d (eX m k) where
 le := h.le
 kl := OR h.kl
 MK := h.MK.filter _
 com := fun a ha b hb => h.com a (iO.1 ha).1 b (iO.1 hb).1
def TW (k : List UInt8) : Nat → List Sh → Sh → Sh
 | _, [], e => e
 | d, b :: bs, e => FQ k d (TW k (d + 1) bs e) b
theorem N1 (k : List UInt8) (d : Nat) (bs : List Sh) (e : Sh) (i : Nat) (h : i < bs.length) : TW k (d + i) (bs.drop i) e = FQ k (d + i) (TW k (d + (i + 1)) (bs.drop (i + 1)) e) bs[i] := by
 rw [List.drop_eq_getElem_cons h]
 rfl
theorem IV (k : List UInt8) (e : Sh) : ∀ (bs : List Sh) (d : Nat), (TW k d bs e).fU = e.fU + (bs.map Sh.fU).sum
 | [], _ => by simp [TW]
 | b :: bs, d => by show (FQ k d _ _).fU = _; rw [BM, IV k e bs]; simp; omega
def nM (T : Tr) (k : List UInt8) (d n : Nat) : List Tr := (List.range n).map fun j => (T.iF k d j).beside k (j + d)
theorem xS (T : Tr) (k : List UInt8) (d n : Nat) : (nM T k d n).length = n := by simp [nM]
theorem MT (T : Tr) (k : List UInt8) (d n : Nat) : nM T k d (n + 1) = nM T k d n ++ [(T.iF k d n).beside k (n + d)] := by simp [nM, List.range_succ]
theorem AK (T : Tr) (k : List UInt8) (d n : Nat) : nM T k d (n + 1) = T.beside k d :: nM (T.step k d) k (d + 1) n := by
 unfold nM
 rw [List.range_succ_eq_map, List.map_cons, List.map_map]
 congr 1
 ·
  show T.beside k (0 + d) = _; rw [Nat.zero_add]
 ·
  apply List.map_congr_left
  intro j _
  show (T.iF k d (j + 1)).beside k (j + 1 + d) = (Tr.iF k (d + 1) (T.step k d) j).beside k (j + (d + 1))
  rw [Tr.nO, show j + 1 + d = j + (d + 1) by omega]
theorem F7 (k v : List UInt8) {d : Nat} {T : Tr} (h : T.er.kind = 2) : rZ k v d T.er = FQ k d (rZ k v (d + 1) (T.step k d).er) (T.beside k d).er := by
 obtain ⟨a, l, r, rfl⟩ := Tr.zQ h
 have hb := eD k d
 show (if bH k d = 0 then jX (rZ k v (d + 1) l.er) r.er else jX l.er (rZ k v (d + 1) r.er)) = _
 unfold FQ Tr.step Tr.beside Tr.child
 by_cases h0 : bH k d = 0
 ·
  simp only [h0]; rfl
 ·
  have h1 : bH k d = 1 := by omega
  simp only [h1]; rfl
theorem U3 (k v : List UInt8) : ∀ (n d : Nat) (T : Tr), T.dp k d = n → rZ k v d T.er = TW k d ((nM T k d n).map Tr.er) (rZ k v (n + d) (T.iF k d n).er) := by
 intro n
 induction n with
 | zero => intro d T h; rw [Nat.zero_add]; rfl
 | succ n ih =>
  intro d T h
  have h2 : T.er.kind = 2 := by
   cases T <;> first | rfl | (simp [Tr.dp] at h)
  rw [Tr.p4 h2] at h
  rw [F7 k v h2, AK, ih (d + 1) (T.step k d) (by omega), Tr.nO, show n + (d + 1) = n + 1 + d by omega]
  rfl
theorem tH (k q v u : List UInt8) (k' : List UInt8) : ∀ (f d : Nat), (uL k' (.leaf k v) (.leaf q u) f d).fU = 2
 | 0, d => by show (FQ _ _ _ _).fU = 2; rw [BM]; rfl
 | f + 1, d => by show (FQ _ _ _ _).fU = 2; rw [BM, tH k q v u k' f (d + 1)]; rfl
theorem XK (k : List UInt8) : ∀ (n d : Nat) (T : Tr), T.dp k d = n → ((nM T k d n).map fun b => b.er.fU).sum + (T.iF k d n).er.fU = T.er.fU := by
 intro n
 induction n with
 | zero => intro d T _; simp [nM, Tr.iF]
 | succ n ih =>
  intro d T h
  have h2 : T.er.kind = 2 := by
   cases T <;> first | rfl | (simp [Tr.dp] at h)
  rw [Tr.p4 h2] at h
  rw [AK, List.map_cons, List.sum_cons, Tr.nO, Nat.add_assoc, ih (d + 1) _ (by omega)]
  obtain ⟨a, l, r, rfl⟩ := Tr.zQ h2
  have hb := eD k d
  unfold Tr.step Tr.beside Tr.child
  by_cases h0 : bH k d = 0
  ·
   simp only [h0]; show r.er.fU + l.er.fU = l.er.fU + r.er.fU; omega
  ·
   have h1 : bH k d = 1 := by omega
   simp only [h1]; rfl
theorem C2 (l : List Nat) : ∀ n, (l.drop n).sum ≤ l.sum
 | 0 => Nat.le_refl _
 | n + 1 => by
  cases l with
  | nil => simp
  | cons x l => rw [List.drop_succ_cons, List.sum_cons]; exact Nat.le_trans (C2 l n) (Nat.le_add_left _ _)
theorem K3 {E g : Sh} {bs : List Tr} {k : List UInt8} {d i : Nat} (hc : E.fU + ((bs.map Tr.er).map Sh.fU).sum ≤ 1000000000) (hg : g = TW k (d + (bs.length - i)) ((bs.map Tr.er).drop (bs.length - i)) E) (h : bs.length - 1 - i < bs.length) (hi : i < bs.length) :
  g.fU + (bs[bs.length - 1 - i]).er.fU ≤ 1000000000 := by
 rw [hg, IV, List.map_drop]
 have e : ((bs.map Tr.er).map Sh.fU).drop (bs.length - 1 - i) = (bs[bs.length - 1 - i]).er.fU :: ((bs.map Tr.er).map Sh.fU).drop (bs.length - i) := by
  rw [List.drop_eq_getElem_cons (by simpa using h), List.getElem_map, List.getElem_map, show bs.length - 1 - i + 1 = bs.length - i by omega]
 have := C2 ((bs.map Tr.er).map Sh.fU) (bs.length - 1 - i)
 rw [e, List.sum_cons] at this
 omega
theorem BA {X : Nat → Prop} {w : World} {bh bc : Nat} {bits c0 : Int} {n b : Tr} {k : List UInt8} {d : Nat} (hX : cU X w) (eT : aM w bc 213 ([.int .i64 c0])) (bT : aH (fun c_ => X c_ ∨ c_ = bc) (fF bh bc bits) w) (dA : aH (fun c_ => X c_ ∨ c_ = bc) (cQ bits n) w) (fN : aH (fun c_ => X c_ ∨ c_ = bc) (cQ bits b) w) (jO : aH (fun c_ => X c_ ∨ c_ = bc) (aX) w) (bR : 0 ≤ bits ∧ bits ≤ 256) (hk : k.length = 32) (hd : d < 256) (QQ : n.er.fU + b.er.fU ≤ 1000000000) :
  bF prog 136 [.pointer (some ⟨bh, 0, none⟩), n.ptr, b.ptr, .agg (kc k).toArray, .int .i64 (d : Int)].toArray w fun v w' => ∃ (T : Tr) (m : Int), v = T.ptr ∧ T.er = FQ k d n.er b.er ∧ Out (· = bc) w w' ∧ aM w' bc 213 [.int .i64 m] ∧ aH (fun c => X c ∨ c = bc) (cQ bits T) w' := by
 refine bF.aI (N := 23) func136 rfl rfl (by simp) ?_
 have H := ((((St.c7 (b := bc) (t := 213) (l := [.int .i64 c0]) hX eT).add (bX jO)).add (bX fN)).add (bX dA)).add (bX bT)
 refine WE.aA ?_
 refine WL.box (l := kc k) H rfl rfl rfl ?_
 intro b8 w1 H
 refine WL.as rfl rfl (WL.nil (WE.seq (WE.aA ?_)))
 refine WL.bC rfl cV rfl rfl (aM.aF (H.l 0 rfl) (aJ.all _) rfl) (cH cM (by simp only [aR, aU, aB]; omega)) ?_
 refine WL.mv rfl rfl ?_
 refine WL.call EL rfl (jJ (k := k) (d := d) H.aS  (by assumption) (by assumption)) ?_
 rintro _ w2 ⟨rfl, hO⟩
 replace H := H.out hO
 refine WL.pv (PV.eql rfl rfl rfl) rfl (WL.nil ?_)
 refine WE.cond rfl (fun q5 => ?_) (fun q5 => ?_)
 ·
  try simp only [bU] at q5
  have zT : bH k d = 0 := by omega
  refine WE.aA (WL.mv rfl rfl (WL.mv rfl rfl (WL.mv rfl rfl ?_)))
  refine WL.call EO rfl (x7 (l := n) (r := b) (bits := bits) H.aS (H.o 0 rfl) (by exact H.aK 0 rfl 0 rfl) (by exact H.aK 0 rfl 1 rfl) (by exact H.aK 0 rfl 2 rfl) (by exact H.aK 0 rfl 3 rfl) bR (by omega)) ?_
  rintro _ w3 ⟨aIN, aJf, rfl, aEh, hO, hB, hR⟩
  replace H := H.c9 0 rfl hO hB hR
  refine WL.as rfl rfl (WL.nil (WE.ret ⟨[_], _, .nil _, ⟨rfl, trivial⟩, ?_⟩))
  exact ⟨aIN, _, rfl, aEh.trans (if_pos zT).symm, H.cL, H.o 0 rfl, H.fL (H.bK 0 rfl)⟩
 ·
  try simp only [bU] at q5
  have zT : bH k d ≠ 0 := by omega
  refine WE.skip (WE.aA (WL.mv rfl rfl (WL.mv rfl rfl (WL.mv rfl rfl ?_))))
  refine WL.call EO rfl (x7 (l := b) (r := n) (bits := bits) H.aS (H.o 0 rfl) (by exact H.aK 0 rfl 0 rfl) (by exact H.aK 0 rfl 2 rfl) (by exact H.aK 0 rfl 1 rfl) (by exact H.aK 0 rfl 3 rfl) bR (by omega)) ?_
  rintro _ w4 ⟨aIL, aJe, rfl, aEf, hO, hB, hR⟩
  replace H := H.c9 0 rfl hO hB hR
  refine WL.as rfl rfl (WL.nil (WE.ret ⟨[_], _, .nil _, ⟨rfl, trivial⟩, ?_⟩))
  exact ⟨aIL, _, rfl, aEf.trans (if_neg zT).symm, H.cL, H.o 0 rfl, H.fL (H.bK 0 rfl)⟩
theorem aCc {X : Nat → Prop} {w : World} {bh bc aa ab : Nat} {bits c0 : Int} {q u k vv : List UInt8} {sa sb : Value} {d : Nat} (hX : cU X w) (eT : aM w bc 213 ([.int .i64 c0])) (bT : aH (fun c_ => X c_ ∨ c_ = bc) (fF bh bc bits) w) (dA : aH (fun c_ => X c_ ∨ c_ = bc) (cQ bits (Tr.leaf aa q u sa)) w) (fN : aH (fun c_ => X c_ ∨ c_ = bc) (cQ bits (Tr.leaf ab k vv sb)) w) (jO : aH (fun c_ => X c_ ∨ c_ = bc) (aX) w) (bR : 0 ≤ bits ∧ bits ≤ 256) (hq : q.length = 32) (hk : k.length = 32) (hdc : d ≤ fB q k) (aHP : fB q k < 256) :
  bF prog 138 [.pointer (some ⟨bh, 0, none⟩), (Tr.leaf aa q u sa).ptr, (Tr.leaf ab k vv sb).ptr, .int .i64 (d : Int)].toArray w fun v w' => ∃ (T : Tr) (m : Int), v = T.ptr ∧ T.er = (uL q (.leaf q u) (.leaf k vv) (fB q k - d) d) ∧ Out (· = bc) w w' ∧ aM w' bc 213 [.int .i64 m] ∧ aH (fun c => X c ∨ c = bc) (cQ bits T) w' := by
 refine bF.aI (N := 40) func138 rfl rfl (by simp) ?_
 have H := ((((St.c7 (b := bc) (t := 213) (l := [.int .i64 c0]) hX eT).add (bX jO)).add (bX fN)).add (bX dA)).add (bX bT)
 have hvu := fZ bits u
 have hvv := fZ bits vv
 refine WE.aA (WL.as rfl rfl (WL.nil (WE.aA (WL.mv rfl rfl ?_))))
 refine WL.call EM rfl (show bF _ _ _ _ (fun v w' => v = .agg (kc q ++ kc (mS bits u)).toArray ∧ Out Nil _ w') from mE (T := (Tr.leaf aa q u sa)) (bits := bits) H.aS (H.bK 1 rfl)) ?_
 rintro _ w1 ⟨rfl, hO⟩
 replace H := H.out hO
 refine WL.pv (PV.k4 rfl kE rfl (dS.agg cV (cH cM (by simp only [aR, aU, aB]; omega)) (aJ.l (aJ.all _)))) rfl ?_
 refine WL.alloc H rfl rM rfl ?_
 intro b9 w2 H
 refine WL.aT H 0 rfl rfl rfl (new := kc q) rfl (cH cM (by simp only [aR, aU, aB]; omega)) (bJ _) (Laid.at (Laid.all (by simp only [aR, aU, aB]; omega)) rfl) rfl ?_
 intro w3 H
 refine WL.nil ?_
 refine WE.bG (.take 0 (.take 1 (.aG 2 (.take 3 (.aG 4 (.take 5 .done)))))) mixed (by kernel_rfl) ?_
 replace H := H.out (Out.drew _)
 refine WP.dF rfl rfl rfl cV rfl (aM.aF (H.l 0 rfl) (aJ.all _) rfl) (cH cM (by simp only [aR, aU, aB]; omega)) ?_
 refine WP.mv rfl rfl rfl (WP.aG rfl ?_)
 refine WL.call EM rfl (show bF _ _ _ _ (fun v_ w' => v_ = .agg (kc k ++ kc (mS bits vv)).toArray ∧ Out Nil _ w') from mE (T := (Tr.leaf ab k vv sb)) (bits := bits) H.aS (H.bK 2 rfl)) ?_
 rintro _ w4 ⟨rfl, hO⟩
 replace H := H.out hO
 refine WL.nil ⟨(fa (rk hO) c5), ?_⟩
 refine WP.aC rfl rfl (PV.k4 rfl kE rfl (dS.agg cV (cH cM (by simp only [aR, aU, aB]; omega)) (aJ.l (aJ.all _)))) ?_
 refine WP.aG rfl ?_
 refine WL.call RK rfl (yA (a := q) (b := k) H.aS  (by assumption) (by assumption)) ?_
 rintro _ w5 ⟨rfl, hO⟩
 replace H := H.out hO
 refine WL.nil ⟨(fa (nw 4 0) c5), ?_⟩
 refine WP.as rfl rfl rfl (WP.done (WE.aA (WL.mv rfl rfl (WL.mv rfl rfl (WL.mv rfl rfl ?_)))))
 refine WL.bC rfl cV rfl rfl (aM.aF (H.l 0 rfl) (aJ.all _) rfl) (cH cM (by simp only [aR, aU, aB]; omega)) ?_
 refine WL.mv rfl rfl ?_
 refine WL.call RN rfl (BA (n := (Tr.leaf aa q u sa)) (b := (Tr.leaf ab k vv sb)) (k := q) (d := fB q k) (bits := bits) H.aS (H.o 0 rfl) (by exact H.aK 0 rfl 0 rfl) (by exact H.aK 0 rfl 1 rfl) (by exact H.aK 0 rfl 2 rfl) (by exact H.aK 0 rfl 3 rfl) bR hq aHP (by show 1 + 1 ≤ _; omega)) ?_
 rintro _ w6 ⟨aIK, aHd, rfl, aEe, hO, hB, hR⟩
 replace H := H.c9 0 rfl hO hB hR
 refine WL.as rfl rfl (WL.nil (WE.seq (WE.aA (WL.mv rfl rfl ?_))))
 refine WL.pv (PV.eq (v' := .int .i64 (((fB q k - 0 : Nat) : Int) - 1)) (PV.iS rfl rfl rfl (by omega) (by omega)) rfl) rfl ?_
 refine WL.as rfl rfl (WL.nil (WE.block ?_))
 refine WE.loop (α := Nat × Tr × Int) (rg [(11, 2), (29, 10)]) (fun g => [(11, g.2.1.ptr), (12, .int .i64 (((fB q k - g.1 : Nat) : Int) - 1))]) (fun g wl => g.1 ≤ fB q k - d ∧ g.2.1.er = (uL q (.leaf q u) (.leaf k vv) g.1 (fB q k - g.1)) ∧ St X w wl [aN.blk bc 213 [.int .i64 g.2.2]] [aN.blk b9 24 (kc q)] [cQ bits g.2.1, fF bh bc bits, cQ bits (Tr.leaf aa q u sa), cQ bits (Tr.leaf ab k vv sb), aX]) (fun g => fB q k - d - g.1) (0, aIK, aHd) ⟨rfl, rfl, trivial⟩ ⟨Nat.zero_le _, aEe, H⟩ ?_
 intro ⟨f, Tf, c⟩ γ0 w7 hI
 try dsimp only at hI
 obtain ⟨hf, hTf, H⟩ := hI
 refine WE.seq (WE.aA (WL.mv rfl rfl (WL.mv rfl rfl (WL.pv (PV.geq rfl rfl rfl) rfl (WL.nil ?_)))))
 refine WE.cond rfl (fun kC => ?_) (fun kC => ?_)
 ·
  try simp only [bU] at kC
  have hlt : f < fB q k - d := by omega
  have QN : ((fB q k - f : Nat) : Int) - 1 = ((fB q k - f - 1 : Nat) : Int) := by omega
  rw [QN]
  refine WE.skip (WE.seq (WE.block (WE.eH (WL.mv rfl rfl (WL.mv rfl rfl ?_)))))
  refine WL.bC rfl cV rfl rfl (aM.aF (H.l 0 rfl) (aJ.all _) rfl) (cH cM (by simp only [aR, aU, aB]; omega)) ?_
  refine WL.mv rfl rfl ?_
  refine WL.call RN rfl (BA (n := Tf) (b := .nil) (k := q) (d := fB q k - f - 1) (bits := bits) H.aS (H.o 0 rfl) (by exact H.aK 0 rfl 1 rfl) (by exact H.aK 0 rfl 0 rfl) (by exact fun _ _ => trivial) (by exact H.aK 0 rfl 4 rfl) bR hq (by omega) (by rw [hTf, tH]; show 2 + 0 ≤ _; omega)) ?_
  rintro _ w8 ⟨aIJ, aHc, rfl, aEb, hO, hB, hR⟩
  replace H := H.c9 0 rfl hO hB hR
  refine WL.as rfl rfl (WL.nil (WE.eH (WL.mv rfl rfl ?_)))
  refine WL.pv (PV.eq (v' := .int .i64 (((fB q k - (f + 1) : Nat) : Int) - 1)) (PV.iS rfl rfl rfl (by omega) (by omega)) (by congr 1)) rfl ?_
  refine WL.as rfl rfl (WL.nil ?_)
  exact ⟨(f + 1, aIJ, aHc), (by repeat (first | with_reducible exact bQ.refl _ _ | refine bQ.dG rfl ?_ | refine bQ.cC rfl ?_ | refine bQ.cB rfl ?_)), ⟨rfl, rfl, trivial⟩, rfl, ⟨by dsimp only; omega, by dsimp only; rw [aEb, hTf, show fB q k - f = fB q k - f - 1 + 1 by omega]; exact congrArg (fun z => uL q _ _ (f + 1) z) (by omega), H.sS [0, 2, 3, 4, 5]⟩, (by dsimp only; omega)⟩
 ·
  try simp only [bU] at kC
  have hf_ : f = fB q k - d := by omega
  refine WE.exit (WE.aA (WL.mv rfl rfl (WL.as rfl rfl (WL.nil (WE.ret ⟨[_], _, .nil _, ⟨rfl, trivial⟩, ?_⟩)))))
  refine ⟨Tf, c, rfl, ?_, H.cL, H.o 0 rfl, H.fL (H.bK 0 rfl)⟩
  rw [hTf, hf_]; exact congrArg (uL q _ _ (fB q k - d)) (by omega)
def aGb (bs : List Tr) (j : Nat) (xs : List Value) (_ : World) : Prop := ∃ h : bs.length - 1 - j < bs.length, xs = [.int .i64 ((bs.length - 1 - j : Nat) : Int), (bs[bs.length - 1 - j]).ptr]
def aCr (bits : Int) (bs : List Tr) (w : World) : Prop := ∀ b ∈ bs, cQ bits b w
theorem AY {w : World} {base n : Nat} {e : TypeId} {v : Value} {xs : List Value} (h : w.ownsRow base e 1 v n xs) : jW v xs w := by
 have hl := h.1
 unfold jW
 have := cR.eM h
 rw [show n = xs.length by omega] at this
 exact this
theorem aBV {bits : Int} {T : Tr} {k : List UInt8} {d n : Nat} {w : World} (h : cQ bits T w) : aCr bits (nM T k d n) w := fun b hb => by
 obtain ⟨j, _, rfl⟩ := List.mem_map.1 hb
 exact (h.iF j).beside
theorem jW.get {w : World} {s : Value} {bs : List Tr} (h : jW s (bs.map Tr.ptr) w) (i : Nat) (hi : i < bs.length) : cX w (jF s (i * 1)) [(bs[i]).ptr] := by
 have := jW.rd h i (by simpa using hi)
 rwa [List.getElem_map] at this
theorem IG {X : Nat → Prop} {w : World} {s : Value} {cs : List Value} (hX : cU X w) (bT : aH X (jW s cs) w) :
  bF prog 135 [s].toArray w fun r w' => ∃ b1, r = .func (.func 171) [].toArray [.pointer (some ⟨b1, 0, none⟩)].toArray ∧ Out Nil w w' ∧ aH X (fun w => cX w ⟨b1, 0, none⟩ [s]) w' := by
 refine bF.aI (N := 4) func135 rfl rfl (by simp) ?_
 have H := (St.begin hX).add (cE bT)
 refine WE.aA ?_
 refine WL.box (l := [s]) H rfl (cR.cells (H.p 0 rfl)) rfl ?_
 intro b1 w1 H
 refine WL.as rfl rfl (WL.nil (WE.aA (WL.pv (PV.makeFunc rfl) rfl (WL.as rfl rfl (WL.nil (WE.ret ⟨[_], _, .nil _, ⟨rfl, trivial⟩, ?_⟩))))))
 replace H := H.freeze (i := 0) rfl
 exact ⟨_, rfl, H.aL, H.gQ ((H.bK 0 rfl).imp fun _ h => h.rd)⟩
theorem MV {C : Nat → Prop} {w : World} {b1 : Nat} {s : Value} {bs : List Tr} (hC : ∀ b, C b → b < w.heap.size) (bT : aH C (fun w => cX w ⟨b1, 0, none⟩ [s]) w) (dA : aH C (jW s (bs.map Tr.ptr)) w) (hlen : bs.length ≤ 1000000) : XZ prog 171 [] [.pointer (some ⟨b1, 0, none⟩)] (bs.length) (aGb bs) Nil C w := by
 intro f J Jx hst pL aBd mG hf
 show bF prog 171 ([f, .pointer (some ⟨b1, 0, none⟩)] : List Value).toArray w _
 refine bF.aI (N := 19) func171 rfl rfl (by simp) ?_
 have H := ((St.begin (X := C) hC).add (cE dA)).add (cE bT)
 have yS : (bs.map Tr.ptr).length = bs.length := List.length_map ..
 refine WE.aA (WL.aY rfl MY rfl rfl (H.p 0 rfl) (WL.pv (PV.dO (H.p 1 rfl : jW s (bs.map Tr.ptr) _) OA rfl) rfl ?_))
 refine WL.pv (PV.eq (v' := .int .i64 (((bs.length - 0 : Nat) : Int) - 1)) (PV.iS rfl rfl rfl (by omega) (by omega)) (by rw [yS]; rfl)) rfl ?_
 refine WL.as rfl rfl (WL.nil (WE.block ?_))
 refine WE.loop (α := Nat) (rg [(3, 1), (7, 12)]) (fun j => [(3, .int .i64 (((bs.length - j : Nat) : Int) - 1))]) (fun j wl => j ≤ bs.length ∧ J Nil j wl ∧ St C wl wl [] [] [fun w => cX w ⟨b1, 0, none⟩ [s], jW s (bs.map Tr.ptr)]) (fun j => bs.length - j) 0 ⟨rfl, trivial⟩ ⟨Nat.zero_le _, hst Nil w (Out.refl _ _) (fun _ h => h.elim) (fun _ h => h), H⟩ ?_
 intro j γ0 w1 hI
 try dsimp only at hI
 obtain ⟨hj, hJ, H⟩ := hI
 have BO : ∃ FY, FY = w1 := ⟨_, rfl⟩
 obtain ⟨FY, BO⟩ := BO
 rw [← BO] at hJ H ⊢
 clear BO
 refine WE.seq (WE.aA (WL.mv rfl rfl (WL.pv (PV.geq rfl rfl rfl) rfl (WL.nil ?_))))
 refine WE.cond rfl (fun mP => ?_) (fun mP => ?_)
 ·
  try simp only [bU] at mP
  have hlt : j < bs.length := by omega
  have QN : ((bs.length - j : Nat) : Int) - 1 = ((bs.length - 1 - j : Nat) : Int) := by omega
  rw [QN]
  refine WE.skip (WE.seq (WE.block (WE.aA (WL.mv rfl rfl (WL.mv rfl rfl (WL.aY rfl MY rfl rfl (H.p 0 rfl) (WL.mv rfl rfl ?_)))))))
  refine WL.pv (PV.eO rfl (H.p 1 rfl : jW s (bs.map Tr.ptr) _) OA lG rfl rfl (by omega) (by omega)) rfl (WL.aY rfl gX rfl rfl (jW.get (H.p 1 rfl) (bs.length - 1 - j) (by omega)) ?_)
  refine WL.iK rfl rfl (mG Nil j _ FY _ (by omega) hJ H.aL (aH.pure ⟨by omega, rfl⟩)) ?_
  rintro _ w2 ⟨hk, ⟨rfl, hJ⟩ | ⟨rfl, hJ⟩⟩
  ·
   replace H := St.HQ (Ps := [fun w => cX w ⟨b1, 0, none⟩ [s], jW s (bs.map Tr.ptr)]) hC hk (fun _ h => h.elim) (by intro p hp; simp at hp; rcases hp with rfl | rfl <;> assumption)
   refine WL.pv (PV.not rfl rfl) rfl (WL.nil (WE.iJ rfl (WE.skip (WE.eH (WL.mv rfl rfl ?_)))))
   refine WL.pv (PV.eq (v' := .int .i64 (((bs.length - (j + 1) : Nat) : Int) - 1)) (PV.iS rfl rfl rfl (by omega) (by omega)) (by congr 1; omega)) rfl ?_
   refine WL.as rfl rfl (WL.nil ?_)
   exact ⟨j + 1, (by repeat (first | with_reducible exact bQ.refl _ _ | refine bQ.dG rfl ?_ | refine bQ.cC rfl ?_ | refine bQ.cB rfl ?_)), ⟨rfl, trivial⟩, rfl, ⟨by omega, hJ, H⟩, (by omega)⟩
  ·
   refine WL.pv (PV.not rfl rfl) rfl (WL.nil (WE.kG rfl (WE.ret ?_)))
   refine ⟨[], _, .nil _, trivial, ?_⟩
   exact ⟨rfl, Nil, .inr hJ⟩
 ·
  try simp only [bU] at mP
  have hj_ : j = bs.length := by omega
  refine WE.exit ?_
  refine ⟨[], _, .nil _, trivial, ?_⟩
  subst hj_
  exact ⟨rfl, Nil, .inl (pL _ _ _ _ hJ H.aL)⟩
theorem aAD {X : Nat → Prop} {w : World} {bh bc b9 b4 b6 b7 : Nat} {bits c0 : Int} {E : Tr} {bs : List Tr} {k : List UInt8} {s sl : Value} {d : Nat} (hX : cU X w) (eT : aM w bc 213 ([.int .i64 c0])) (bT : aH (fun c_ => X c_ ∨ c_ = bc) (fF bh bc bits) w) (dA : aH (fun c_ => X c_ ∨ c_ = bc) (cQ bits E) w) (fN : aH (fun c_ => X c_ ∨ c_ = bc) (aCr bits bs) w) (jO : aH (fun c_ => X c_ ∨ c_ = bc) (jW sl (bs.map Tr.ptr)) w) (nE : aH (fun c_ => X c_ ∨ c_ = bc) (fun w => cX w ⟨b9, 0, none⟩ [sl]) w) (rJ : aH (fun c_ => X c_ ∨ c_ = bc) (fun w => cX w ⟨b4, 0, none⟩ [.pointer (some ⟨bh, 0, none⟩)]) w) (CM : aH (fun c_ => X c_ ∨ c_ = bc) (fun w => cX w ⟨b6, 0, none⟩ (kc k ++ [s])) w) (hf7 : aH (fun c_ => X c_ ∨ c_ = bc) (fun w => cX w ⟨b7, 0, none⟩ [.int .i64 (d : Int)]) w) (hf8 : aH (fun c_ => X c_ ∨ c_ = bc) (aX) w) (bR : 0 ≤ bits ∧ bits ≤ 256) (hk : k.length = 32) (hd : d + bs.length ≤ 256) (QQ : E.er.fU + ((bs.map Tr.er).map Sh.fU).sum ≤ 1000000000) :
  bF prog 134 [E.ptr, .pointer (some ⟨b9, 0, none⟩), .pointer (some ⟨b4, 0, none⟩), .pointer (some ⟨b6, 0, none⟩), .pointer (some ⟨b7, 0, none⟩)].toArray w fun v w' => ∃ (T : Tr) (m : Int), v = T.ptr ∧ T.er = TW k d (bs.map Tr.er) E.er ∧ Out (· = bc) w w' ∧ aM w' bc 213 [.int .i64 m] ∧ aH (fun c => X c ∨ c = bc) (cQ bits T) w' := by
 refine bF.aI (N := 23) func134 rfl rfl (by simp) ?_
 have H := (((((((((St.c7 (b := bc) (t := 213) (l := [.int .i64 c0]) hX eT).add (bX hf8)).add (bX hf7)).add (bX CM)).add (bX rJ)).add (bX nE)).add (bX jO)).add (bX fN)).add (bX dA)).add (bX bT)
 refine WE.aA ?_
 refine WL.box (l := [E.ptr]) H rfl rfl rfl ?_
 intro b5 w1 H
 refine WL.as rfl rfl (WL.nil (WE.seq (WE.aA (WL.aY rfl MY rfl rfl (H.p 4 rfl) ?_))))
 refine WL.call aFz rfl (IG (s := sl) (cs := bs.map Tr.ptr) H.aS (by exact H.bK 3 rfl) ) ?_
 rintro _ w2 ⟨aGa, rfl, hO, hR⟩
 replace H := (H.out hO).add hR
 refine WL.nil (WE.block ?_)
 replace H := H.sS [0, 1, 2, 3, 4, 5, 6, 7, 8, 9]
 replace H := H.A8
 refine WE.A6 (α := Tr × Int) (fun i g => g.1.er = TW k (d + (bs.length - i)) ((bs.map Tr.er).drop (bs.length - i)) E.er) (fun i g => [aN.blk bc 213 [.int .i64 g.2]]) (fun i g => [aN.blk b5 39 [g.1.ptr]]) (fun i g => [fun w => cX w ⟨aGa, 0, none⟩ [sl], fF bh bc bits, cQ bits g.1, aCr bits bs, jW sl (bs.map Tr.ptr), fun w => cX w ⟨b9, 0, none⟩ [sl], fun w => cX w ⟨b4, 0, none⟩ [.pointer (some ⟨bh, 0, none⟩)], fun w => cX w ⟨b6, 0, none⟩ (kc k ++ [s]), fun w => cX w ⟨b7, 0, none⟩ [.int .i64 (d : Int)], aX]) (fun _ _ => False) (fun _ _ => []) (fun _ _ => []) (fun _ _ => []) (E, c0) H rfl aFh (fun W0 hO => MV (bs := bs) (H.XE hO) (H.xM hO 0 rfl) (H.xM hO 4 rfl) (by omega)) (by rintro _ _ _ ⟨_, rfl⟩; rfl) ⟨by show E.er = _; rw [Nat.sub_zero, List.drop_eq_nil_of_le (by simp)]; rfl, rfl, rfl, rfl⟩ ?_ ?_ ?_
 ·
  intro i g xs_ l_ d_ o_ T_ sc_ w3 iT zU Q2
  obtain ⟨L0, rfl⟩ := Q2
  have hud := N1 k d (bs.map Tr.er) E.er (bs.length - 1 - i) (by simpa using L0)
  rw [List.getElem_map] at hud
  have L9 : g.1.er.fU + (bs[bs.length - 1 - i]).er.fU ≤ 1000000000 := K3 QQ zU L0 iT
  refine WE.aA (WL.as rfl rfl (WL.nil (WE.eH (WL.as rfl rfl (WL.nil ?_)))))
  refine ⟨rfl, rfl, rfl, ?_⟩
  intro w4 H
  refine WE.block (WE.eH (WL.aY rfl u3 rfl rfl (H.p 7 rfl) (WL.aY rfl gX rfl rfl (aM.aF (H.l 0 rfl) (aJ.all _) rfl) (WL.mv rfl rfl (WL.pv (PV.fieldAddr rfl gR rfl) rfl ?_)))))
  refine WL.bC rfl cV rfl rfl (cX.aF (H.p 8 rfl) (aJ.l (aJ.all (kc k))) rfl) (cH cM (by simp only [aR, aU, aB]; omega)) ?_
  refine WL.aY rfl oZ rfl rfl (H.p 9 rfl) (WL.mv rfl rfl ?_)
  refine WL.pv (PV.eq (v' := .int .i64 ((d + (bs.length - 1 - i) : Nat) : Int)) (PV.bY rfl rfl rfl (by omega) (by omega)) rfl) rfl ?_
  refine WL.call RN rfl (BA (n := g.1) (b := bs[bs.length - 1 - i]) (k := k) (d := d + (bs.length - 1 - i)) (bits := bits) H.aS (H.o 0 rfl) (by exact H.aK 0 rfl 2 rfl) (by exact H.aK 0 rfl 3 rfl) (by exact (H.aK 0 rfl 4 rfl).imp fun _ h => h _ (List.getElem_mem L0)) (by exact H.aK 0 rfl 10 rfl) bR hk (by omega) L9) ?_
  rintro _ w5 ⟨aIM, aHe, rfl, aEg, hO, hB, hR⟩
  replace H := H.c9 0 rfl hO hB hR
  refine WL.aT H 0 rfl rfl rfl (new := _) rfl (by exact lG) (bE _ rfl) (Laid.at (Laid.all (by simp only [aR, aU, aB])) rfl) rfl ?_
  intro w6 H
  refine WL.nil ?_
  replace H := H.sS [2, 3, 0, 5, 6, 7, 8, 9, 10, 11, 12]
  exact ⟨(aIM, aHe), (by dsimp only; rw [aEg, zU, show bs.length - (i + 1) = bs.length - 1 - i by omega, hud, show bs.length - i = bs.length - 1 - i + 1 by omega]), H⟩
 ·
  intro g W7 w7 zU H
  refine WE.aA (WL.aY rfl gX rfl rfl (aM.aF (H.l 1 rfl) (aJ.all _) rfl) (WL.as rfl rfl (WL.nil (WE.ret ?_))))
  (obtain ⟨w8, wW, H⟩ := H.vS 0 rfl)
  refine ⟨[_], _, (wW _ (.nil _)), ⟨rfl, trivial⟩, ?_⟩
  refine ⟨g.1, g.2, rfl, ?_, H.cL, H.o 0 rfl, H.fL (H.bK 2 rfl)⟩
  rw [zU, Nat.sub_self]; rfl
 ·
  intro e_ g W7 w9 QN zU H
  exact zU.elim
theorem z7 (F : Tr) (h : F.er.kind ≠ 2) : F = .nil ∨ ∃ a q u s, F = .leaf a q u s := by
 cases F with
 | nil => exact .inl rfl
 | leaf a q u s => exact .inr ⟨a, q, u, s, rfl⟩
 | inner => exact absurd rfl h
theorem CA {k : List UInt8} {d : Nat} {T : Tr} (e : Sh) (hc : T.er.fU ≤ 100000000) (he : e.fU ≤ 2) : e.fU + (((nM T k d (T.dp k d)).map Tr.er).map Sh.fU).sum ≤ 1000000000 := by
 have := XK k _ d T rfl
 rw [List.map_map]
 show e.fU + ((nM T k d (T.dp k d)).map fun b => b.er.fU).sum ≤ _
 omega
theorem wD {k v : List UInt8} {d : Nat} {T : Tr} {e : Sh} (he : rZ k v (T.dp k d + d) (T.iF k d (T.dp k d)).er = e) : TW k d ((nM T k d (T.dp k d)).map Tr.er) e = rZ k v d T.er := by
 rw [U3 k v _ d T rfl, he]
theorem PN {T : Tr} {m : List En} {k q u : List UInt8} {d a : Nat} {s : Value} (hT : T.er = grow d m) (hp : Pm d m) (hn : u4 d m k) (hF : T.iF k d (T.dp k d) = .leaf a q u s) : T.dp k d + d ≤ fB q k := by
 have h : ∀ i, i ≤ T.dp k d → u4 (i + d) (CD k d m i) k := by
  intro i
  induction i with
  | zero => intro _; rw [Nat.zero_add]; exact hn
  | succ i ih =>
   intro hi
   have hl := SH (k := k) hT hp (i := i) (by omega)
   have := (ih (by omega)).part hl.2
   rwa [show i + d + 1 = i + 1 + d by omega] at this
 have h1 := h _ (Nat.le_refl _)
 have h2 := AM (k := k) hT hp _ (Nat.le_refl _)
 have hl := CB (k := k) hT hp
 rw [hF] at h2
 match hm : CD k d m (T.dp k d), hl with
 | [], _ => rw [hm, eG] at h2; cases h2.1
 | [e], _ =>
  rw [hm, dI] at h2
  have e1 : (Sh.leaf q u) = Sh.leaf e.k e.v := h2.1
  injection e1 with e1 _
  rw [hm] at h1
  rw [e1]
  exact h1 e (by simp)
 | _ :: _ :: _, h => simp at h
theorem U4 {X : Nat → Prop} {w : World} {bh bc : Nat} {bits c0 : Int} {T : Tr} {M : List En} {k lv : List UInt8} {s : Value} {d : Nat} (hX : cU X w) (eT : aM w bc 213 ([.int .i64 c0])) (bT : aH (fun c_ => X c_ ∨ c_ = bc) (fF bh bc bits) w) (dA : aH (fun c_ => X c_ ∨ c_ = bc) (cQ bits T) w) (fN : aH (fun c_ => X c_ ∨ c_ = bc) (aX) w) (bR : 0 ≤ bits ∧ bits ≤ 256) (hk : k.length = 32) (wV : lv.length ≤ 1000000) (hw : aH (fun c => c = bc) (bI s lv) w) (hT : T.er = grow d M) (qG : Pm d M) (hs : lD M) (FR : u4 d M k) (yS : M.length ≤ 100000000) :
  bF prog 90 [.pointer (some ⟨bh, 0, none⟩), T.ptr, .agg (kc k ++ [s]).toArray, .int .i64 (d : Int)].toArray w fun v w' => ∃ (T : Tr) (m : Int), v = T.ptr ∧ T.er = grow d (gJ M ⟨k, s, lv⟩) ∧ Out (· = bc) w w' ∧ aM w' bc 213 [.int .i64 m] ∧ aH (fun c => X c ∨ c = bc) (cQ bits T) w' := by
 refine bF.aI (N := 59) func90 rfl rfl (by simp) ?_
 have H := (((St.c7 (b := bc) (t := 213) (l := [.int .i64 c0]) hX eT).add (bX fN)).add (bX dA)).add (bX bT)
 have hs1 : s.oneCell' = true := cR.fH hw.here
 have hfit := xC qG
 rw [← hT] at hfit
 have yT := Tr.tT (k := k) _ d T rfl hfit qG.le
 have L9 : T.er.fU = M.length := by rw [hT]; exact qG.fU
 have hFk := Tr.p7 (k := k) _ d T rfl
 refine WE.aA ?_
 refine WL.box (l := [.pointer (some ⟨bh, 0, none⟩)]) H rfl (rfl) rfl ?_
 intro b4 w1 H
 refine WL.box (l := kc k ++ [s]) H rfl (rfl) rfl ?_
 intro b6 w2 H
 refine WL.box (l := [.int .i64 (d : Int)]) H rfl (rfl) rfl ?_
 intro b7 w3 H
 refine WL.as rfl rfl (WL.nil (WE.aA ?_))
 refine WL.alloc H rfl aCt rfl ?_
 intro b9 w4 H
 replace H := H.lK 39 1
 refine WL.nil (WE.aA (WL.aY rfl oZ rfl rfl (aM.aF (H.l 2 rfl) (aJ.all _) rfl) (WL.as rfl rfl (WL.nil (WE.seq (WE.block ?_))))))
 refine WE.loop (α := Nat × Value) (rg [(1, 1), (10, 2), (15, 19)]) (fun p => [(1, (T.iF k d p.1).ptr), (10, .int .i64 ((p.1 + d : Nat) : Int))]) (fun p wl => p.1 ≤ T.dp k d ∧ St X w wl [aN.blk bc 213 [.int .i64 c0]] [aN.iA w.heap.size p.2 39 1 p.1 ((nM T k d p.1).map Tr.ptr), aN.blk b9 86 [p.2], aN.blk b7 3 [.int .i64 (d : Int)], aN.blk b6 111 (kc k ++ [s]), aN.blk b4 37 [.pointer (some ⟨bh, 0, none⟩)]] [fF bh bc bits, cQ bits T, aX]) (fun p => T.dp k d - p.1) (0, .slice none 0 0) ⟨rfl, by show Value.int .i64 _ = Value.int .i64 _; rw [Nat.zero_add], trivial⟩ ⟨Nat.zero_le _, H⟩ ?_
 intro ⟨i, q⟩ γ0 w5 hI
 try dsimp only at hI
 obtain ⟨hi, H⟩ := hI
 refine WE.seq (WE.aA (WL.mv rfl rfl ?_))
 refine WL.call mK rfl (e9 (T := T.iF k d i) (bits := bits) H.aS (by exact (H.bK 1 rfl).imp fun _ h => h.iF i)) ?_
 rintro _ w6 ⟨rfl, hO⟩
 replace H := H.out hO
 refine WL.pv (PV.eql rfl rfl rfl) rfl (WL.nil ?_)
 refine WE.cond rfl (fun iB => ?_) (fun iB => ?_)
 ·
  try simp only [bU] at iB
  have hlt : i < T.dp k d := by rcases Nat.lt_or_ge i (T.dp k d) with h | h; exact h; exact absurd (show (T.iF k d i).er.kind = 2 by exact iB) (by rw [show i = T.dp k d by omega]; exact hFk)
  have hb2 := eD k (i + d)
  refine WE.skip (WE.seq (WE.block (WE.aA (WL.pv (PV.fieldAddr rfl gR rfl) rfl ?_))))
  refine WL.bC rfl cV rfl rfl (aM.aF (H.l 3 rfl) (aJ.l (aJ.all _)) rfl) (cH cM (by simp only [aR, aU, aB]; omega)) ?_
  refine WL.mv rfl rfl ?_
  refine WL.call EL rfl (jJ (k := k) (d := i + d) H.aS  (by assumption) (by omega)) ?_
  rintro _ w7 ⟨rfl, hO⟩
  replace H := H.out hO
  refine WL.as rfl rfl (WL.nil ?_)
  refine WE.bG (.take 0 (.take 1 (.take 2 (.take 3 (.aG 4 (.aG 5 (.aG 6 (.aG 7 .done)))))))) mixed (by kernel_rfl) ?_
  replace H := H.out (Out.drew _)
  refine WP.aQ rfl rfl (RV.aZ rfl MY rfl) (aM.aF (H.l 1 rfl) (aJ.all _) rfl) (WP.mv rfl rfl rfl (WP.mv rfl rfl rfl ?_))
  refine WP.aC rfl rfl (PV.eq (v' := .int .i64 ((1 - bH k (i + d) : Nat) : Int)) (PV.iS rfl rfl rfl (by omega) (by omega)) (by congr 1; omega)) ?_
  refine WP.aG rfl ?_
  refine WL.call MG rfl (p8 (T := T.iF k d i) (bits := bits) (b := 1 - bH k (i + d)) H.aS (by exact (H.bK 1 rfl).imp fun _ h => h.iF i)) ?_
  rintro _ w8 ⟨rfl, hO⟩
  replace H := H.out hO
  refine WL.nil ⟨(fa (rk hO) c5), ?_⟩
  refine WP.aG rfl ?_
  refine WL.bL (l0 := [.pointer none]) H rfl UT (by decide) (dH _ _) (Fl.cons rfl rfl (by simp only [aR, aU, aB]) Laid.head Fl.nil) rfl ?_
  intro b29 w9 H
  refine WL.nil ⟨(fa (fun _ _ => (aM.aF (H.l 2 rfl) (aJ.all _) rfl)) c5), ?_⟩
  refine WP.aG rfl ?_
  refine WL.append (m := 1) H 1 UT (by decide) rfl rfl rfl (cR.bZ (n := 1) (H.l 0 rfl) rfl) (bE _ rfl) (by omega) (by decide) rfl ?_
  intro v30 vR H
  replace H := H.forget 0
  replace H := H.conv (L' := [aN.iA w.heap.size v30 39 1 (i + 1) ((nM T k d (i + 1)).map Tr.ptr), aN.blk b9 86 [q], aN.blk b7 3 [.int .i64 (d : Int)], aN.blk b6 111 (kc k ++ [s]), aN.blk b4 37 [.pointer (some ⟨bh, 0, none⟩)]]) (by rw [MT, List.map_append]; rfl)
  refine WL.nil ⟨(fa (nw 6 0) c5), ?_⟩
  refine WP.aG rfl ?_
  refine WL.aT H 1 rfl rfl rfl (new := [v30]) (cells_one (iN (H.l 0 rfl))) (by exact aCL) (dW (iN (H.l 0 rfl))) (Laid.at (Laid.all (by simp only [aR, aU, aB])) rfl) rfl ?_
  intro y8 H
  refine WL.nil ⟨(fa (nw 7 0) c5), ?_⟩
  refine WP.done (WE.eH (WL.mv rfl rfl (WL.mv rfl rfl ?_)))
  refine WL.call MG rfl (p8 (T := T.iF k d i) (bits := bits) (b := bH k (i + d)) H.aS (by exact (H.bK 1 rfl).imp fun _ h => h.iF i)) ?_
  rintro _ IQ ⟨rfl, hO⟩
  replace H := H.out hO
  refine WL.as rfl rfl (WL.nil (WE.eH (WL.mv rfl rfl ?_)))
  refine WL.pv (PV.eq (v' := .int .i64 ((i + 1 + d : Nat) : Int)) (PV.bY rfl rfl rfl (by omega) (by omega)) (by congr 1; omega)) rfl ?_
  refine WL.as rfl rfl (WL.nil ?_)
  exact ⟨(i + 1, v30), (by repeat (first | with_reducible exact bQ.refl _ _ | refine bQ.dG rfl ?_ | refine bQ.cC rfl ?_ | refine bQ.cB rfl ?_)), ⟨rfl, rfl, trivial⟩, rfl, ⟨by dsimp only; omega, H⟩, (by dsimp only; omega)⟩
 ·
  try simp only [bU] at iB
  have hiD : i = T.dp k d := by rcases Nat.lt_or_ge i (T.dp k d) with h | h; exact absurd (Tr.rF (k := k) i d T h) (by exact iB); omega
  subst hiD
  refine WE.exit ?_
  replace H := ((((H.freeze (i := 0) rfl).freeze (i := 0) rfl).freeze (i := 0) rfl).freeze (i := 0) rfl).freeze (i := 0) rfl
  refine WE.aA (WL.pv (PV.makeFunc rfl) rfl (WL.as rfl rfl (WL.nil (WE.aA (WL.aY rfl u3 rfl rfl (aM.aF (H.p 0 rfl) (aJ.all _) rfl) ?_)))))
  refine WL.bC rfl oU rfl rfl (aM.aF (H.p 1 rfl) (aJ.all _) rfl) (cH fK (by simp only [aR, aU, aB]; omega)) ?_
  refine WL.call aAa rfl (x6 (k := k) (lv := lv) (s := s) (bits := bits) H.aS (H.o 0 rfl) (by exact H.aK 0 rfl 5 rfl) (by exact H.aK 0 rfl 7 rfl) bR wV hk (H.CU H.l5 hw rfl)) ?_
  rintro _ FP ⟨aJN, aI9, rfl, aEc, hO, hB, hR⟩
  replace H := H.c9 0 rfl hO hB hR
  obtain ⟨a37, s37, rfl⟩ := Tr.u9 aEc
  refine WL.as rfl rfl (WL.nil (WE.seq ?_))
  have aEq : (T.iF k d (T.dp k d)).key.length = 32 := cQ.gF ((dA.here).iF _)
  have aJG := Tr.aP bits (T.iF k d (T.dp k d))
  refine WE.bG (.take 0 (.aG 1 (.take 2 (.take 3 (.take 4 (.take 7 (.take 8 (.aG 5 (.take 6 (.take 9 (.take 10 .done))))))))))) mixed (by kernel_rfl) ?_
  replace H := H.out (Out.drew _)
  refine WP.mv rfl rfl rfl (WP.aG rfl ?_)
  refine WL.call mK rfl (e9 (T := (T.iF k d (T.dp k d))) (bits := bits) H.aS (by exact (H.bK 7 rfl).imp fun _ h => h.iF (T.dp k d))) ?_
  rintro _ K2 ⟨rfl, hO⟩
  replace H := H.out hO
  refine WL.nil ⟨c5, ?_⟩
  refine WP.aC rfl rfl (PV.eql rfl rfl rfl) (WP.mv rfl rfl rfl ?_)
  refine WP.split (t := 41) rfl (fun BQ => ?_) (fun BQ => ?_)
  ·
   refine WP.known (t := 40) (c := true) rfl BQ ?_
   try simp only [bU] at BQ
   have hFn : (T.iF k d (T.dp k d)) = .nil := by rcases z7 (T.iF k d (T.dp k d)) hFk with h | ⟨a, q, u, s, h⟩; exact h; rw [h] at BQ; cases BQ
   have hend : rZ k lv (T.dp k d + d) (T.iF k d (T.dp k d)).er = .leaf k lv := by rw [hFn]; rfl
   refine WP.dQ rfl rfl (WP.dQ rfl rfl (WP.dQ rfl rfl (WP.aG rfl (WL.off rfl ?_))))
   refine WL.nil ⟨c5, ?_⟩
   refine WP.dQ rfl rfl (WP.dQ rfl rfl (WP.aC rfl rfl (PV.dB rfl rfl rfl) (WP.done (WE.kG rfl (WE.aA (WL.mv rfl rfl (WL.mv rfl rfl ?_)))))))
   refine WL.qM RO rfl rfl (aAD (E := (.leaf a37 k lv s37)) (bs := nM T k d (T.dp k d)) (k := k) (s := s) (sl := q) (d := d) (bits := bits) H.aS (H.o 0 rfl) (by exact H.aK 0 rfl 6 rfl) (by exact H.aK 0 rfl 0 rfl) (by exact (H.aK 0 rfl 7 rfl).imp fun _ h => aBV h) (by exact (H.aK 0 rfl 5 rfl).imp fun _ h => AY h) (by exact (H.aK 0 rfl 4 rfl).imp fun _ h => aM.rd h) (by exact (H.aK 0 rfl 1 rfl).imp fun _ h => aM.rd h) (by exact (H.aK 0 rfl 2 rfl).imp fun _ h => aM.rd h) (by exact (H.aK 0 rfl 3 rfl).imp fun _ h => aM.rd h) (by exact H.aK 0 rfl 8 rfl) bR hk (by rw [xS]; omega) (CA (.leaf k lv) (by omega) (by show 1 ≤ 2; omega))) ?_
   rintro _ NY ⟨aB5, aHb, rfl, Q4, hO, hB, hR⟩
   replace H := H.c9 0 rfl hO hB hR
   refine WL.as rfl rfl (WL.nil (WE.ret ⟨[_], _, .nil _, ⟨rfl, trivial⟩, ?_⟩))
   refine ⟨aB5, _, rfl, ?_, H.cL, H.o 0 rfl, H.fL (H.bK 0 rfl)⟩
   rw [Q4]
   exact (wD hend).trans (hT ▸ wC ⟨k, s, lv⟩ hk qG hs FR)
  ·
   refine WP.known (t := 40) (c := false) rfl BQ ?_
   try simp only [bU] at BQ
   obtain ⟨af, q_, u_, sf, hFe⟩ : ∃ a q u s, (T.iF k d (T.dp k d)) = .leaf a q u s := by rcases z7 (T.iF k d (T.dp k d)) hFk with h | h; rw [h] at BQ; exact absurd rfl BQ; exact h
   have aDI := PN hT qG FR hFe
   have T0 : q_.length = 32 := by rw [hFe] at aEq; exact aEq
   have ZP : (T.iF k d (T.dp k d)).key = q_ := by rw [hFe]; rfl
   refine WP.mv rfl rfl rfl (WP.aC rfl rfl (PV.fieldAddr rfl gR rfl) ?_)
   refine WP.dF rfl rfl rfl cV rfl (aM.aF (H.p 2 rfl) (aJ.l (aJ.all _)) rfl) (cH cM (by simp only [aR, aU, aB]; omega)) ?_
   refine WP.aG rfl ?_
   refine WL.call EM rfl (mE (T := (T.iF k d (T.dp k d))) (bits := bits) H.aS (by exact (H.bK 7 rfl).imp fun _ h => h.iF (T.dp k d))) ?_
   rintro _ TV ⟨rfl, hO⟩
   replace H := H.out hO
   refine WL.nil ⟨(fa (rk hO) c5), ?_⟩
   refine WP.aC rfl rfl (PV.k4 rfl kE rfl (dS.agg cV (cH cM (by simp only [aR, aU, aB]; omega)) (aJ.l (aJ.all _)))) ?_
   refine WP.aC rfl rfl (PV.B8 rfl gM oW gY (by kernel_rfl) rfl rfl (by assumption) (by assumption)) (WP.aC rfl rfl (PV.cZ rfl rfl rfl) (WP.done ?_))
   refine WE.cond rfl (fun QU => ?_) (fun QU => ?_)
   ·
    try simp only [bU] at QU
    have hend : rZ k lv (T.dp k d + d) (T.iF k d (T.dp k d)).er = .leaf k lv := by rw [hFe]; exact if_pos (ZP ▸ (by exact QU))
    refine WE.aA (WL.mv rfl rfl (WL.mv rfl rfl ?_))
    refine WL.qM RO rfl rfl (aAD (E := (.leaf a37 k lv s37)) (bs := nM T k d (T.dp k d)) (k := k) (s := s) (sl := q) (d := d) (bits := bits) H.aS (H.o 0 rfl) (by exact H.aK 0 rfl 6 rfl) (by exact H.aK 0 rfl 0 rfl) (by exact (H.aK 0 rfl 7 rfl).imp fun _ h => aBV h) (by exact (H.aK 0 rfl 5 rfl).imp fun _ h => AY h) (by exact (H.aK 0 rfl 4 rfl).imp fun _ h => aM.rd h) (by exact (H.aK 0 rfl 1 rfl).imp fun _ h => aM.rd h) (by exact (H.aK 0 rfl 2 rfl).imp fun _ h => aM.rd h) (by exact (H.aK 0 rfl 3 rfl).imp fun _ h => aM.rd h) (by exact H.aK 0 rfl 8 rfl) bR hk (by rw [xS]; omega) (CA (.leaf k lv) (by omega) (by show 1 ≤ 2; omega))) ?_
    rintro _ TU ⟨aB5, aHb, rfl, Q4, hO, hB, hR⟩
    replace H := H.c9 0 rfl hO hB hR
    refine WL.as rfl rfl (WL.nil (WE.ret ⟨[_], _, .nil _, ⟨rfl, trivial⟩, ?_⟩))
    refine ⟨aB5, _, rfl, ?_, H.cL, H.o 0 rfl, H.fL (H.bK 0 rfl)⟩
    rw [Q4]
    exact (wD hend).trans (hT ▸ wC ⟨k, s, lv⟩ hk qG hs FR)
   ·
    try simp only [bU] at QU
    have aDE : q_ ≠ k := ZP ▸ (by exact QU)
    have BU : fB q_ k < 256 := by rcases Nat.lt_or_ge (fB q_ k) 256 with h | h; exact h; exact absurd ((nJ T0 hk).1 h) aDE
    refine WE.skip (WE.aA (WL.mv rfl rfl (WL.aY rfl u3 rfl rfl (aM.aF (H.p 1 rfl) (aJ.all _) rfl) (WL.mv rfl rfl (WL.mv rfl rfl (WL.mv rfl rfl ?_))))))
    rw [hFe]
    refine WL.call aFy rfl (aCc (aa := af) (ab := a37) (q := q_) (u := u_) (k := k) (vv := lv) (sa := sf) (sb := s37) (d := T.dp k d + d) (bits := bits) H.aS (H.o 0 rfl) (by exact H.aK 0 rfl 6 rfl) (by exact (H.aK 0 rfl 7 rfl).imp fun _ h => hFe ▸ (h.iF (T.dp k d))) (by exact H.aK 0 rfl 0 rfl) (by exact H.aK 0 rfl 8 rfl) bR T0 hk aDI BU) ?_
    rintro _ TT ⟨aGu, aI7, rfl, ZT, hO, hB, hR⟩
    replace H := H.c9 0 rfl hO hB hR
    refine WL.qM RO rfl rfl (aAD (E := aGu) (bs := nM T k d (T.dp k d)) (k := k) (s := s) (sl := q) (d := d) (bits := bits) H.aS (H.o 0 rfl) (by exact H.aK 0 rfl 7 rfl) (by exact H.aK 0 rfl 0 rfl) (by exact (H.aK 0 rfl 8 rfl).imp fun _ h => aBV h) (by exact (H.aK 0 rfl 6 rfl).imp fun _ h => AY h) (by exact (H.aK 0 rfl 5 rfl).imp fun _ h => aM.rd h) (by exact (H.aK 0 rfl 2 rfl).imp fun _ h => aM.rd h) (by exact (H.aK 0 rfl 3 rfl).imp fun _ h => aM.rd h) (by exact (H.aK 0 rfl 4 rfl).imp fun _ h => aM.rd h) (by exact H.aK 0 rfl 9 rfl) bR hk (by rw [xS]; omega) (CA aGu.er (by omega) (by rw [ZT, tH]; omega))) ?_
    rintro _ YQ ⟨aIH, aI6, rfl, aD9, hO, hB, hR⟩
    replace H := H.c9 0 rfl hO hB hR
    refine WL.as rfl rfl (WL.nil (WE.ret ⟨[_], _, .nil _, ⟨rfl, trivial⟩, ?_⟩))
    refine ⟨aIH, _, rfl, ?_, H.cL, H.o 0 rfl, H.fL (H.bK 0 rfl)⟩
    rw [aD9]
    refine (wD (k := k) (v := lv) ?_).trans (hT ▸ wC ⟨k, s, lv⟩ hk qG hs FR)
    rw [hFe, ZT]; exact if_neg aDE
theorem lD.pm {m : List En} (h : lD m) (hk : KL m) : Pm 0 m := Pm.zero hk h.MK
theorem aCb {X : Nat → Prop} {w : World} {bh bc : Nat} {bits c0 : Int} {T : Tr} {M : List En} {k lv : List UInt8} {s : Value} (hX : cU X w) (eT : aM w bc 213 ([.int .i64 c0])) (bT : aH (fun c_ => X c_ ∨ c_ = bc) (fF bh bc bits) w) (dA : aH (fun c_ => X c_ ∨ c_ = bc) (cQ bits T) w) (fN : aH (fun c_ => X c_ ∨ c_ = bc) (aX) w) (bR : 0 ≤ bits ∧ bits ≤ 256) (hk : k.length = 32) (wV : lv.length ≤ 1000000) (hw : aH (fun c => c = bc) (bI s lv) w) (hT : T.er = grow 0 M) (hkM : KL M) (hs : lD M) (yS : M.length ≤ 100000000) :
  bF prog 50 [.pointer (some ⟨bh, 0, none⟩), T.ptr, .agg (kc k ++ [s]).toArray].toArray w fun v w' => ∃ (T : Tr) (m : Int), v = T.ptr ∧ T.er = grow 0 (gJ M ⟨k, s, lv⟩) ∧ Out (· = bc) w w' ∧ aM w' bc 213 [.int .i64 m] ∧ aH (fun c => X c ∨ c = bc) (cQ bits T) w' := by
 refine bF.aI (N := 11) func50 rfl rfl (by simp) ?_
 have H := (((St.c7 (b := bc) (t := 213) (l := [.int .i64 c0]) hX eT).add (bX fN)).add (bX dA)).add (bX bT)
 have hs1 : s.oneCell' = true := cR.fH hw.here
 refine WE.aA ?_
 refine WL.box (l := kc k ++ [s]) H rfl (rfl) rfl ?_
 intro b5 w1 H
 refine WL.as rfl rfl (WL.nil (WE.aA (WL.mv rfl rfl (WL.mv rfl rfl ?_))))
 refine WL.bC rfl oU rfl rfl (aM.aF (H.l 0 rfl) (aJ.all _) rfl) (cH fK (by simp only [aR, aU, aB]; omega)) ?_
 refine WL.call aH7 rfl (U4 (M := M) (k := k) (lv := lv) (s := s) (d := 0) (bits := bits) H.aS (H.o 0 rfl) (by exact H.aK 0 rfl 0 rfl) (by exact H.aK 0 rfl 1 rfl) (by exact H.aK 0 rfl 2 rfl) bR hk wV (H.CU H.l5 hw rfl) hT (hs.pm hkM) hs (u4.zero _ _) yS) ?_
 rintro _ w2 ⟨aIQ, aJi, rfl, aEk, hO, hB, hR⟩
 replace H := H.c9 0 rfl hO hB hR
 refine WL.as rfl rfl (WL.nil (WE.ret ⟨[_], _, .nil _, ⟨rfl, trivial⟩, ?_⟩))
 exact ⟨aIQ, _, rfl, aEk, H.cL, H.o 0 rfl, H.fL (H.bK 0 rfl)⟩
def kv (e : En) : List UInt8 × List UInt8 := (e.k, e.v)
theorem I9 {m m' : List En} {d b : Nat} (h : m.map kv = m'.map kv) : (bP m d b).map kv = (bP m' d b).map kv := by
 have e : ∀ l : List En, (bP l d b).map kv = (l.map kv).filter fun p => bH p.1 d == b := fun l => by
  unfold bP
  rw [List.filter_map]; rfl
 rw [e, e, h]
theorem Q8 : ∀ (n d : Nat) (m m' : List En), m.map kv = m'.map kv → EH n d m = EH n d m' := by
 intro n
 induction n with
 | zero =>
  intro d m m' h
  match m, m', h with
  | [], [], _ => rfl
  | [a], [b], h => simp [kv] at h; show Sh.leaf _ _ = Sh.leaf _ _; rw [h.1, h.2]
  | [_], _ :: _ :: _, h => simp at h
  | _ :: _ :: _, [_], h => simp at h
  | a :: x :: m, b :: y :: m', h => simp [kv] at h; show Sh.leaf _ _ = Sh.leaf _ _; rw [h.1.1, h.1.2]
 | succ n ih =>
  intro d m m' h
  match m, m', h with
  | [], [], _ => rfl
  | [a], [b], h => simp [kv] at h; show Sh.leaf _ _ = Sh.leaf _ _; rw [h.1, h.2]
  | [_], _ :: _ :: _, h => simp at h
  | _ :: _ :: _, [_], h => simp at h
  | a :: x :: m, b :: y :: m', h =>
   show Sh.inner _ _ = Sh.inner _ _
   rw [ih _ _ _ (I9 h), ih _ _ _ (I9 h)]
theorem JP {d : Nat} {m m' : List En} (h : m.map kv = m'.map kv) : grow d m = grow d m' := Q8 _ d m m' h
theorem lD.ext : ∀ {a b : List En}, lD a → lD b → (∀ e, e ∈ a ↔ e ∈ b) → a = b
 | [], [], _, _, _ => rfl
 | [], y :: b, _, _, h => by have := (h y).2 (by simp); cases this
 | x :: a, [], _, _, h => by have := (h x).1 (by simp); cases this
 | x :: a, y :: b, ha, hb, h => by
  have ha1 := List.pairwise_cons.1 ha
  have FT := List.pairwise_cons.1 hb
  have hxy : x = y := by
   rcases List.mem_cons.1 ((h x).1 (by simp)) with h1 | h1
   ·
    exact h1
   ·
    rcases List.mem_cons.1 ((h y).2 (by simp)) with h2 | h2
    ·
     exact h2.symm
    ·
     have := FT.1 x h1; have := ha1.1 y h2; omega
  subst hxy
  congr 1
  refine lD.ext ha1.2 FT.2 fun e => ⟨fun he => ?_, fun he => ?_⟩
  ·
   rcases List.mem_cons.1 ((h e).1 (List.mem_cons_of_mem _ he)) with h1 | h1
   ·
    subst h1; have := ha1.1 e he; omega
   ·
    exact h1
  ·
   rcases List.mem_cons.1 ((h e).2 (List.mem_cons_of_mem _ he)) with h1 | h1
   ·
    subst h1; have := FT.1 e he; omega
   ·
    exact h1
theorem wA {X : Nat → Prop} {w : World} {b9 b5 b8 : Nat} {N R : Value} (hX : cU X w) (eT : aM w b8 39 ([R])) (bT : aH (fun c_ => X c_ ∨ c_ = b8) (fun w => cX w ⟨b9, 0, none⟩ [.bool true]) w) (dA : aH (fun c_ => X c_ ∨ c_ = b8) (fun w => cX w ⟨b5, 0, none⟩ [N]) w) :
  H9 prog 139 [.pointer (some ⟨b9, 0, none⟩), .pointer (some ⟨b5, 0, none⟩), .pointer (some ⟨b8, 0, none⟩)].toArray w fun w' => Out (· = b8) w w' ∧ aM w' b8 39 [R] := by
 refine H9.aI (N := 6) func139 rfl rfl (by simp) ?_
 have H := ((St.c7 (b := b8) (t := 39) (l := [R]) hX eT).add (bX dA)).add (bX bT)
 refine WE.aA (WL.aY rfl uC rfl rfl (H.p 0 rfl) (WL.pv (PV.not rfl rfl) rfl (WL.nil ?_)))
 refine WE.bB rfl rfl ?_
 refine WE.skip ?_
 refine ⟨rfl, ⟨[], trivial⟩, ?_⟩
 exact ⟨H.cL, H.o 0 rfl⟩
theorem rW {X : Nat → Prop} {w : World} {b9 b5 b8 : Nat} {N R : Value} (hX : cU X w) (eT : aM w b8 39 ([R])) (bT : aH (fun c_ => X c_ ∨ c_ = b8) (fun w => cX w ⟨b9, 0, none⟩ [.bool false]) w) (dA : aH (fun c_ => X c_ ∨ c_ = b8) (fun w => cX w ⟨b5, 0, none⟩ [N]) w) (hN : N.oneCell' = true) :
  H9 prog 139 [.pointer (some ⟨b9, 0, none⟩), .pointer (some ⟨b5, 0, none⟩), .pointer (some ⟨b8, 0, none⟩)].toArray w fun w' => Out (· = b8) w w' ∧ aM w' b8 39 [N] := by
 refine H9.aI (N := 6) func139 rfl rfl (by simp) ?_
 have H := ((St.c7 (b := b8) (t := 39) (l := [R]) hX eT).add (bX dA)).add (bX bT)
 refine WE.aA (WL.aY rfl uC rfl rfl (H.p 0 rfl) (WL.pv (PV.not rfl rfl) rfl (WL.nil ?_)))
 refine WE.cO rfl rfl ?_
 refine WE.eH (WL.aY rfl gX rfl rfl (H.p 1 rfl) ?_)
 refine WL.kZ H 0 rfl rfl rfl (new := [N]) (cells_one hN) (by exact lG) (dW hN) (Laid.at (Laid.all (by simp only [aR, aU, aB])) rfl) rfl ?_
 intro w1 H
 refine WL.nil ?_
 refine ⟨rfl, ⟨[], trivial⟩, ?_⟩
 exact ⟨H.cL, H.o 0 rfl⟩
def iE (m : List En) (k : List UInt8) : Bool := (getM m k).isSome
theorem MA {m : List En} {k : List UInt8} {d : Nat} : iE (bP m d (bH k d)) k = iE m k := by unfold iE; rw [zV]
theorem A3 {m : List En} {k : List UInt8} (h : iE m k = false) : eX m k = m := by
 unfold eX
 rw [List.filter_eq_self]
 intro e he
 simp
 intro hk
 unfold iE getM at h
 have : (m.find? fun e => e.k == k) = none := by simpa using h
 rw [List.find?_eq_none] at this
 exact this e he (by simpa using hk)
theorem X0 {X : Nat → Prop} {w : World} {bh bc : Nat} {bits c0 : Int} {M : List En} {k : List UInt8} {d : Nat}  (hX : cU X w) (eT : aM w bc 213 ([.int .i64 c0])) (bT : aH (fun c_ => X c_ ∨ c_ = bc) (fF bh bc bits) w) (dA : aH (fun c_ => X c_ ∨ c_ = bc) (aX) w) (bR : 0 ≤ bits ∧ bits ≤ 256) (hk : k.length = 32) (hT : Tr.nil.er = grow d M) (qG : Pm d M) :
  bF prog 91 [.pointer (some ⟨bh, 0, none⟩), Tr.nil.ptr, .agg (kc k).toArray, .int .i64 (d : Int)].toArray w fun v w' => ∃ (T : Tr) (c : Int) (f : Bool), v = .tuple [T.ptr, .bool f].toArray ∧ T.er = grow d (eX M k) ∧ f = iE M k ∧ (f = false → T = Tr.nil ∧ c = c0) ∧ Out (· = bc) w w' ∧ aM w' bc 213 [.int .i64 c] ∧ aH (fun c => X c ∨ c = bc) (cQ bits T) w' := by
 refine bF.r8 (N := 57) func91 rfl rfl (by simp) ?_
 have H := ((St.c7 (b := bc) (t := 213) (l := [.int .i64 c0]) hX eT).add (bX dA)).add (bX bT)
 obtain rfl : M = [] := (by have h_ := qG.fU; rw [← hT] at h_; exact List.eq_nil_of_length_eq_zero h_.symm)
 refine WE.aA ?_
 refine WL.box (l := [Tr.nil.ptr]) H rfl (rfl) rfl ?_
 intro b5 w1 H
 refine WL.box (l := kc k) H rfl rfl rfl ?_
 intro b6 w2 H
 refine WL.alloc H rfl KV rfl ?_
 intro b8 w3 H
 refine WL.alloc H rfl ze4 rfl ?_
 intro b9 w4 H
 refine WL.nil (WE.aA (WL.pv (PV.makeFunc rfl) rfl ?_))
 refine WL.defer rfl rfl rfl rfl rfl ?_
 refine WL.nil (WE.seq (WE.aA (WL.aY rfl gX rfl rfl (aM.aF (H.l 3 rfl) (aJ.all _) rfl) ?_)))
 refine WL.call mK rfl (e9 (T := .nil) (bits := bits) H.aS (by exact fun _ _ => trivial) ) ?_
 rintro _ w5 ⟨rfl, hO⟩
 replace H := H.out hO
 refine WL.nil (WE.block (WE.aA (WL.pv (PV.eql rfl rfl rfl) rfl (WL.as rfl rfl (WL.nil ?_)))))
 refine WE.bB rfl rfl ?_
 refine WE.aA (WL.pv (PV.eql rfl rfl rfl) rfl (WL.as rfl rfl (WL.nil ?_)))
 refine WE.bB rfl rfl ?_
 refine WE.skip ?_
 refine WE.bG (.take 0 (.take 1 (.aG 2 (.aG 3 .done)))) mixed (by kernel_rfl) ?_
 replace H := H.out (Out.drew _)
 refine WP.aQ rfl rfl (RV.aZ rfl gX rfl) (aM.aF (H.l 1 rfl) (aJ.all _) rfl) (WP.aQ rfl rfl (RV.aZ rfl uC rfl) (aM.aF (H.l 0 rfl) (aJ.all _) rfl) (WP.aG rfl ?_))
 refine WL.aT H 1 rfl rfl rfl (new := _) rfl (by exact lG) (bE _ rfl) (Laid.at (Laid.all (by simp only [aR, aU, aB])) rfl) rfl ?_
 intro w6 H
 refine WL.nil ⟨(fa (fun _ _ => (aM.aF (H.l 0 rfl) (aJ.all _) rfl)) (fa (nw 2 0) c5)), ?_⟩
 refine WP.aG rfl ?_
 refine WL.aT H 0 rfl rfl rfl (new := _) rfl (by exact UK) (bE _ rfl) (Laid.at (Laid.all (by simp only [aR, aU, aB])) rfl) rfl ?_
 intro w7 H
 refine WL.nil ⟨(fa (nw 3 1) (fa (nw 3 0) c5)), ?_⟩
 refine WP.done (WE.ret ?_)
 refine Or.inr ⟨_, _, _, _, rfl, xF, (by exact rW (X := Nil) (mZ _) (H.l 1 rfl) (((H.lI 1 0 rfl rfl (by decide)).imp fun _ h => aM.rd h).FO) (((H.lI 1 3 rfl rfl (by decide)).imp fun _ h => aM.rd h).FO) rfl), ?_⟩
 rintro w8 ⟨hO, hB⟩
 replace H := H.called 1 rfl hO hB
 refine ⟨[_, _], ⟨⟨_, rfl, cK gX (aM.aF (H.l 1 rfl) (aJ.all _) rfl)⟩, ⟨_, rfl, cK uC (aM.aF (H.l 0 rfl) (aJ.all _) rfl)⟩, trivial⟩, ?_⟩
 refine ⟨.nil, c0, false, rfl, ?_, ?_, ?_, H.cL, H.o 0 rfl, ?_⟩
 ·
  exact (eG d).symm
 ·
  rfl
 ·
  exact fun _ => ⟨rfl, rfl⟩
 ·
  exact fun _ _ => trivial
theorem HZ {X : Nat → Prop} {w : World} {bh bc : Nat} {bits c0 : Int} {M : List En} {k : List UInt8} {d : Nat} {a : Nat} {q u : List UInt8} {s : Value} (hX : cU X w) (eT : aM w bc 213 ([.int .i64 c0])) (bT : aH (fun c_ => X c_ ∨ c_ = bc) (fF bh bc bits) w) (dA : aH (fun c_ => X c_ ∨ c_ = bc) (cQ bits (Tr.leaf a q u s)) w) (fN : aH (fun c_ => X c_ ∨ c_ = bc) (aX) w) (bR : 0 ≤ bits ∧ bits ≤ 256) (hk : k.length = 32) (hT : (Tr.leaf a q u s).er = grow d M) (qG : Pm d M) (T0 : q = k) :
  bF prog 91 [.pointer (some ⟨bh, 0, none⟩), (Tr.leaf a q u s).ptr, .agg (kc k).toArray, .int .i64 (d : Int)].toArray w fun v w' => ∃ (T : Tr) (c : Int) (f : Bool), v = .tuple [T.ptr, .bool f].toArray ∧ T.er = grow d (eX M k) ∧ f = iE M k ∧ (f = false → T = (Tr.leaf a q u s) ∧ c = c0) ∧ Out (· = bc) w w' ∧ aM w' bc 213 [.int .i64 c] ∧ aH (fun c => X c ∨ c = bc) (cQ bits T) w' := by
 refine bF.r8 (N := 57) func91 rfl rfl (by simp) ?_
 have H := (((St.c7 (b := bc) (t := 213) (l := [.int .i64 c0]) hX eT).add (bX fN)).add (bX dA)).add (bX bT)
 obtain ⟨e, rfl⟩ : ∃ e, M = [e] := by have h_ := qG.fU; rw [← hT] at h_; exact List.length_eq_one_iff.1 h_.symm
 rw [dI] at hT
 have hqe : q = e.k := by injection hT
 have hvu := fZ bits u
 have hq : q.length = 32 := by rw [hqe]; exact qG.kl e (by simp)
 refine WE.aA ?_
 refine WL.box (l := [(Tr.leaf a q u s).ptr]) H rfl (rfl) rfl ?_
 intro b5 w1 H
 refine WL.box (l := kc k) H rfl rfl rfl ?_
 intro b6 w2 H
 refine WL.alloc H rfl KV rfl ?_
 intro b8 w3 H
 refine WL.alloc H rfl ze4 rfl ?_
 intro b9 w4 H
 refine WL.nil (WE.aA (WL.pv (PV.makeFunc rfl) rfl ?_))
 refine WL.defer rfl rfl rfl rfl rfl ?_
 refine WL.nil (WE.seq (WE.aA (WL.aY rfl gX rfl rfl (aM.aF (H.l 3 rfl) (aJ.all _) rfl) ?_)))
 refine WL.call mK rfl (e9 (T := (Tr.leaf a q u s)) (bits := bits) H.aS (by exact H.bK 1 rfl) ) ?_
 rintro _ w5 ⟨rfl, hO⟩
 replace H := H.out hO
 refine WL.nil (WE.block (WE.aA (WL.pv (PV.eql rfl rfl rfl) rfl (WL.as rfl rfl (WL.nil ?_)))))
 refine WE.cO rfl rfl ?_
 refine WE.bG (.take 0 (.take 3 (.aG 1 (.take 2 (.take 4 (.aG 5 (.aG 6 .done))))))) mixed (by kernel_rfl) ?_
 replace H := H.out (Out.drew _)
 refine WP.aQ rfl rfl (RV.aZ rfl gX rfl) (aM.aF (H.l 3 rfl) (aJ.all _) rfl) ?_
 refine WP.dF rfl rfl rfl cV rfl (aM.aF (H.l 2 rfl) (aJ.all _) rfl) (cH cM (by simp only [aR, aU, aB]; omega)) ?_
 refine WP.aG rfl ?_
 refine WL.call EM rfl (show bF _ _ _ _ (fun v w' => v = .agg (kc q ++ kc (mS bits u)).toArray ∧ Out Nil _ w') from mE (T := (Tr.leaf a q u s)) (bits := bits) H.aS (H.bK 1 rfl)) ?_
 rintro _ w6 ⟨rfl, hO⟩
 replace H := H.out hO
 refine WL.nil ⟨(fa (rk hO) (fa (nw 1 0) c5)), ?_⟩
 refine WP.aC rfl rfl (PV.k4 rfl kE rfl (dS.agg cV (cH cM (by simp only [aR, aU, aB]; omega)) (aJ.l (aJ.all _)))) ?_
 refine WP.aC rfl rfl (PV.eq (v' := .bool true) (PV.B8 rfl gM oW gY (by kernel_rfl) rfl rfl hq hk) (by simp [T0])) ?_
 refine WP.aG rfl ?_
 refine WL.aT H 1 rfl rfl rfl (new := _) rfl (by exact lG) (bE _ rfl) (Laid.at (Laid.all (by simp only [aR, aU, aB])) rfl) rfl ?_
 intro w7 H
 refine WL.nil ⟨(fa (fun _ _ => (aM.aF (H.l 2 rfl) (aJ.all _) rfl)) (fa (nw 5 0) c5)), ?_⟩
 refine WP.aG rfl ?_
 refine WL.aT H 0 rfl rfl rfl (new := _) rfl (by exact UK) (bE _ rfl) (Laid.at (Laid.all (by simp only [aR, aU, aB])) rfl) rfl ?_
 intro w8 H
 refine WL.nil ⟨(fa (nw 6 3) (fa (nw 6 0) c5)), ?_⟩
 refine WP.done (WE.ret ?_)
 refine Or.inr ⟨_, _, _, _, rfl, xF, (by exact wA (X := Nil) (mZ _) (H.l 1 rfl) (((H.lI 1 0 rfl rfl (by decide)).imp fun _ h => aM.rd h).FO) (((H.lI 1 3 rfl rfl (by decide)).imp fun _ h => aM.rd h).FO)), ?_⟩
 rintro w9 ⟨hO, hB⟩
 replace H := H.called 1 rfl hO hB
 refine ⟨[_, _], ⟨⟨_, rfl, cK gX (aM.aF (H.l 1 rfl) (aJ.all _) rfl)⟩, ⟨_, rfl, cK uC (aM.aF (H.l 0 rfl) (aJ.all _) rfl)⟩, trivial⟩, ?_⟩
 refine ⟨.nil, c0, true, rfl, ?_, ?_, ?_, H.cL, H.o 0 rfl, ?_⟩
 ·
  rw [show eX [e] k = [] by simp [eX, ← hqe, T0], eG]; rfl
 ·
  simp [iE, getM, ← hqe, T0]
 ·
  exact fun h => by cases h
 ·
  exact fun _ _ => trivial
theorem HY {X : Nat → Prop} {w : World} {bh bc : Nat} {bits c0 : Int} {M : List En} {k : List UInt8} {d : Nat} {a : Nat} {q u : List UInt8} {s : Value} (hX : cU X w) (eT : aM w bc 213 ([.int .i64 c0])) (bT : aH (fun c_ => X c_ ∨ c_ = bc) (fF bh bc bits) w) (dA : aH (fun c_ => X c_ ∨ c_ = bc) (cQ bits (Tr.leaf a q u s)) w) (fN : aH (fun c_ => X c_ ∨ c_ = bc) (aX) w) (bR : 0 ≤ bits ∧ bits ≤ 256) (hk : k.length = 32) (hT : (Tr.leaf a q u s).er = grow d M) (qG : Pm d M) (T0 : q ≠ k) :
  bF prog 91 [.pointer (some ⟨bh, 0, none⟩), (Tr.leaf a q u s).ptr, .agg (kc k).toArray, .int .i64 (d : Int)].toArray w fun v w' => ∃ (T : Tr) (c : Int) (f : Bool), v = .tuple [T.ptr, .bool f].toArray ∧ T.er = grow d (eX M k) ∧ f = iE M k ∧ (f = false → T = (Tr.leaf a q u s) ∧ c = c0) ∧ Out (· = bc) w w' ∧ aM w' bc 213 [.int .i64 c] ∧ aH (fun c => X c ∨ c = bc) (cQ bits T) w' := by
 refine bF.r8 (N := 57) func91 rfl rfl (by simp) ?_
 have H := (((St.c7 (b := bc) (t := 213) (l := [.int .i64 c0]) hX eT).add (bX fN)).add (bX dA)).add (bX bT)
 obtain ⟨e, rfl⟩ : ∃ e, M = [e] := by have h_ := qG.fU; rw [← hT] at h_; exact List.length_eq_one_iff.1 h_.symm
 rw [dI] at hT
 have hqe : q = e.k := by injection hT
 have hvu := fZ bits u
 have hq : q.length = 32 := by rw [hqe]; exact qG.kl e (by simp)
 refine WE.aA ?_
 refine WL.box (l := [(Tr.leaf a q u s).ptr]) H rfl (rfl) rfl ?_
 intro b5 w1 H
 refine WL.box (l := kc k) H rfl rfl rfl ?_
 intro b6 w2 H
 refine WL.alloc H rfl KV rfl ?_
 intro b8 w3 H
 refine WL.alloc H rfl ze4 rfl ?_
 intro b9 w4 H
 refine WL.nil (WE.aA (WL.pv (PV.makeFunc rfl) rfl ?_))
 refine WL.defer rfl rfl rfl rfl rfl ?_
 refine WL.nil (WE.seq (WE.aA (WL.aY rfl gX rfl rfl (aM.aF (H.l 3 rfl) (aJ.all _) rfl) ?_)))
 refine WL.call mK rfl (e9 (T := (Tr.leaf a q u s)) (bits := bits) H.aS (by exact H.bK 1 rfl) ) ?_
 rintro _ w5 ⟨rfl, hO⟩
 replace H := H.out hO
 refine WL.nil (WE.block (WE.aA (WL.pv (PV.eql rfl rfl rfl) rfl (WL.as rfl rfl (WL.nil ?_)))))
 refine WE.cO rfl rfl ?_
 refine WE.bG (.take 0 (.take 3 (.aG 1 (.take 2 (.take 4 (.aG 5 (.aG 6 .done))))))) mixed (by kernel_rfl) ?_
 replace H := H.out (Out.drew _)
 refine WP.aQ rfl rfl (RV.aZ rfl gX rfl) (aM.aF (H.l 3 rfl) (aJ.all _) rfl) ?_
 refine WP.dF rfl rfl rfl cV rfl (aM.aF (H.l 2 rfl) (aJ.all _) rfl) (cH cM (by simp only [aR, aU, aB]; omega)) ?_
 refine WP.aG rfl ?_
 refine WL.call EM rfl (show bF _ _ _ _ (fun v w' => v = .agg (kc q ++ kc (mS bits u)).toArray ∧ Out Nil _ w') from mE (T := (Tr.leaf a q u s)) (bits := bits) H.aS (H.bK 1 rfl)) ?_
 rintro _ w6 ⟨rfl, hO⟩
 replace H := H.out hO
 refine WL.nil ⟨(fa (rk hO) (fa (nw 1 0) c5)), ?_⟩
 refine WP.aC rfl rfl (PV.k4 rfl kE rfl (dS.agg cV (cH cM (by simp only [aR, aU, aB]; omega)) (aJ.l (aJ.all _)))) ?_
 refine WP.aC rfl rfl (PV.eq (v' := .bool false) (PV.B8 rfl gM oW gY (by kernel_rfl) rfl rfl hq hk) (by simp [T0])) ?_
 refine WP.aG rfl ?_
 refine WL.aT H 1 rfl rfl rfl (new := _) rfl (by exact lG) (bE _ rfl) (Laid.at (Laid.all (by simp only [aR, aU, aB])) rfl) rfl ?_
 intro w7 H
 refine WL.nil ⟨(fa (fun _ _ => (aM.aF (H.l 2 rfl) (aJ.all _) rfl)) (fa (nw 5 0) c5)), ?_⟩
 refine WP.aG rfl ?_
 refine WL.aT H 0 rfl rfl rfl (new := _) rfl (by exact UK) (bE _ rfl) (Laid.at (Laid.all (by simp only [aR, aU, aB])) rfl) rfl ?_
 intro w8 H
 refine WL.nil ⟨(fa (nw 6 3) (fa (nw 6 0) c5)), ?_⟩
 refine WP.done (WE.ret ?_)
 refine Or.inr ⟨_, _, _, _, rfl, xF, (by exact rW (X := Nil) (mZ _) (H.l 1 rfl) (((H.lI 1 0 rfl rfl (by decide)).imp fun _ h => aM.rd h).FO) (((H.lI 1 3 rfl rfl (by decide)).imp fun _ h => aM.rd h).FO) rfl), ?_⟩
 rintro w9 ⟨hO, hB⟩
 replace H := H.called 1 rfl hO hB
 refine ⟨[_, _], ⟨⟨_, rfl, cK gX (aM.aF (H.l 1 rfl) (aJ.all _) rfl)⟩, ⟨_, rfl, cK uC (aM.aF (H.l 0 rfl) (aJ.all _) rfl)⟩, trivial⟩, ?_⟩
 refine ⟨(Tr.leaf a q u s), c0, false, rfl, ?_, ?_, ?_, H.cL, H.o 0 rfl, ?_⟩
 ·
  rw [show eX [e] k = [e] by simp [eX, ← hqe, T0], dI]; exact hT
 ·
  simp [iE, getM, ← hqe, T0]
 ·
  exact fun _ => ⟨rfl, rfl⟩
 ·
  exact H.fL (H.bK 1 rfl)
theorem U1 {m : List En} {k : List UInt8} {d : Nat} (h : Pm d m) (hd : d < 256) : (bH k d = 0 → jX (grow (d + 1) (eX (bP m d 0) k)) (grow (d + 1) (bP m d 1)) = grow d (eX m k)) ∧ (bH k d ≠ 0 → jX (grow (d + 1) (bP m d 0)) (grow (d + 1) (eX (bP m d 1) k)) = grow d (eX m k)) := by
 have e := oD (ON (k := k) h) hd
 rw [rX, rX] at e
 have hb := eD k d
 constructor
 ·
  intro h0
  rw [tE (b := 1) (by omega)] at e
  exact e
 ·
  intro h0
  rw [tE (b := 0) (by omega)] at e
  exact e
def aCa (T : Tr) : Prop := ∀ {X : Nat → Prop} {w : World} {bh bc : Nat} {bits c0 : Int} {M : List En} {k : List UInt8} {d : Nat}, (∀ b, X b → b < w.heap.size) → aM w bc 213 [.int .i64 c0] → aH (fun c => X c ∨ c = bc) (fF bh bc bits) w → aH (fun c => X c ∨ c = bc) (cQ bits T) w → aH (fun c => X c ∨ c = bc) aX w →
 0 ≤ bits ∧ bits ≤ 256 → k.length = 32 → T.er = grow d M → Pm d M → M.length ≤ 1000000000 →
 bF prog 91 [.pointer (some ⟨bh, 0, none⟩), T.ptr, .agg (kc k).toArray, .int .i64 (d : Int)].toArray w fun v w' => ∃ (T' : Tr) (c : Int) (f : Bool), v = .tuple [T'.ptr, .bool f].toArray ∧ T'.er = grow d (eX M k) ∧ f = iE M k ∧ (f = false → T' = T ∧ c = c0) ∧ Out (· = bc) w w' ∧ aM w' bc 213 [.int .i64 c] ∧ aH (fun c => X c ∨ c = bc) (cQ bits T') w'
theorem M5 {X : Nat → Prop} {w : World} {bh bc : Nat} {bits c0 : Int} {M : List En} {k : List UInt8} {d : Nat} {a : Nat} {l r : Tr} (hX : cU X w) (eT : aM w bc 213 ([.int .i64 c0])) (bT : aH (fun c_ => X c_ ∨ c_ = bc) (fF bh bc bits) w) (dA : aH (fun c_ => X c_ ∨ c_ = bc) (cQ bits (Tr.inner a l r)) w) (fN : aH (fun c_ => X c_ ∨ c_ = bc) (aX) w) (bR : 0 ≤ bits ∧ bits ≤ 256) (hk : k.length = 32) (hT : (Tr.inner a l r).er = grow d M) (qG : Pm d M) (hlen : M.length ≤ 1000000000) (ihl : aCa l) (ihr : aCa r) :
  bF prog 91 [.pointer (some ⟨bh, 0, none⟩), (Tr.inner a l r).ptr, .agg (kc k).toArray, .int .i64 (d : Int)].toArray w fun v w' => ∃ (T : Tr) (c : Int) (f : Bool), v = .tuple [T.ptr, .bool f].toArray ∧ T.er = grow d (eX M k) ∧ f = iE M k ∧ (f = false → T = (Tr.inner a l r) ∧ c = c0) ∧ Out (· = bc) w w' ∧ aM w' bc 213 [.int .i64 c] ∧ aH (fun c => X c ∨ c = bc) (cQ bits T) w' := by
 refine bF.r8 (N := 57) func91 rfl rfl (by simp) ?_
 have H := (((St.c7 (b := bc) (t := 213) (l := [.int .i64 c0]) hX eT).add (bX fN)).add (bX dA)).add (bX bT)
 have h2m : 2 ≤ M.length := (nF qG).1 (by rw [← hT]; rfl)
 have hd := qG.lt h2m
 have FU := hT
 rw [jH d M hd h2m] at FU
 have QD : l.er = grow (d + 1) (bP M d 0) := by injection FU
 have GS : r.er = grow (d + 1) (bP M d 1) := by injection FU
 have hb2 := eD k d
 have hrj := U1 (k := k) qG hd
 have hhp := MA (m := M) (k := k) (d := d)
 refine WE.aA ?_
 refine WL.box (l := [(Tr.inner a l r).ptr]) H rfl (rfl) rfl ?_
 intro b5 w1 H
 refine WL.box (l := kc k) H rfl rfl rfl ?_
 intro b6 w2 H
 refine WL.alloc H rfl KV rfl ?_
 intro b8 w3 H
 refine WL.alloc H rfl ze4 rfl ?_
 intro b9 w4 H
 refine WL.nil (WE.aA (WL.pv (PV.makeFunc rfl) rfl ?_))
 refine WL.defer rfl rfl rfl rfl rfl ?_
 refine WL.nil (WE.seq (WE.aA (WL.aY rfl gX rfl rfl (aM.aF (H.l 3 rfl) (aJ.all _) rfl) ?_)))
 refine WL.call mK rfl (e9 (T := (Tr.inner a l r)) (bits := bits) H.aS (by exact H.bK 1 rfl) ) ?_
 rintro _ w5 ⟨rfl, hO⟩
 replace H := H.out hO
 refine WL.nil (WE.block (WE.aA (WL.pv (PV.eql rfl rfl rfl) rfl (WL.as rfl rfl (WL.nil ?_)))))
 refine WE.bB rfl rfl ?_
 refine WE.aA (WL.pv (PV.eql rfl rfl rfl) rfl (WL.as rfl rfl (WL.nil ?_)))
 refine WE.cO rfl rfl ?_
 refine WE.bG (.take 0 (.take 2 (.aG 1 (.aG 3 (.take 4 (.take 5 .done)))))) mixed (by kernel_rfl) ?_
 replace H := H.out (Out.drew _)
 refine WP.aQ rfl rfl (RV.aZ rfl gX rfl) (aM.aF (H.l 3 rfl) (aJ.all _) rfl) (WP.aQ rfl rfl (RV.aZ rfl gX rfl) (aM.aF (H.l 3 rfl) (aJ.all _) rfl) (WP.aG rfl ?_))
 refine WL.call aAc rfl (TD (T := (Tr.inner a l r)) (bits := bits) H.aS (by exact H.bK 1 rfl) ) ?_
 rintro _ w6 ⟨rfl, hO⟩
 replace H := H.out hO
 refine WL.nil ⟨(fa (rk hO) (fa (nw 1 0) c5)), ?_⟩
 refine WP.aG rfl ?_
 refine WL.call aAb rfl (FD (T := (Tr.inner a l r)) (bits := bits) H.aS (by exact H.bK 1 rfl) ) ?_
 rintro _ w7 ⟨rfl, hO⟩
 replace H := H.out hO
 refine WL.nil ⟨(fa (nw 3 2) (fa (nw 3 0) c5)), ?_⟩
 refine WP.as rfl rfl rfl (WP.as rfl rfl rfl (WP.done (WE.seq (WE.aA ?_))))
 refine WL.bC rfl cV rfl rfl (aM.aF (H.l 2 rfl) (aJ.all _) rfl) (cH cM (by simp only [aR, aU, aB]; omega)) ?_
 refine WL.mv rfl rfl ?_
 refine WL.call EL rfl (jJ (k := k) (d := d) H.aS  (by assumption) (by assumption)) ?_
 rintro _ w8 ⟨rfl, hO⟩
 replace H := H.out hO
 refine WL.pv (PV.eql rfl rfl rfl) rfl (WL.nil ?_)
 refine WE.cond rfl (fun kC => ?_) (fun kC => ?_)
 ·
  try simp only [bU] at kC
  have zT : bH k d = 0 := by omega
  refine WE.eH (WL.mv rfl rfl (WL.mv rfl rfl ?_))
  refine WL.bC rfl cV rfl rfl (aM.aF (H.l 2 rfl) (aJ.all _) rfl) (cH cM (by simp only [aR, aU, aB]; omega)) ?_
  refine WL.mv rfl rfl (WL.pv (PV.eq (v' := .int .i64 ((d + 1 : Nat) : Int)) (PV.bY rfl rfl rfl (by omega) (by omega)) rfl) rfl ?_)
  refine WL.call aBH rfl (ihl (M := bP M d 0) (k := k) (d := d + 1) (bits := bits) H.aS (H.o 0 rfl) (by exact H.aK 0 rfl 0 rfl) (by exact (H.aK 0 rfl 1 rfl : aH _ (cQ bits (Tr.inner a l r)) _).imp fun _ h => cQ.left h) (by exact H.aK 0 rfl 2 rfl) bR hk QD (qG.part hd 0) (Nat.le_trans (DL _ _ _) hlen)) ?_
  rintro _ w9 ⟨T38, c38, f38, rfl, aEo, aDZ, aHC, hO, hB, hR⟩
  replace H := H.c9 0 rfl hO hB hR
  refine WL.mv rfl rfl (WL.pv (PV.extract rfl rfl rfl) rfl (WL.pv (PV.extract rfl rfl rfl) rfl (WL.as rfl rfl ?_)))
  refine WL.aT H 0 rfl rfl rfl (new := _) rfl (by exact UK) (bE _ rfl) (Laid.at (Laid.all (by simp only [aR, aU, aB])) rfl) rfl ?_
  intro vR H
  refine WL.nil (WE.aA (WL.aY rfl uC rfl rfl (aM.aF (H.l 0 rfl) (aJ.all _) rfl) (WL.nil ?_)))
  refine WE.cond rfl (fun mH => ?_) (fun mH => ?_)
  ·
   try simp only [bU] at mH
   (obtain rfl : f38 = true := mH)
   refine WE.eH (WL.mv rfl rfl (WL.mv rfl rfl (WL.mv rfl rfl ?_)))
   refine WL.call EO rfl ((by exact x7 (l := T38) (r := r) (bits := bits) H.aS (H.o 0 rfl) (by exact H.aK 0 rfl 1 rfl) (by exact H.aK 0 rfl 0 rfl) (by exact (H.aK 0 rfl 2 rfl : aH _ (cQ bits (Tr.inner a l r)) _).imp fun _ h => cQ.right h) (by exact H.aK 0 rfl 3 rfl) bR (by rw [aEo, GS, (ON (qG.part hd 0)).fU, (qG.part hd 1).fU]; have h1 := u7 (bP M d 0) k; have h2 := mW M d; omega))) ?_
   rintro _ y8 ⟨aB4, aHa, rfl, Q3, hO, hB, hR⟩
   replace H := H.c9 0 rfl hO hB hR
   refine WL.aT H 1 rfl rfl rfl (new := _) rfl (by exact lG) (bE _ rfl) (Laid.at (Laid.all (by simp only [aR, aU, aB])) rfl) rfl ?_
   intro IQ H
   refine WL.nil ?_
   refine WE.bG (.take 0 (.take 1 (.aG 2 (.aG 3 .done)))) mixed (by kernel_rfl) ?_
   replace H := H.out (Out.drew _)
   refine WP.aQ rfl rfl (RV.aZ rfl gX rfl) (aM.aF (H.l 1 rfl) (aJ.all _) rfl) (WP.aQ rfl rfl (RV.aZ rfl uC rfl) (aM.aF (H.l 0 rfl) (aJ.all _) rfl) (WP.aG rfl ?_))
   refine WL.aT H 1 rfl rfl rfl (new := _) rfl (by exact lG) (bE _ rfl) (Laid.at (Laid.all (by simp only [aR, aU, aB])) rfl) rfl ?_
   intro FP H
   refine WL.nil ⟨(fa (fun _ _ => (aM.aF (H.l 0 rfl) (aJ.all _) rfl)) (fa (nw 2 0) c5)), ?_⟩
   refine WP.aG rfl ?_
   refine WL.aT H 0 rfl rfl rfl (new := _) rfl (by exact UK) (bE _ rfl) (Laid.at (Laid.all (by simp only [aR, aU, aB])) rfl) rfl ?_
   intro K2 H
   refine WL.nil ⟨(fa (nw 3 1) (fa (nw 3 0) c5)), ?_⟩
   refine WP.done (WE.ret ?_)
   refine Or.inr ⟨_, _, _, _, rfl, xF, (by exact wA (X := Nil) (mZ _) (H.l 1 rfl) (((H.lI 1 0 rfl rfl (by decide)).imp fun _ h => aM.rd h).FO) (((H.lI 1 3 rfl rfl (by decide)).imp fun _ h => aM.rd h).FO)), ?_⟩
   rintro NY ⟨hO, hB⟩
   replace H := H.called 1 rfl hO hB
   refine ⟨[_, _], ⟨⟨_, rfl, cK gX (aM.aF (H.l 1 rfl) (aJ.all _) rfl)⟩, ⟨_, rfl, cK uC (aM.aF (H.l 0 rfl) (aJ.all _) rfl)⟩, trivial⟩, ?_⟩
   (refine ⟨aB4, _, true, rfl, ?_, ?_, fun h => (by cases h), H.cL, H.o 0 rfl, H.fL (H.bK 0 rfl)⟩; (rw [Q3, aEo, GS]; exact hrj.1 zT); (rw [aDZ, ← hhp, zT]))
  ·
   try simp only [bU] at mH
   (obtain rfl : f38 = false := mH)
   refine WE.skip ?_
   refine WE.bG (.take 0 (.take 1 (.aG 2 (.aG 3 .done)))) mixed (by kernel_rfl) ?_
   replace H := H.out (Out.drew _)
   refine WP.aQ rfl rfl (RV.aZ rfl gX rfl) (aM.aF (H.l 1 rfl) (aJ.all _) rfl) (WP.aQ rfl rfl (RV.aZ rfl uC rfl) (aM.aF (H.l 0 rfl) (aJ.all _) rfl) (WP.aG rfl ?_))
   refine WL.aT H 1 rfl rfl rfl (new := _) rfl (by exact lG) (bE _ rfl) (Laid.at (Laid.all (by simp only [aR, aU, aB])) rfl) rfl ?_
   intro TV H
   refine WL.nil ⟨(fa (fun _ _ => (aM.aF (H.l 0 rfl) (aJ.all _) rfl)) (fa (nw 2 0) c5)), ?_⟩
   refine WP.aG rfl ?_
   refine WL.aT H 0 rfl rfl rfl (new := _) rfl (by exact UK) (bE _ rfl) (Laid.at (Laid.all (by simp only [aR, aU, aB])) rfl) rfl ?_
   intro TU H
   refine WL.nil ⟨(fa (nw 3 1) (fa (nw 3 0) c5)), ?_⟩
   refine WP.done (WE.ret ?_)
   refine Or.inr ⟨_, _, _, _, rfl, xF, (by exact rW (X := Nil) (mZ _) (H.l 1 rfl) (((H.lI 1 0 rfl rfl (by decide)).imp fun _ h => aM.rd h).FO) (((H.lI 1 3 rfl rfl (by decide)).imp fun _ h => aM.rd h).FO) rfl), ?_⟩
   rintro TT ⟨hO, hB⟩
   replace H := H.called 1 rfl hO hB
   refine ⟨[_, _], ⟨⟨_, rfl, cK gX (aM.aF (H.l 1 rfl) (aJ.all _) rfl)⟩, ⟨_, rfl, cK uC (aM.aF (H.l 0 rfl) (aJ.all _) rfl)⟩, trivial⟩, ?_⟩
   (have hh : iE M k = false := (by rw [← hhp, zT, ← aDZ]); refine ⟨Tr.inner a l r, _, false, rfl, ?_, hh.symm, fun _ => ⟨rfl, (aHC rfl).2⟩, H.cL, H.o 0 rfl, H.fL (by exact H.bK 2 rfl)⟩; (rw [A3 hh]; exact hT))
 ·
  try simp only [bU] at kC
  have zT : bH k d = 1 := by omega
  refine WE.eH (WL.mv rfl rfl (WL.mv rfl rfl ?_))
  refine WL.bC rfl cV rfl rfl (aM.aF (H.l 2 rfl) (aJ.all _) rfl) (cH cM (by simp only [aR, aU, aB]; omega)) ?_
  refine WL.mv rfl rfl (WL.pv (PV.eq (v' := .int .i64 ((d + 1 : Nat) : Int)) (PV.bY rfl rfl rfl (by omega) (by omega)) rfl) rfl ?_)
  refine WL.call aBH rfl (ihr (M := bP M d 1) (k := k) (d := d + 1) (bits := bits) H.aS (H.o 0 rfl) (by exact H.aK 0 rfl 0 rfl) (by exact (H.aK 0 rfl 1 rfl : aH _ (cQ bits (Tr.inner a l r)) _).imp fun _ h => cQ.right h) (by exact H.aK 0 rfl 2 rfl) bR hk GS (qG.part hd 1) (Nat.le_trans (DL _ _ _) hlen)) ?_
  rintro _ YQ ⟨T47, c47, f47, rfl, aEm, aDY, aHB, hO, hB, hR⟩
  replace H := H.c9 0 rfl hO hB hR
  refine WL.mv rfl rfl (WL.pv (PV.extract rfl rfl rfl) rfl (WL.pv (PV.extract rfl rfl rfl) rfl (WL.as rfl rfl ?_)))
  refine WL.aT H 0 rfl rfl rfl (new := _) rfl (by exact UK) (bE _ rfl) (Laid.at (Laid.all (by simp only [aR, aU, aB])) rfl) rfl ?_
  intro w20 H
  refine WL.nil (WE.aA (WL.aY rfl uC rfl rfl (aM.aF (H.l 0 rfl) (aJ.all _) rfl) (WL.nil ?_)))
  refine WE.cond rfl (fun mH => ?_) (fun mH => ?_)
  ·
   try simp only [bU] at mH
   (obtain rfl : f47 = true := mH)
   refine WE.eH (WL.mv rfl rfl (WL.mv rfl rfl (WL.mv rfl rfl ?_)))
   refine WL.call EO rfl ((by exact x7 (l := l) (r := T47) (bits := bits) H.aS (H.o 0 rfl) (by exact H.aK 0 rfl 1 rfl) (by exact (H.aK 0 rfl 2 rfl : aH _ (cQ bits (Tr.inner a l r)) _).imp fun _ h => cQ.left h) (by exact H.aK 0 rfl 0 rfl) (by exact H.aK 0 rfl 3 rfl) bR (by rw [aEm, QD, (ON (qG.part hd 1)).fU, (qG.part hd 0).fU]; have h1 := u7 (bP M d 1) k; have h2 := mW M d; omega))) ?_
   rintro _ w21 ⟨aB4, aHa, rfl, Q3, hO, hB, hR⟩
   replace H := H.c9 0 rfl hO hB hR
   refine WL.aT H 1 rfl rfl rfl (new := _) rfl (by exact lG) (bE _ rfl) (Laid.at (Laid.all (by simp only [aR, aU, aB])) rfl) rfl ?_
   intro w22 H
   refine WL.nil ?_
   refine WE.bG (.take 0 (.take 1 (.aG 2 (.aG 3 .done)))) mixed (by kernel_rfl) ?_
   replace H := H.out (Out.drew _)
   refine WP.aQ rfl rfl (RV.aZ rfl gX rfl) (aM.aF (H.l 1 rfl) (aJ.all _) rfl) (WP.aQ rfl rfl (RV.aZ rfl uC rfl) (aM.aF (H.l 0 rfl) (aJ.all _) rfl) (WP.aG rfl ?_))
   refine WL.aT H 1 rfl rfl rfl (new := _) rfl (by exact lG) (bE _ rfl) (Laid.at (Laid.all (by simp only [aR, aU, aB])) rfl) rfl ?_
   intro w23 H
   refine WL.nil ⟨(fa (fun _ _ => (aM.aF (H.l 0 rfl) (aJ.all _) rfl)) (fa (nw 2 0) c5)), ?_⟩
   refine WP.aG rfl ?_
   refine WL.aT H 0 rfl rfl rfl (new := _) rfl (by exact UK) (bE _ rfl) (Laid.at (Laid.all (by simp only [aR, aU, aB])) rfl) rfl ?_
   intro w24 H
   refine WL.nil ⟨(fa (nw 3 1) (fa (nw 3 0) c5)), ?_⟩
   refine WP.done (WE.ret ?_)
   refine Or.inr ⟨_, _, _, _, rfl, xF, (by exact wA (X := Nil) (mZ _) (H.l 1 rfl) (((H.lI 1 0 rfl rfl (by decide)).imp fun _ h => aM.rd h).FO) (((H.lI 1 3 rfl rfl (by decide)).imp fun _ h => aM.rd h).FO)), ?_⟩
   rintro w25 ⟨hO, hB⟩
   replace H := H.called 1 rfl hO hB
   refine ⟨[_, _], ⟨⟨_, rfl, cK gX (aM.aF (H.l 1 rfl) (aJ.all _) rfl)⟩, ⟨_, rfl, cK uC (aM.aF (H.l 0 rfl) (aJ.all _) rfl)⟩, trivial⟩, ?_⟩
   (refine ⟨aB4, _, true, rfl, ?_, ?_, fun h => (by cases h), H.cL, H.o 0 rfl, H.fL (H.bK 0 rfl)⟩; (rw [Q3, aEm, QD]; exact hrj.2 (by omega)); (rw [aDY, ← hhp, zT]))
  ·
   try simp only [bU] at mH
   (obtain rfl : f47 = false := mH)
   refine WE.skip ?_
   refine WE.bG (.take 0 (.take 1 (.aG 2 (.aG 3 .done)))) mixed (by kernel_rfl) ?_
   replace H := H.out (Out.drew _)
   refine WP.aQ rfl rfl (RV.aZ rfl gX rfl) (aM.aF (H.l 1 rfl) (aJ.all _) rfl) (WP.aQ rfl rfl (RV.aZ rfl uC rfl) (aM.aF (H.l 0 rfl) (aJ.all _) rfl) (WP.aG rfl ?_))
   refine WL.aT H 1 rfl rfl rfl (new := _) rfl (by exact lG) (bE _ rfl) (Laid.at (Laid.all (by simp only [aR, aU, aB])) rfl) rfl ?_
   intro w26 H
   refine WL.nil ⟨(fa (fun _ _ => (aM.aF (H.l 0 rfl) (aJ.all _) rfl)) (fa (nw 2 0) c5)), ?_⟩
   refine WP.aG rfl ?_
   refine WL.aT H 0 rfl rfl rfl (new := _) rfl (by exact UK) (bE _ rfl) (Laid.at (Laid.all (by simp only [aR, aU, aB])) rfl) rfl ?_
   intro w27 H
   refine WL.nil ⟨(fa (nw 3 1) (fa (nw 3 0) c5)), ?_⟩
   refine WP.done (WE.ret ?_)
   refine Or.inr ⟨_, _, _, _, rfl, xF, (by exact rW (X := Nil) (mZ _) (H.l 1 rfl) (((H.lI 1 0 rfl rfl (by decide)).imp fun _ h => aM.rd h).FO) (((H.lI 1 3 rfl rfl (by decide)).imp fun _ h => aM.rd h).FO) rfl), ?_⟩
   rintro w28 ⟨hO, hB⟩
   replace H := H.called 1 rfl hO hB
   refine ⟨[_, _], ⟨⟨_, rfl, cK gX (aM.aF (H.l 1 rfl) (aJ.all _) rfl)⟩, ⟨_, rfl, cK uC (aM.aF (H.l 0 rfl) (aJ.all _) rfl)⟩, trivial⟩, ?_⟩
   (have hh : iE M k = false := (by rw [← hhp, zT, ← aDY]); refine ⟨Tr.inner a l r, _, false, rfl, ?_, hh.symm, fun _ => ⟨rfl, (aHB rfl).2⟩, H.cL, H.o 0 rfl, H.fL (by exact H.bK 2 rfl)⟩; (rw [A3 hh]; exact hT))
theorem S9 : ∀ T : Tr, aCa T
 | .nil => fun hX h0 h1 _ h3 hb hk hT hp _ => X0 hX h0 h1 h3 hb hk hT hp
 | .leaf a q u s => fun hX h0 h1 h2 h3 hb hk hT hp _ => by
  rename_i k _ _
  by_cases hq : q = k
  ·
   refine (HZ hX h0 h1 h2 h3 hb hk hT hp hq).mono ?_
   rintro v w' ⟨T', c, f, h⟩
   exact ⟨T', c, f, h⟩
  ·
   refine (HY hX h0 h1 h2 h3 hb hk hT hp hq).mono ?_
   rintro v w' ⟨T', c, f, h⟩
   exact ⟨T', c, f, h⟩
 | .inner a l r => fun hX h0 h1 h2 h3 hb hk hT hp hl => M5 hX h0 h1 h2 h3 hb hk hT hp hl (S9 l) (S9 r)
theorem aAR {X : Nat → Prop} {w : World} {bh bc : Nat} {bits c0 : Int} {T : Tr} {M : List En} {k : List UInt8} {d : Nat} (hX : cU X w) (ho : aM w bc 213 [.int .i64 c0]) (bT : aH (fun c => X c ∨ c = bc) (fF bh bc bits) w) (dA : aH (fun c => X c ∨ c = bc) (cQ bits T) w) (fN : aH (fun c => X c ∨ c = bc) aX w)
  (hb : 0 ≤ bits ∧ bits ≤ 256) (hk : k.length = 32) (hT : T.er = grow d M) (hp : Pm d M) (hl : M.length ≤ 1000000000) :
  bF prog 91 [.pointer (some ⟨bh, 0, none⟩), T.ptr, .agg (kc k).toArray, .int .i64 (d : Int)].toArray w fun v w' => ∃ (T' : Tr) (c : Int) (f : Bool), v = .tuple [T'.ptr, .bool f].toArray ∧ T'.er = grow d (eX M k) ∧ f = iE M k ∧ (f = false → T' = T ∧ c = c0) ∧ Out (· = bc) w w' ∧ aM w' bc 213 [.int .i64 c] ∧ aH (fun c => X c ∨ c = bc) (cQ bits T') w' :=
 S9 T hX ho bT dA fN hb hk hT hp hl
theorem M6 {X : Nat → Prop} {w : World} {bh bc : Nat} {bits c0 : Int} {T : Tr} {M : List En} {k : List UInt8} (hX : cU X w) (eT : aM w bc 213 ([.int .i64 c0])) (bT : aH (fun c_ => X c_ ∨ c_ = bc) (fF bh bc bits) w) (dA : aH (fun c_ => X c_ ∨ c_ = bc) (cQ bits T) w) (fN : aH (fun c_ => X c_ ∨ c_ = bc) (aX) w) (bR : 0 ≤ bits ∧ bits ≤ 256) (hk : k.length = 32) (hT : T.er = grow 0 M) (qG : Pm 0 M) (hlen : M.length ≤ 1000000000) :
  bF prog 52 [.pointer (some ⟨bh, 0, none⟩), T.ptr, .agg (kc k).toArray].toArray w fun v w' => ∃ (T' : Tr) (c : Int) (f : Bool), v = .tuple [T'.ptr, .bool f].toArray ∧ T'.er = grow 0 (eX M k) ∧ f = iE M k ∧ (f = false → T' = T ∧ c = c0) ∧ Out (· = bc) w w' ∧ aM w' bc 213 [.int .i64 c] ∧ aH (fun c => X c ∨ c = bc) (cQ bits T') w' := by
 refine bF.aI (N := 14) func52 rfl rfl (by simp) ?_
 have H := (((St.c7 (b := bc) (t := 213) (l := [.int .i64 c0]) hX eT).add (bX fN)).add (bX dA)).add (bX bT)
 refine WE.aA ?_
 refine WL.box (l := kc k) H rfl rfl rfl ?_
 intro b5 w1 H
 refine WL.as rfl rfl (WL.as rfl rfl (WL.nil (WE.aA (WL.mv rfl rfl (WL.mv rfl rfl ?_)))))
 refine WL.bC rfl cV rfl rfl (aM.aF (H.l 0 rfl) (aJ.all _) rfl) (cH cM (by simp only [aR, aU, aB]; omega)) ?_
 refine WL.call aBH rfl (aAR (T := T) (M := M) (k := k) (d := 0) (bits := bits) H.aS (H.o 0 rfl) (by exact H.aK 0 rfl 0 rfl) (by exact H.aK 0 rfl 1 rfl) (by exact H.aK 0 rfl 2 rfl) (by assumption) (by assumption) (by assumption) (by assumption) (by assumption)) ?_
 rintro _ w2 ⟨aIP, aIx, aH2, rfl, aEj, aDX, aDH, hO, hB, hR⟩
 replace H := H.c9 0 rfl hO hB hR
 refine WL.pv (PV.extract rfl rfl rfl) rfl (WL.pv (PV.extract rfl rfl rfl) rfl (WL.as rfl rfl (WL.as rfl rfl (WL.nil (WE.ret ⟨[_, _], _, .nil _, ⟨rfl, rfl, trivial⟩, ?_⟩)))))
 exact ⟨aIP, aIx, aH2, rfl, aEj, aDX, aDH, H.cL, H.o 0 rfl, H.fL (H.bK 0 rfl)⟩
def eQ (v : Value) (ks : List (List UInt8)) (w : World) : Prop := cR w v 32 ks.length (ks.flatMap kc)
def K32 (ks : List (List UInt8)) : Prop := ∀ k ∈ ks, k.length = 32
theorem aA6 : ∀ (ks : List (List UInt8)) (hk : K32 ks) (i : Nat) (hi : i < ks.length), ((ks.flatMap kc).drop (i * 32)).take 32 = kc ks[i] := by
 intro ks
 induction ks with
 | nil => intro _ i hi; simp at hi
 | cons x ks ih =>
  intro hk i hi
  have hx := hk x (by simp)
  have hl : (kc x).length = 32 := by rw [aO, hx]
  cases i with
  | zero =>
   rw [List.flatMap_cons, Nat.zero_mul, List.drop_zero, List.take_left' hl]; rfl
  | succ i =>
   rw [List.flatMap_cons, show (i + 1) * 32 = 32 + i * 32 by omega, ← List.drop_drop, List.drop_left' hl]
   exact ih (fun k h => hk k (List.mem_cons_of_mem _ h)) i (by simpa using hi)
theorem eQ.rd {v : Value} {ks : List (List UInt8)} {w : World} (h : eQ v ks w) (hk : K32 ks) (i : Nat) (hi : i < ks.length) : cX w (jF v (i * 32)) (kc ks[i]) := by
 have := cR.rd h i hi
 rwa [aA6 ks hk i hi] at this
section
variable {α : Type} {C : α → List Value} {sz : Nat}
theorem c6 : ∀ (l : List α), (∀ x ∈ l, (C x).length = sz) → (l.flatMap C).length = l.length * sz
 | [], _ => by simp
 | x :: l, h => by
  rw [List.flatMap_cons, List.length_append, h x (by simp), c6 l (fun y hy => h y (List.mem_cons_of_mem _ hy)), List.length_cons, Nat.succ_mul]; omega
theorem zY (l : List α) (h : ∀ x ∈ l, (C x).length = sz) (i : Nat) (hi : i < l.length) : l.flatMap C = (l.take i).flatMap C ++ (C l[i] ++ (l.drop (i + 1)).flatMap C) ∧ ((l.take i).flatMap C).length = i * sz := by
 refine ⟨?_, ?_⟩
 ·
  have e : l = l.take i ++ l[i] :: l.drop (i + 1) := by rw [← List.drop_eq_getElem_cons hi, List.take_append_drop]
  conv => lhs; rw [e]
  rw [List.flatMap_append, List.flatMap_cons]
 ·
  rw [c6 _ (fun x hx => h x (List.mem_of_mem_take hx)), List.length_take]; congr 1; omega
theorem sH (l : List α) (h : ∀ x ∈ l, (C x).length = sz) (i : Nat) (hi : i < l.length) : ((l.flatMap C).drop (i * sz)).take sz = C l[i] := by
 obtain ⟨e, e2⟩ := zY l h i hi
 rw [e, List.drop_left' e2, List.take_left' (h _ (List.getElem_mem hi))]
theorem JR (l : List α) (h : ∀ x ∈ l, (C x).length = sz) (rest : List Value) (lo : Nat) (hlo : lo ≤ l.length) : aJ (l.flatMap C ++ rest) (lo * sz) ((l.drop lo).flatMap C) := by
 refine ⟨(l.take lo).flatMap C, rest, ?_, ?_⟩
 ·
  rw [← List.append_assoc, ← List.flatMap_append, List.take_append_drop]
 ·
  rw [c6 _ (fun x hx => h x (List.mem_of_mem_take hx)), List.length_take]; congr 1; omega
theorem pM (l : List α) (h : ∀ x ∈ l, (C x).length = sz) (rest : List Value) {i oo : Nat} (hi : i < l.length) {x : α} (hx : (C x).length = sz) (ho : oo = i * sz) : Laid (l.flatMap C ++ rest) oo (C x) ((l.set i x).flatMap C ++ rest) := by
 subst ho
 refine Laid.left ?_
 obtain ⟨e, e2⟩ := zY l h i hi
 have e3 : (l.set i x).flatMap C = (l.take i).flatMap C ++ (C x ++ (l.drop (i + 1)).flatMap C) := by
  rw [List.set_eq_take_append_cons_drop, if_pos hi, List.flatMap_append, List.flatMap_cons]
 rw [e, e3]
 exact Laid.right (o := 0) (Laid.left (Laid.all (by rw [h _ (List.getElem_mem hi), hx]))) (by rw [e2]; omega)
theorem EK (l : List α) (h : ∀ x ∈ l, (C x).length = sz) (t : Nat) (ht : t ≤ l.length) (rest : List Value) : (l.flatMap C ++ rest).take (t * sz) = (l.take t).flatMap C := by
 have h1 : ((l.take t).flatMap C).length = t * sz := by rw [c6 _ (fun x hx => h x (List.mem_of_mem_take hx)), List.length_take]; congr 1; omega
 have h2 : l.flatMap C = (l.take t).flatMap C ++ (l.drop t).flatMap C := by rw [← List.flatMap_append, List.take_append_drop]
 rw [h2, List.append_assoc, List.take_left' h1]
theorem JQ (l : List α) (h : ∀ x ∈ l, (C x).length = sz) (lo n : Nat) (hlo : lo + n ≤ l.length) : ((l.flatMap C).drop (lo * sz)).take (n * sz) = ((l.drop lo).take n).flatMap C := by
 have h2 : l.flatMap C = (l.take lo).flatMap C ++ (l.drop lo).flatMap C := by rw [← List.flatMap_append, List.take_append_drop]
 have h1 : ((l.take lo).flatMap C).length = lo * sz := by rw [c6 _ (fun x hx => h x (List.mem_of_mem_take hx)), List.length_take]; congr 1; omega
 rw [h2, List.drop_left' h1]
 have := EK (C := C) (l.drop lo) (fun x hx => h x (List.mem_of_mem_drop hx)) n (by rw [List.length_drop]; omega) []
 rwa [List.append_nil] at this
end
structure Ch where
 k : List UInt8
 s : Value
 v : List UInt8
 d : Bool
def dV (c : Ch) : List Value := kc c.k ++ ([c.s] ++ [.bool c.d])
def XL (l : List Ch) : Prop := ∀ c ∈ l, c.k.length = 32
def fW (v : Value) (l : List Ch) (w : World) : Prop := cR w v 34 l.length (l.flatMap dV)
def gH (l : List Ch) (w : World) : Prop := ∀ c ∈ l, bI c.s c.v w
def rL (l : List Ch) : Prop := l.Pairwise fun a b => num a.k < num b.k
def oO (l : List Ch) : Prop := ∀ c ∈ l, c.v.length ≤ 1000000
theorem iQ {c : Ch} (h : c.k.length = 32) : (dV c).length = 34 := by simp [dV, aO, h]
theorem XL.len {l : List Ch} (h : XL l) : ∀ c ∈ l, (dV c).length = 34 := fun c hc => iQ (h c hc)
theorem XL.take {l : List Ch} (h : XL l) (i : Nat) : XL (l.take i) := fun c hc => h c (List.mem_of_mem_take hc)
theorem XL.drop {l : List Ch} (h : XL l) (i : Nat) : XL (l.drop i) := fun c hc => h c (List.mem_of_mem_drop hc)
theorem XL.sub {l m : List Ch} (h : XL l) (hs : ∀ c ∈ m, c ∈ l) : XL m := fun c hc => h c (hs c hc)
theorem gH.sub {l m : List Ch} {w : World} (h : gH l w) (hs : ∀ c ∈ m, c ∈ l) : gH m w := fun c hc => h c (hs c hc)
theorem k9 {c : Ch} (h : c.s.oneCell' = true) : eF (dV c) := bO (bJ _) (bO (dW h) (bE _ rfl))
theorem fW.rd {v : Value} {l : List Ch} {w : World} (h : fW v l w) (hk : XL l) (i : Nat) (hi : i < l.length) : cX w (jF v (i * 34)) (dV l[i]) := by
 have := cR.rd h i hi
 rwa [sH l hk.len i hi] at this
theorem fW.sub {v : Value} {l : List Ch} {w : World} (h : fW v l w) (hk : XL l) {lo hi : Nat} (h1 : lo ≤ hi) (h2 : hi ≤ l.length) : fW (iR v 34 lo hi) ((l.drop lo).take (hi - lo)) w := by
 have := cR.sub h h1 h2
 rw [JQ l hk.len lo (hi - lo) (by omega)] at this
 unfold fW
 rwa [show ((l.drop lo).take (hi - lo)).length = hi - lo by simp; omega]
theorem fW.K8 {v : Value} {l : List Ch} {w : World} (h : fW v l w) (hk : XL l) {lo hi : Nat} (h1 : lo ≤ hi) (h2 : hi ≤ l.length) : fW (mF v 34 lo hi) ((l.drop lo).take (hi - lo)) w := by
 have := cR.K8 h h1 h2
 rw [JQ l hk.len lo (hi - lo) (by omega)] at this
 unfold fW
 rwa [show ((l.drop lo).take (hi - lo)).length = hi - lo by simp; omega]
def Ch.en (c : Ch) : En := ⟨c.k, c.s, c.v⟩
def xX (m : List En) (c : Ch) : List En := if c.d then eX m c.k else gJ m c.en
def lE (m : List En) (l : List Ch) : List En := l.foldl xX m
theorem XR {m : List En} {c : Ch} (h : lD m) (hk : KL m) (hc : c.k.length = 32) : lD (xX m c) ∧ KL (xX m c) := by
 unfold xX
 split
 ·
  exact ⟨h.filter _, fun e he => hk e (iO.1 he).1⟩
 ·
  exact ⟨wE h hk hc, A7 hk hc⟩
theorem JD {m : List En} {c : Ch} {e : En} : e ∈ xX m c ↔ (c.d = false ∧ e = c.en) ∨ (e ∈ m ∧ e.k ≠ c.k) := by
 unfold xX
 split
 ·
  rename_i h
  rw [iO, h]; simp
 ·
  rename_i h
  have h2 : c.d = false := by simpa using h
  rw [nA, h2]; simp [Ch.en]
theorem kJ : ∀ (l : List Ch) (m : List En), lD m → KL m → XL l → lD (lE m l) ∧ KL (lE m l)
 | [], _, h, hk, _ => ⟨h, hk⟩
 | c :: l, m, h, hk, hx => by
  have h1 := XR h hk (hx c (by simp))
  exact kJ l (xX m c) h1.1 h1.2 fun d hd => hx d (List.mem_cons_of_mem _ hd)
theorem kK : ∀ (l : List Ch) (m : List En) (e : En), rL l → (e ∈ lE m l ↔ (∃ c ∈ l, c.d = false ∧ e = c.en) ∨ (e ∈ m ∧ ∀ c ∈ l, e.k ≠ c.k))
 | [], m, e, _ => by simp [lE]
 | c :: l, m, e, hl => by
  have h1 := List.pairwise_cons.1 hl
  have ih := kK l (xX m c) e h1.2
  show e ∈ lE (xX m c) l ↔ _
  rw [ih, JD]
  constructor
  ·
   rintro (⟨x, hx, h2, h3⟩ | ⟨⟨h2, h3⟩ | ⟨h2, h3⟩, h4⟩)
   ·
    exact .inl ⟨x, List.mem_cons_of_mem _ hx, h2, h3⟩
   ·
    exact .inl ⟨c, by simp, h2, h3⟩
   ·
    refine .inr ⟨h2, fun x hx => ?_⟩
    rcases List.mem_cons.1 hx with rfl | hx
    ·
     exact h3
    ·
     exact h4 x hx
  ·
   rintro (⟨x, hx, h2, h3⟩ | ⟨h2, h3⟩)
   ·
    rcases List.mem_cons.1 hx with rfl | hx
    ·
     refine .inr ⟨.inl ⟨h2, h3⟩, fun y hy => ?_⟩
     have := h1.1 y hy
     rw [h3]
     intro hh
     have : num x.k = num y.k := congrArg num hh
     omega
    ·
     exact .inl ⟨x, hx, h2, h3⟩
   ·
    exact .inr ⟨.inr ⟨h2, h3 c (by simp)⟩, fun y hy => h3 y (List.mem_cons_of_mem _ hy)⟩
theorem rL.sub {l m : List Ch} (h : rL l) (hs : m.Sublist l) : rL m := List.Pairwise.sublist hs h
def k7 (l : List Ch) (d b : Nat) : List Ch := l.filter fun c => bH c.k d == b
theorem zI (l : List Ch) (d b : Nat) : (k7 l d b).Sublist l := List.filter_sublist
theorem gL {l : List Ch} {d b : Nat} {c : Ch} : c ∈ k7 l d b ↔ c ∈ l ∧ bH c.k d = b := by simp [k7]
theorem E8 {m : List En} {l : List Ch} {d b : Nat} (hs : lD m) (hk : KL m) (hx : XL l) (hl : rL l) : bP (lE m l) d b = lE (bP m d b) (k7 l d b) := by
 have h1 := kJ l m hs hk hx
 have h2 := kJ (k7 l d b) (bP m d b) hs.part (fun e he => hk e (hZ.1 he).1) (hx.sub fun c hc => (gL.1 hc).1)
 refine lD.ext h1.1.part h2.1 fun e => ?_
 rw [hZ, kK _ _ _ hl, kK _ _ _ (hl.sub (zI l d b))]
 constructor
 ·
  rintro ⟨⟨c, hc, h3, rfl⟩ | ⟨h3, h4⟩, h5⟩
  ·
   exact .inl ⟨c, gL.2 ⟨hc, h5⟩, h3, rfl⟩
  ·
   exact .inr ⟨hZ.2 ⟨h3, h5⟩, fun c hc => h4 c (gL.1 hc).1⟩
 ·
  rintro (⟨c, hc, h3, rfl⟩ | ⟨h3, h4⟩)
  ·
   exact ⟨.inl ⟨c, (gL.1 hc).1, h3, rfl⟩, (gL.1 hc).2⟩
  ·
   have h5 := hZ.1 h3
   refine ⟨.inr ⟨h5.1, fun c hc hh => ?_⟩, h5.2⟩
   exact h4 c (gL.2 ⟨hc, by rw [← hh]; exact h5.2⟩) hh
def oV (d : Nat) (m : List En) (l : List Ch) : Prop := ∃ p, (∀ e ∈ m, pre d e.k = p) ∧ ∀ c ∈ l, pre d c.k = p
theorem oV.part {d b : Nat} {m : List En} {l : List Ch} (h : oV d m l) (hd : d < 256) (hk : KL m) (hx : XL l) : oV (d + 1) (bP m d b) (k7 l d b) := by
 obtain ⟨p, h1, h2⟩ := h
 refine ⟨2 * p + b, fun e he => ?_, fun c hc => ?_⟩
 ·
  have := hZ.1 he
  rw [kT _ (hk e this.1) d hd, h1 e this.1, this.2]
 ·
  have := gL.1 hc
  rw [kT _ (hx c this.1) d hd, h2 c this.1, this.2]
theorem oV.zero {m : List En} {l : List Ch} (hk : KL m) (hx : XL l) : oV 0 m l := ⟨0, fun e he => mV _ (hk e he), fun c hc => mV _ (hx c hc)⟩
theorem aBZ {d : Nat} {m : List En} {l : List Ch} (hd : d ≤ 256) (hs : lD m) (hk : KL m) (hx : XL l) (hl : rL l) (hn : oV d m l) : Pm d (lE m l) where
 le := hd
 kl := (kJ l m hs hk hx).2
 MK := (kJ l m hs hk hx).1.MK
 com := by
  obtain ⟨p, h1, h2⟩ := hn
  have h : ∀ e ∈ lE m l, pre d e.k = p := fun e he => by
   rcases (kK _ _ _ hl).1 he with ⟨c, hc, _, rfl⟩ | ⟨he, _⟩
   ·
    exact h2 c hc
   ·
    exact h1 e he
  exact fun a ha b hb => (h a ha).trans (h b hb).symm
theorem oV.one {m : List En} {l : List Ch} (h : oV 256 m l) (hx : XL l) (hl : rL l) : l.length ≤ 1 := by
 obtain ⟨p, _, h2⟩ := h
 match l, hx, hl, h2 with
 | [], _, _, _ => simp
 | [a], _, _, _ => simp
 | a :: b :: l, _, hl, h2 =>
  exfalso
  have h3 := (List.pairwise_cons.1 hl).1 b (by simp)
  have h4 := h2 a (by simp)
  have h5 := h2 b (by simp)
  rw [pF] at h4 h5
  omega
def eB (l : List Ch) : List Ch := l.filter fun c => !c.d
theorem zM (l : List Ch) : (eB l).Sublist l := List.filter_sublist
theorem iP {l : List Ch} {c : Ch} : c ∈ eB l ↔ c ∈ l ∧ c.d = false := by simp [eB]
theorem SN {l : List Ch} (hx : XL l) (hl : rL l) : lE [] (eB l) = lE [] l := by
 have h0 : lD ([] : List En) := List.Pairwise.nil
 have h1 : KL ([] : List En) := fun _ h => by cases h
 refine lD.ext (kJ _ _ h0 h1 (hx.sub fun c hc => (iP.1 hc).1)).1 (kJ _ _ h0 h1 hx).1 fun e => ?_
 rw [kK _ _ _ (hl.sub (zM l)), kK _ _ _ hl]
 constructor
 ·
  rintro (⟨c, hc, h2, h3⟩ | ⟨h, _⟩)
  ·
   exact .inl ⟨c, (iP.1 hc).1, h2, h3⟩
  ·
   cases h
 ·
  rintro (⟨c, hc, h2, h3⟩ | ⟨h, _⟩)
  ·
   exact .inl ⟨c, iP.2 ⟨hc, h2⟩, h2, h3⟩
  ·
   cases h
theorem MW {l : List Ch} {e : En} (hx : XL l) (hl : rL l) (he : e.k.length = 32) (h : ∃ c ∈ l, c.k = e.k) : lE [e] l = lE [] l := by
 have h0 : lD ([] : List En) := List.Pairwise.nil
 have h1 : KL ([] : List En) := fun _ h => by cases h
 have h2 : lD [e] := List.pairwise_cons.2 ⟨(fun _ h => by cases h), .nil⟩
 have h3 : KL [e] := fun x hx => by rw [List.mem_singleton.1 hx]; exact he
 refine lD.ext (kJ _ _ h2 h3 hx).1 (kJ _ _ h0 h1 hx).1 fun x => ?_
 rw [kK _ _ _ hl, kK _ _ _ hl]
 obtain ⟨c, hc, hk⟩ := h
 constructor
 ·
  rintro (h | ⟨h4, h5⟩)
  ·
   exact .inl h
  ·
   rw [List.mem_singleton.1 h4] at h5
   exact absurd hk.symm (h5 c hc)
 ·
  rintro (h | ⟨h4, _⟩)
  ·
   exact .inl h
  ·
   cases h4
theorem KG {l l' : List Ch} {e : En} (hx : XL l) (hl : rL l) (QE : rL l') (he : e.k.length = 32) (hn : ∀ c ∈ l, c.k ≠ e.k) (hm : ∀ c, c ∈ l' ↔ c = ⟨e.k, e.s, e.v, false⟩ ∨ c ∈ l) : lE [] l' = lE [e] l := by
 have h0 : lD ([] : List En) := List.Pairwise.nil
 have h1 : KL ([] : List En) := fun _ h => by cases h
 have h2 : lD [e] := List.pairwise_cons.2 ⟨(fun _ h => by cases h), .nil⟩
 have h3 : KL [e] := fun x hx => by rw [List.mem_singleton.1 hx]; exact he
 have hx' : XL l' := fun c hc => by
  rcases (hm c).1 hc with rfl | h
  ·
   exact he
  ·
   exact hx c h
 refine lD.ext (kJ _ _ h0 h1 hx').1 (kJ _ _ h2 h3 hx).1 fun x => ?_
 rw [kK _ _ _ QE, kK _ _ _ hl]
 constructor
 ·
  rintro (⟨c, hc, h4, h5⟩ | ⟨h, _⟩)
  ·
   rcases (hm c).1 hc with rfl | hc
   ·
    exact .inr ⟨by rw [h5]; exact List.mem_singleton.2 rfl, fun c hc hh => hn c hc (by rw [← hh, h5]; rfl)⟩
   ·
    exact .inl ⟨c, hc, h4, h5⟩
  ·
   cases h
 ·
  rintro (⟨c, hc, h4, h5⟩ | ⟨h4, h5⟩)
  ·
   exact .inl ⟨c, (hm c).2 (.inr hc), h4, h5⟩
  ·
   exact .inl ⟨_, (hm _).2 (.inl rfl), rfl, List.mem_singleton.1 h4⟩
theorem XQ (l : List Ch) : ∀ m : List En, (lE m l).length ≤ m.length + l.length := by
 induction l with
 | nil => intro m; simp [lE]
 | cons c l ih =>
  intro m
  have h := ih (xX m c)
  have h1 : (xX m c).length ≤ m.length + 1 := by
   unfold xX
   split
   ·
    have := List.length_filter_le (fun x => decide (x.k ≠ c.k)) m; show (eX m c.k).length ≤ _; unfold eX; omega
   ·
    exact DF m c.en
  show (lE (xX m c) l).length ≤ _
  rw [List.length_cons]; omega
theorem DK {l : List Ch} {d : Nat} {m : List En} (hx : XL l) (hl : rL l) (hn : oV d m l) (hd : d < 256) {r : Nat} (hr : r ≤ l.length) (hlo : ∀ i (h : i < l.length), i + 1 = r → bH l[i].k d ≠ 1) (hhi : ∀ h : r < l.length, bH l[r].k d = 1) : l.take r = k7 l d 0 ∧ l.drop r = k7 l d 1 := by
 obtain ⟨p, _, hp⟩ := hn
 have ZL : ∀ i j (hij : i < j) (hj : j < l.length), bH (l[i]'(by omega)).k d = 1 → bH l[j].k d = 1 := fun i j hij hj h1 => by
  have hi : i < l.length := by omega
  have hb := eD l[j].k d
  have hn' := List.pairwise_iff_getElem.1 hl i j hi hj hij
  rcases (show bH l[j].k d = 0 ∨ bH l[j].k d = 1 by omega) with h0 | h0
  ·
   have := LP (hx _ (List.getElem_mem hj)) (hx _ (List.getElem_mem hi)) hd ((hp _ (List.getElem_mem hj)).trans (hp _ (List.getElem_mem hi)).symm) h0 h1
   omega
  ·
   exact h0
 have h0 : ∀ c ∈ l.take r, bH c.k d = 0 := fun c hc => by
  obtain ⟨i, hi, rfl⟩ := List.getElem_of_mem hc
  rw [List.length_take] at hi
  rw [List.getElem_take]
  have hb := eD (l[i]'(by omega)).k d
  rcases (show bH (l[i]'(by omega)).k d = 0 ∨ bH (l[i]'(by omega)).k d = 1 by omega) with h | h
  ·
   exact h
  ·
   exfalso
   have h2 := hlo (r - 1) (by omega) (by omega)
   apply h2
   rcases Nat.lt_or_ge i (r - 1) with h3 | h3
   ·
    exact ZL i (r - 1) h3 (by omega) h
   ·
    have : i = r - 1 := by omega
    subst this; exact h
 have h1 : ∀ c ∈ l.drop r, bH c.k d = 1 := fun c hc => by
  obtain ⟨i, hi, rfl⟩ := List.getElem_of_mem hc
  rw [List.length_drop] at hi
  rw [List.getElem_drop]
  rcases Nat.eq_zero_or_pos i with h | h
  ·
   subst h; exact hhi (by omega)
  ·
   exact ZL r (r + i) (by omega) (by omega) (hhi (by omega))
 have e : l = l.take r ++ l.drop r := (List.take_append_drop r l).symm
 constructor
 ·
  unfold k7
  conv => rhs; rw [e]
  rw [List.filter_append, List.filter_eq_self.2 (fun c hc => by rw [h0 c hc]; rfl), List.filter_eq_nil_iff.2 (fun c hc => by rw [h1 c hc]; simp), List.append_nil]
 ·
  unfold k7
  conv => rhs; rw [e]
  rw [List.filter_append, List.filter_eq_nil_iff.2 (fun c hc => by rw [h0 c hc]; simp), List.filter_eq_self.2 (fun c hc => by rw [h1 c hc]; rfl), List.nil_append]
theorem aEC {α : Type} {l : List α} {z : α} {i m : Nat} (h : i < l.length) : (l.take i ++ List.replicate (m + 1) z).set i l[i] = l.take (i + 1) ++ List.replicate m z := by
 have h1 : (l.take i).length = i := by rw [List.length_take]; omega
 rw [List.set_append_right (h := by omega), h1, Nat.sub_self, List.replicate_succ, List.set_cons_zero, List.take_succ_eq_append_getElem h, List.append_assoc]
 rfl
def KS (l : List Ch) (i : Nat) : List (List UInt8) := (l.map Ch.k).take i ++ List.replicate (l.length - i) (List.replicate 32 0)
theorem TG {l : List Ch} (h : XL l) (i : Nat) : ∀ k ∈ KS l i, (kc k).length = 32 := fun k hk => by
 rcases List.mem_append.1 hk with hk | hk
 ·
  obtain ⟨c, hc, rfl⟩ := List.mem_map.1 (List.mem_of_mem_take hk)
  rw [aO]; exact h c hc
 ·
  rw [(List.mem_replicate.1 hk).2]; simp [aO]
theorem aCj (l : List Ch) {i : Nat} (hi : i ≤ l.length) : (KS l i).length = l.length := by simp [KS]; omega
theorem aCi {l : List Ch} {i : Nat} (hi : i < l.length) : (KS l i).set i l[i].k = KS l (i + 1) := by
 have h := aEC (l := l.map Ch.k) (z := List.replicate 32 (0 : UInt8)) (i := i) (m := l.length - (i + 1)) (by rw [List.length_map]; exact hi)
 rw [List.getElem_map] at h
 unfold KS
 rw [show l.length - i = l.length - (i + 1) + 1 by omega]
 exact h
theorem TH (l : List Ch) : KS l l.length = l.map Ch.k := by
 unfold KS
 rw [List.take_of_length_le (by simp), Nat.sub_self]; simp
theorem vN (n m : Nat) (z : Value) (hm : 0 < m) : jC n (List.replicate m z) = List.replicate (n * m) z := by
 unfold jC
 simp only [List.length_replicate]
 refine List.ext_getElem (by simp) fun i h1 h2 => ?_
 rw [List.getElem_replicate, List.getElem_map, getElem!_pos (List.replicate m z) _ (by rw [List.length_replicate]; exact Nat.mod_lt _ hm), List.getElem_replicate]
theorem X5 (l : List Ch) : (KS l 0).flatMap kc = jC l.length (kc (List.replicate 32 0)) := by
 have e : kc (List.replicate 32 0) = List.replicate 32 (.int .u8 0) := by rfl
 have h1 : (KS l 0).flatMap kc = List.replicate (l.length * 32) (.int .u8 0) := by
  unfold KS
  rw [List.take_zero, List.nil_append, Nat.sub_zero, List.flatMap_replicate, e, List.flatten_replicate_replicate]
 rw [h1, e, vN _ _ _ (by decide)]
theorem FF {l : List Ch} (h : XL l) : K32 (l.map Ch.k) := fun k hk => by
 obtain ⟨c, hc, rfl⟩ := List.mem_map.1 hk
 exact h c hc
theorem R7 {X : Nat → Prop} {w : World} {k : List UInt8} {s : Value} {d : Bool} (hX : cU X w) (hk : k.length = 32) :
  bF prog 146 [.agg (kc k ++ ([s] ++ [Value.bool d])).toArray].toArray w fun v w' => v = .agg (kc k).toArray ∧ Out Nil w w' := by
 refine bF.aI (N := 5) func146 rfl rfl (by simp) ?_
 have H := St.begin hX
 refine WE.aA ?_
 refine WL.box (l := kc k ++ ([s] ++ [Value.bool d])) H rfl (rfl) rfl ?_
 intro b1 w1 H
 refine WL.alloc H rfl rM rfl ?_
 intro b2 w2 H
 refine WL.nil (WE.aA (WL.pv (PV.fieldAddr rfl pX rfl) rfl ?_))
 refine WL.bC rfl cV rfl rfl (aM.aF (H.l 1 rfl) (aJ.l (aJ.all _)) rfl) (cH cM (by simp only [aR]; omega)) ?_
 refine WL.aT H 0 rfl rfl rfl (new := _) rfl (cH cM (by simp only [aR]; omega)) (bJ _) (Laid.at (Laid.all (by simp only [aR]; omega)) rfl) rfl ?_
 intro w3 H
 refine WL.nil (WE.ret ⟨[_], _, .nil _, ⟨⟨_, rfl, aW cV (aM.aF (H.l 0 rfl) (aJ.all _) rfl) (cH cM (by simp only [aR]; omega))⟩, trivial⟩, ?_⟩)
 exact ⟨rfl, H.aL⟩
theorem SJ {X : Nat → Prop} {w : World} {k : List UInt8} {s : Value} {d : Bool} (hX : cU X w) (hk : k.length = 32) :
  bF prog 152 [.agg (kc k ++ ([s] ++ [Value.bool d])).toArray].toArray w fun v w' => v = .agg (kc k).toArray ∧ Out Nil w w' := by
 refine bF.aI (N := 5) func152 rfl rfl (by simp) ?_
 have H := St.begin hX
 refine WE.aA ?_
 refine WL.box (l := kc k ++ ([s] ++ [Value.bool d])) H rfl (rfl) rfl ?_
 intro b1 w1 H
 refine WL.alloc H rfl rM rfl ?_
 intro b2 w2 H
 refine WL.nil (WE.aA (WL.pv (PV.fieldAddr rfl pX rfl) rfl ?_))
 refine WL.bC rfl cV rfl rfl (aM.aF (H.l 1 rfl) (aJ.l (aJ.all _)) rfl) (cH cM (by simp only [aR]; omega)) ?_
 refine WL.aT H 0 rfl rfl rfl (new := _) rfl (cH cM (by simp only [aR]; omega)) (bJ _) (Laid.at (Laid.all (by simp only [aR]; omega)) rfl) rfl ?_
 intro w3 H
 refine WL.nil (WE.ret ⟨[_], _, .nil _, ⟨⟨_, rfl, aW cV (aM.aF (H.l 0 rfl) (aJ.all _) rfl) (cH cM (by simp only [aR]; omega))⟩, trivial⟩, ?_⟩)
 exact ⟨rfl, H.aL⟩
theorem SK {X : Nat → Prop} {w : World} {k : List UInt8} {s : Value} {d : Bool} (hX : cU X w) (hk : k.length = 32) :
  bF prog 150 [.agg (kc k ++ ([s] ++ [Value.bool d])).toArray].toArray w fun v w' => v = .bool d ∧ Out Nil w w' := by
 refine bF.aI (N := 5) func150 rfl rfl (by simp) ?_
 have H := St.begin hX
 refine WE.aA ?_
 refine WL.box (l := kc k ++ ([s] ++ [Value.bool d])) H rfl (rfl) rfl ?_
 intro b1 w1 H
 refine WL.as rfl rfl (WL.nil (WE.aA (WL.pv (PV.fieldAddr rfl WR rfl) rfl ?_)))
 refine WL.aY rfl uC rfl rfl (aM.aF (H.l 0 rfl) (aJ.r (aJ.r (aJ.all _) rfl) rfl) (by simp [aO, bA, *])) ?_
 refine WL.as rfl rfl (WL.nil (WE.ret ⟨[_], _, .nil _, ⟨rfl, trivial⟩, ?_⟩))
 exact ⟨rfl, H.aL⟩
theorem PY {X : Nat → Prop} {w : World} {s f : Value} {l : List Ch} (hX : cU X w) (bT : aH X (fW s l) w) (hx : XL l) (hlen : l.length ≤ 1000000) (fV : ∀ c ∈ l, c.s.oneCell' = true) (hf : ∀ (c : Ch) (W : World), c.k.length = 32 → eV prog f [.agg (dV c).toArray] W fun v W' => v = .agg (kc c.k).toArray ∧ Out Nil W W') :
  bF prog 145 [s, f].toArray w fun v w' => Out Nil w w' ∧ aH X (eQ v (l.map Ch.k)) w' := by
 refine bF.aI (N := 26) func145 rfl rfl (by simp) ?_
 have H := (St.begin hX).add (cE bT)
 refine WE.aA (WL.as rfl rfl (WL.nil (WE.aA (WL.mv rfl rfl ?_))))
 refine WL.pv (PV.dO (by exact (H.p 0 rfl : fW s l _)) dR rfl) rfl ?_
 refine WL.makeSlice (n := l.length) H rfl aCY rfl (by omega) (by omega) rfl ?_
 intro sW w2 H
 replace H := H.conv (L' := [aN.blk sW 24 ((KS l 0).flatMap kc)]) (by rw [X5])
 refine WL.as rfl rfl (WL.nil (WE.seq (WE.aA (WL.mv rfl rfl ?_))))
 refine WL.pv (PV.dO (by exact (H.p 0 rfl : fW s l _)) dR rfl) rfl ?_
 refine WL.mv rfl rfl (WL.nil (WE.block ?_))
 refine WE.loop (α := Nat) (rg [(6, 2), (13, 12)]) (fun i => [(13, .int .i64 (i : Int))]) (fun i wl => i ≤ l.length ∧ St X w wl [] [aN.blk sW 24 ((KS l i).flatMap kc)] [fW s l]) (fun i => l.length - i) 0 ⟨rfl, trivial⟩ ⟨Nat.zero_le _, H⟩ ?_
 intro i γ0 w4 hI
 try dsimp only at hI
 obtain ⟨hi, H⟩ := hI
 refine WE.aA (WL.pv (PV.lss rfl rfl rfl) rfl (WL.nil (WE.seq ?_)))
 refine WE.cond rfl (fun q5 => ?_) (fun q5 => ?_)
 ·
  try simp only [bU] at q5
  have hlt : i < l.length := by omega
  have hki := hx _ (List.getElem_mem hlt)
  have QW := iQ hki
  have hks := aCi hlt
  refine WE.skip (WE.seq (WE.block (WE.aA (WL.mv rfl rfl ?_))))
  refine WL.pv (PV.eO rfl (by exact (H.p 0 rfl : fW s l _)) dR eE rfl rfl (by omega) (by omega)) rfl ?_
  refine WL.bC rfl sN rfl rfl (fW.rd (by exact (H.p 0 rfl : fW s l _)) hx i hlt) (by (rw [eE]; refine congrArg some ?_; (simp [aO, bA, *]; done))) ?_
  refine WL.alloc H rfl y5 rfl ?_
  intro b7 w5 H
  refine WL.as rfl rfl ?_
  refine WL.aT H 0 rfl rfl rfl (new := dV l[i]) rfl (by (rw [eE]; refine congrArg some ?_; (simp [aO, bA, *]; done))) (k9 (fV _ (List.getElem_mem hlt))) (Laid.at (Laid.all (by simp only [aR]; omega)) rfl) rfl ?_
  intro w6 H
  refine WL.nil (WE.eH (WL.mv rfl rfl (WL.mv rfl rfl (WL.mv rfl rfl ?_))))
  refine WL.bC rfl sN rfl rfl (aM.aF (H.l 0 rfl) (aJ.all _) rfl) (by (rw [eE]; refine congrArg some ?_; (simp [aO, bA, *]; done))) ?_
  refine WL.iK rfl rfl (hf l[i] _ hki) ?_
  rintro _ w8 ⟨rfl, hO⟩
  replace H := H.out hO
  refine WL.pv (PV.eq (v' := .pointer (some ⟨sW, i * 32, none⟩)) (PV.vA rfl vX cM rfl rfl (by omega) (by omega)) (by simp)) rfl ?_
  refine WL.aT H 1 rfl rfl rfl (new := kc l[i].k) rfl (cH cM (by simp only [aR]; omega)) (bJ _) (by have h_ := pM (C := kc) (KS l i) (TG hx i) [] (i := i) (x := l[i].k) (by rw [aCj _ (by omega)]; exact hlt) (by rw [aO]; exact hki) rfl; rw [List.append_nil, List.append_nil] at h_; exact h_) rfl ?_
  intro vR H
  refine WL.nil (WE.eH (WL.pv (PV.eq (v' := .int .i64 ((i + 1 : Nat) : Int)) (PV.bY rfl rfl rfl (by omega) (by omega)) rfl) rfl (WL.mv rfl rfl (WL.nil ?_))))
  replace H := H.forget 0
  exact ⟨i + 1, (by repeat (first | with_reducible exact bQ.refl _ _ | refine bQ.dG rfl ?_ | refine bQ.cC rfl ?_ | refine bQ.cB rfl ?_)), ⟨rfl, trivial⟩, rfl, ⟨by omega, H.conv (by rw [← hks]; rfl)⟩, (by omega)⟩
 ·
  try simp only [bU] at q5
  have uN : i = l.length := by omega
  refine WE.exit (WE.aA (WL.mv rfl rfl (WL.as rfl rfl (WL.nil (WE.ret ⟨[_], _, .nil _, ⟨rfl, trivial⟩, ?_⟩)))))
  subst uN
  rw [TH] at H
  replace H := H.freeze (i := 0) rfl
  exact ⟨H.aL, H.gQ ((H.bK 0 rfl).imp fun _ h => by have h_ := cR.bZ (n := l.length) h (by rw [c6 _ (TG hx l.length |> fun q => by rw [TH] at q; exact q), List.length_map]); unfold eQ; rw [List.length_map]; exact h_)⟩
def vG (g : FuncId) : Value := .func (.func g) ([] : List Value).toArray ([] : List Value).toArray
theorem EZ (c : Ch) (W : World) (h : c.k.length = 32) : eV prog (vG 146) [.agg (dV c).toArray] W fun v W' => v = .agg (kc c.k).toArray ∧ Out Nil W W' :=
 eV.iU (fs := []) (cs := []) aFw (R7 (X := Nil) (fun _ h => h.elim) h)
theorem E5 (c : Ch) (W : World) (h : c.k.length = 32) : eV prog (vG 152) [.agg (dV c).toArray] W fun v W' => v = .agg (kc c.k).toArray ∧ Out Nil W W' :=
 eV.iU (fs := []) (cs := []) aFr (SJ (X := Nil) (fun _ h => h.elim) h)
theorem E6 (c : Ch) (W : World) (h : c.k.length = 32) : eV prog (vG 150) [.agg (dV c).toArray] W fun v W' => v = .bool c.d ∧ Out Nil W W' :=
 eV.iU (fs := []) (cs := []) aFt (SK (X := Nil) (fun _ h => h.elim) h)
open Go.ChangeShapes Go.WideShapes Go.ChangeAt
instance : Inhabited En := ⟨⟨[], .slice none 0 0, []⟩⟩
theorem VN {H : Type} {enc : TypeId × Value → H} {W : World} {base : Nat} {sp : Nat → Bool} {held : Bool} : jB enc prog W base sp held 24 32 (fun cs => ∃ k : List UInt8, cs = kc k ∧ k.length = 32) :=
 (jB.u8s gM oW (by kernel_rfl) (by kernel_rfl)).mono fun cs ⟨k, h, e⟩ => ⟨k, e, h⟩
open Go.ChangeShapes Go.WideShapes Go.ChangeAt
def rA : List (List UInt8) → Int
 | a :: b :: r => if gN a b = 0 then 9 else if 0 < gN a b then 8 else rA (b :: r)
 | _ => 0
theorem MO {l : List (List UInt8)} {i : Nat} (h : i + 1 < l.length) : rA (l.drop i) = if gN l[i] l[i + 1] = 0 then 9 else if 0 < gN l[i] l[i + 1] then 8 else rA (l.drop (i + 1)) := by
 rw [List.drop_eq_getElem_cons (by omega : i < l.length), List.drop_eq_getElem_cons h]
 rfl
theorem R6 {l : List (List UInt8)} {i : Nat} (h : l.length ≤ i + 1) : rA (l.drop i) = 0 := by
 rcases Nat.lt_or_ge i l.length with hl | hl
 ·
  rw [List.drop_eq_getElem_cons hl, List.drop_eq_nil_of_le (by omega)]; rfl
 ·
  rw [List.drop_eq_nil_of_le hl]; rfl
theorem YD {X : Nat → Prop} {w : World} {s : Value} {ks : List (List UInt8)} (hX : cU X w) (bT : aH X (eQ s ks) w) (pT : K32 ks) (hlen : ks.length ≤ 1000000) :
  bF prog 144 [s].toArray w fun v w' => v = .int .i64 (rA ks) ∧ Out Nil w w' := by
 refine bF.aI (N := 27) func144 rfl rfl (by simp) ?_
 have H := (St.begin hX).add (cE bT)
 refine WE.aA (WL.as rfl rfl (WL.nil (WE.seq (WE.aA (WL.as rfl rfl (WL.nil (WE.block ?_)))))))
 refine WE.loop (α := Nat) (rg [(2, 25)]) (fun i => [(3, .int .i64 ((i + 1 : Nat) : Int))]) (fun i wl => i ≤ ks.length ∧ rA (ks.drop i) = rA ks ∧ St X w wl [] [] [eQ s ks]) (fun i => ks.length - i) 0 ⟨rfl, trivial⟩ ⟨Nat.zero_le _, rfl, H⟩ ?_
 intro i γ0 w1 hI
 try dsimp only at hI
 obtain ⟨hi, hch, H⟩ := hI
 refine WE.seq (WE.aA (WL.mv rfl rfl (WL.mv rfl rfl (WL.pv (PV.dO (H.p 0 rfl : eQ s ks _) vX rfl) rfl (WL.pv (PV.lss rfl rfl rfl) rfl (WL.nil ?_))))))
 refine WE.cond rfl (fun mP => ?_) (fun mP => ?_)
 ·
  try simp only [bU] at mP
  have hlt : i + 1 < ks.length := by omega
  have vE := pT _ (List.getElem_mem (show i < ks.length by omega))
  have CL := pT _ (List.getElem_mem hlt)
  have hst := MO hlt
  refine WE.skip (WE.seq (WE.block ?_))
  refine WE.bG (.take 0 (.take 1 (.take 2 (.take 3 (.take 4 (.take 5 (.take 6 (.take 7 (.take 8 (.aG 9 (.take 10 .done))))))))))) mixed (by kernel_rfl) ?_
  replace H := H.out (Out.drew _)
  refine WP.mv rfl rfl rfl (WP.mv rfl rfl rfl ?_)
  refine WP.aC rfl rfl (PV.eq (v' := .int .i64 ((i : Nat) : Int)) (PV.iS rfl rfl rfl (by omega) (by omega)) (by congr 1; omega)) ?_
  refine WP.aC rfl rfl (PV.eO rfl (H.p 0 rfl : eQ s ks _) vX cM rfl rfl (by omega) (by omega)) ?_
  refine WP.dF rfl rfl rfl cV rfl (eQ.rd (H.p 0 rfl : eQ s ks _) pT i (by omega)) (cH cM (by simp only [aR]; omega)) ?_
  refine WP.mv rfl rfl rfl (WP.mv rfl rfl rfl (WP.aC rfl rfl (PV.eO rfl (H.p 0 rfl : eQ s ks _) vX cM rfl rfl (by omega) (by omega)) ?_))
  refine WP.dF rfl rfl rfl cV rfl (eQ.rd (H.p 0 rfl : eQ s ks _) pT (i + 1) (by omega)) (cH cM (by simp only [aR]; omega)) ?_
  refine WP.aG rfl ?_
  refine WL.call aBG rfl (qN (k := ks[i]) (l := ks[i + 1]) H.aS  vE CL) ?_
  rintro _ w2 ⟨rfl, hO⟩
  replace H := H.out hO
  refine WL.nil ⟨(fa (nw 9 8) (fa (nw 9 4) c5)), ?_⟩
  refine WP.as rfl rfl rfl (WP.done (WE.block (WE.aA (WL.mv rfl rfl (WL.pv (PV.eql rfl rfl rfl) rfl (WL.as rfl rfl (WL.nil ?_)))))))
  refine WE.cond rfl (fun oF => ?_) (fun oF => ?_)
  ·
   try simp only [bU] at oF
   have hz0 : gN ks[i] ks[i + 1] = 0 := by exact oF
   refine WE.aA (WL.as rfl rfl (WL.nil (WE.ret ⟨[_], _, .nil _, ⟨rfl, trivial⟩, ?_⟩)))
   refine ⟨?_, H.aL⟩
   rw [← hch, hst, if_pos hz0]; rfl
  ·
   try simp only [bU] at oF
   have hn0 : ¬ gN ks[i] ks[i + 1] = 0 := by exact oF
   refine WE.aA (WL.mv rfl rfl (WL.pv (PV.gtr rfl rfl rfl) rfl (WL.as rfl rfl (WL.nil ?_))))
   refine WE.cond rfl (fun QZ => ?_) (fun QZ => ?_)
   ·
    try simp only [bU] at QZ
    have hp1 : 0 < gN ks[i] ks[i + 1] := by exact QZ
    refine WE.aA (WL.as rfl rfl (WL.nil (WE.ret ⟨[_], _, .nil _, ⟨rfl, trivial⟩, ?_⟩)))
    refine ⟨?_, H.aL⟩
    (rw [← hch, hst, if_neg hn0, if_pos hp1]; rfl)
   ·
    try simp only [bU] at QZ
    have T2 : ¬ 0 < gN ks[i] ks[i + 1] := by (have := QZ; omega)
    refine WE.skip (WE.eH (WL.mv rfl rfl ?_))
    refine WL.pv (PV.eq (v' := .int .i64 ((i + 1 + 1 : Nat) : Int)) (PV.bY rfl rfl rfl (by omega) (by omega)) (by congr 1)) rfl ?_
    refine WL.as rfl rfl (WL.nil ?_)
    exact ⟨i + 1, (by repeat (first | with_reducible exact bQ.refl _ _ | refine bQ.dG rfl ?_ | refine bQ.cC rfl ?_ | refine bQ.cB rfl ?_)), ⟨rfl, trivial⟩, rfl, ⟨by omega, by rw [← hch, hst, if_neg hn0, if_neg T2], H⟩, (by omega)⟩
 ·
  try simp only [bU] at mP
  have hen := R6 (l := ks) (i := i) (by omega)
  refine WE.exit (WE.aA (WL.as rfl rfl (WL.nil (WE.ret ⟨[_], _, .nil _, ⟨rfl, trivial⟩, ?_⟩))))
  refine ⟨?_, H.aL⟩
  rw [← hch, hen]; rfl
theorem fW.one {s : Value} {l : List Ch} {w : World} (h : gH l w) : ∀ c ∈ l, c.s.oneCell' = true := fun c hc => cR.fH (h c hc)
theorem BF {l : List Ch} (h : ∀ c ∈ l, c.s.oneCell' = true) : eF (l.flatMap dV) := fun v hv => by
 obtain ⟨c, hc, hv⟩ := List.mem_flatMap.1 hv
 exact k9 (h c hc) v hv
theorem AA {α : Type} {l m : List α} {i j : Nat} (h : l.drop i = m.drop i) (hj : i ≤ j) : l.drop j = m.drop j := by
 have := congrArg (List.drop (j - i)) h
 rwa [List.drop_drop, List.drop_drop, show i + (j - i) = j by omega] at this
theorem yI {α : Type} {l : List α} {i : Nat} {x : α} (h : i < l.length) : (l.set i x).take (i + 1) = l.take i ++ [x] := by
 rw [List.take_succ_eq_append_getElem (by rw [List.length_set]; exact h), List.getElem_set_self, List.take_set, List.set_eq_of_length_le (by rw [List.length_take]; omega)]
theorem wP {l : List Ch} {i : Nat} (h : i < l.length) : eB (l.take (i + 1)) = if l[i].d then eB (l.take i) else eB (l.take i) ++ [l[i]] := by
 unfold eB
 rw [List.take_succ_eq_append_getElem h, List.filter_append]
 split
 ·
  rename_i h1; simp [h1]
 ·
  rename_i h1; simp [h1]
theorem zN {l : List Ch} (h : ∀ c ∈ l, c.d = false) : eB l = l := List.filter_eq_self.2 fun c hc => by rw [h c hc]; rfl
theorem XL.set {l : List Ch} (h : XL l) (i : Nat) {x : Ch} (hx : x.k.length = 32) : XL (l.set i x) := fun e he => by
 rcases List.mem_or_eq_of_mem_set he with h1 | h1
 ·
  exact h e h1
 ·
  rw [h1]; exact hx
theorem fW.HN {w : World} {g n cap : Nat} {t : TypeId} {rs : List Ch} {rest : List Value} (h : aM w g t (rs.flatMap dV ++ rest)) (hk : XL rs) (hn : rs.length = n) (hc : n ≤ cap) : cR w (.slice (some ⟨g, 0, none⟩) n cap) 34 n (rs.flatMap dV) := by
 have h1 := JR rs hk.len rest 0 (Nat.zero_le _)
 rw [List.drop_zero] at h1
 exact cR.mY (h.aF h1 (by simp)) (by rw [c6 _ hk.len, hn]) hc
theorem aIy {w : World} {g j q : Nat} {t : TypeId} {rs ks : List Ch} {rest : List Value} (h : aM w g t (rs.flatMap dV ++ rest)) (hk : XL rs) (hrl : rs.length = ks.length) (hd : rs.drop q = ks.drop q) (hq : q ≤ j) (hl : j < ks.length) (n c : Nat) : cX w (jF (.slice (some ⟨g, 0, none⟩) n c) (j * 34)) (dV ks[j]) := by
 have h1 : rs[j]'(by omega) = ks[j] := by
  have e2 : (rs.drop q)[j - q]'(by rw [List.length_drop]; omega) = (ks.drop q)[j - q]'(by rw [List.length_drop]; omega) := by simp only [hd]
  rw [List.getElem_drop, List.getElem_drop] at e2
  simpa [show q + (j - q) = j by omega] using e2
 have h2 := fW.rd (show fW _ rs w from fW.HN (cap := rs.length) h hk rfl (Nat.le_refl _)) hk j (by omega)
 rw [h1] at h2
 exact h2
theorem gZ {g n cap lo hi : Nat} (h : lo < cap) : iR (.slice (some ⟨g, 0, none⟩) n cap) 34 lo hi = .slice (some ⟨g, lo * 34, none⟩) (hi - lo) (cap - lo) := by
 show Value.slice (if cap = lo then _ else _) _ _ = _
 rw [if_neg (by omega)]
 simp [lS]
theorem XD {X : Nat → Prop} {w : World} {s : Value} {l : List Ch} (hX : cU X w) (bT : aH X (fW s l) w) (hx : XL l) (hlen : l.length ≤ 1000000) (fV : ∀ c ∈ l, c.s.oneCell' = true) :
  bF prog 95 [s].toArray w fun v w' => v = .int .i64 (rA (l.map Ch.k)) ∧ Out Nil w w' := by
 refine bF.aI (N := 6) func95 rfl rfl (by simp) ?_
 have H := (St.begin hX).add (cE bT)
 refine WE.aA (WL.as rfl rfl (WL.nil (WE.aA (WL.mv rfl rfl ?_))))
 refine WL.call Z8 rfl (PY (s := s) (l := l) (f := vG 146) H.aS (H.bK 0 rfl) hx hlen fV EZ) ?_
 rintro v4 w1 ⟨hO, hR⟩
 replace H := (H.out hO).add hR
 refine WL.call aFx rfl (YD (ks := l.map Ch.k) H.aS (H.bK 0 rfl) (FF hx) (by rw [List.length_map]; exact hlen)) ?_
 rintro _ w2 ⟨rfl, hO⟩
 replace H := H.out hO
 refine WL.as rfl rfl (WL.nil (WE.ret ⟨[_], _, .nil _, ⟨rfl, trivial⟩, ?_⟩))
 exact ⟨rfl, H.aL⟩
theorem yB {X : Nat → Prop} {w : World} {s : Value} {l : List Ch} (hX : cU X w) (bT : aH X (fW s l) w) (hx : XL l) (hlen : l.length ≤ 1000000) (fV : ∀ c ∈ l, c.s.oneCell' = true) :
  bF prog 149 [s].toArray w fun v w' => Out Nil w w' ∧ w'.ownsRow w.heap.size 127 34 v (l).length ((l).flatMap dV) := by
 refine bF.aI (N := 8) func149 rfl rfl (by simp) ?_
 have H := (St.begin hX).add (cE bT)
 refine WE.aA (WL.as rfl rfl (WL.nil (WE.seq (WE.aA (WL.mv rfl rfl (WL.pv (PV.aAg rfl (H.p 0 rfl : fW s l _) dR rfl rfl) rfl (WL.nil ?_)))))))
 refine WE.cond rfl (fun V6 => ?_) (fun V6 => ?_)
 ·
  try simp only [bU] at V6
  have h0 : l = [] := List.eq_nil_of_length_eq_zero (cR.PL (H.p 0 rfl : fW s l _) V6)
  subst h0
  refine WE.aA (WL.as rfl rfl (WL.nil (WE.ret ⟨[_], _, .nil _, ⟨rfl, trivial⟩, ?_⟩)))
  exact ⟨H.aL, World.ownsRow_nil _ _ _ _⟩
 ·
  try simp only [bU] at V6
  refine WE.skip (WE.aA ?_)
  refine WL.bL (l0 := []) H rfl uG (by decide) rfl Fl.nil rfl ?_
  intro b5 w1 H
  replace H := H.IY (n := 0) (sz := 34) (i := 0) rfl rfl (by decide)
  refine WL.mv rfl rfl ?_
  refine WL.append H 0 uG (by decide) rfl rfl rfl (H.p 0 rfl : fW s l _) (BF fV) (by omega) (by decide) rfl ?_
  intro v7 w2 H
  refine WL.as rfl rfl (WL.nil (WE.ret ⟨[_], _, .nil _, ⟨rfl, trivial⟩, ?_⟩))
  exact ⟨H.aL, by have h_ := H.l 0 rfl; rw [Nat.zero_add] at h_; exact h_⟩
theorem FH {X : Nat → Prop} {w : World} {s f : Value} {l : List Ch} (hX : cU X w) (bT : aH X (fW s l) w) (hx : XL l) (hlen : l.length ≤ 1000000) (hf : ∀ (c : Ch) (W : World), c.k.length = 32 → eV prog f [.agg (dV c).toArray] W fun v W' => v = .bool c.d ∧ Out Nil W W') :
  bF prog 188 [s, f].toArray w fun v w' => ∃ z : Int, v = .int .i64 z ∧ Out Nil w w' ∧ ((z = -1 ∧ ∀ c ∈ l, c.d = false) ∨ ∃ i, ∃ h : i < l.length, z = ((i : Nat) : Int) ∧ l[i].d = true ∧ ∀ c ∈ l.take i, c.d = false) := by
 refine bF.aI (N := 19) func188 rfl rfl (by simp) ?_
 have H := (St.begin hX).add (cE bT)
 refine WE.aA (WL.as rfl rfl (WL.nil (WE.seq (WE.aA (WL.mv rfl rfl ?_)))))
 refine WL.pv (PV.dO (by exact (H.p 0 rfl : fW s l _)) dR rfl) rfl ?_
 refine WL.mv rfl rfl (WL.nil (WE.block ?_))
 refine WE.loop (α := Nat) (rg [(4, 2), (8, 11)]) (fun i => [(8, .int .i64 (i : Int))]) (fun i wl => i ≤ l.length ∧ (∀ c ∈ l.take i, c.d = false) ∧ St X w wl [] [] [fW s l]) (fun i => l.length - i) 0 ⟨rfl, trivial⟩ ⟨Nat.zero_le _, (fun c hc => by simp at hc), H⟩ ?_
 intro i γ0 w1 hI
 try dsimp only at hI
 obtain ⟨hi, hall, H⟩ := hI
 refine WE.aA (WL.pv (PV.lss rfl rfl rfl) rfl (WL.nil (WE.seq ?_)))
 refine WE.cond rfl (fun wY => ?_) (fun wY => ?_)
 ·
  try simp only [bU] at wY
  have hlt : i < l.length := by omega
  have hki := hx _ (List.getElem_mem hlt)
  have QW := iQ hki
  refine WE.skip (WE.seq (WE.block (WE.aA (WL.mv rfl rfl (WL.as rfl rfl (WL.nil (WE.aA ?_)))))))
  refine WL.mv rfl rfl (WL.mv rfl rfl (WL.mv rfl rfl ?_))
  refine WL.pv (PV.eO rfl (by exact (H.p 0 rfl : fW s l _)) dR eE rfl rfl (by omega) (by omega)) rfl ?_
  refine WL.bC rfl sN rfl rfl (fW.rd (by exact (H.p 0 rfl : fW s l _)) hx i hlt) (by (rw [eE]; refine congrArg some ?_; (simp [aO, bA, *]; done))) ?_
  refine WL.iK rfl rfl (hf l[i] _ hki) ?_
  rintro _ w3 ⟨rfl, hO⟩
  replace H := H.out hO
  refine WL.nil ?_
  refine WE.cond rfl (fun tN => ?_) (fun tN => ?_)
  ·
   try simp only [bU] at tN
   have hd : l[i].d = true := by exact tN
   refine WE.aA (WL.mv rfl rfl (WL.as rfl rfl (WL.nil (WE.ret ⟨[_], _, .nil _, ⟨rfl, trivial⟩, ?_⟩))))
   exact ⟨_, rfl, H.aL, .inr ⟨i, hlt, rfl, hd, hall⟩⟩
  ·
   try simp only [bU] at tN
   have hd : l[i].d = false := by exact tN
   refine WE.skip (WE.eH (WL.pv (PV.eq (v' := .int .i64 ((i + 1 : Nat) : Int)) (PV.bY rfl rfl rfl (by omega) (by omega)) rfl) rfl (WL.mv rfl rfl (WL.nil ?_))))
   exact ⟨i + 1, (by repeat (first | with_reducible exact bQ.refl _ _ | refine bQ.dG rfl ?_ | refine bQ.cC rfl ?_ | refine bQ.cB rfl ?_)), ⟨rfl, trivial⟩, rfl, ⟨by omega, (fun c hc => by rw [List.take_succ_eq_append_getElem hlt] at hc; rcases List.mem_append.1 hc with h_ | h_; exact hall c h_; rw [List.mem_singleton.1 h_]; exact hd), H⟩, (by omega)⟩
 ·
  try simp only [bU] at wY
  have uN : i = l.length := by omega
  refine WE.exit (WE.aA (WL.as rfl rfl (WL.nil (WE.ret ⟨[_], _, .nil _, ⟨rfl, trivial⟩, ?_⟩))))
  exact ⟨_, rfl, H.aL, .inl ⟨rfl, fun c hc => by subst uN; rw [List.take_length] at hall; exact hall c hc⟩⟩
theorem TO {X : Nat → Prop} {w : World} {g cap : Nat} {f : Value} {l : List Ch} {rest : List Value} (hX : cU X w) (eT : aM w g 127 (l.flatMap dV ++ rest)) (hx : XL l) (hlen : l.length ≤ 1000000) (fV : ∀ c ∈ l, c.s.oneCell' = true) (jE : l.length ≤ cap) (hf : ∀ (c : Ch) (W : World), c.k.length = 32 → eV prog f [.agg (dV c).toArray] W fun v W' => v = .bool c.d ∧ Out Nil W W') :
  bF prog 148 [.slice (some ⟨g, 0, none⟩) l.length cap, f].toArray w fun v w' => v = .slice (some ⟨g, 0, none⟩) (eB l).length cap ∧ Out (· = g) w w' ∧ ∃ I5, aM w' g 127 ((eB l).flatMap dV ++ I5) ∧ I5.length + (eB l).length * 34 = rest.length + l.length * 34 := by
 refine bF.aI (N := 42) func148 rfl rfl (by simp) ?_
 have H := St.c7 (b := g) (t := 127) (l := l.flatMap dV ++ rest) hX eT
 have hkr := hx
 have hrl : l.length = l.length := rfl
 refine WE.aA (WL.as rfl rfl (WL.nil (WE.aA (WL.mv rfl rfl (WL.mv rfl rfl ?_)))))
 refine WL.call Z3 rfl (FH (X := Nil) (s := .slice (some ⟨g, 0, none⟩) l.length cap) (l := l) (f := f) (fun _ h => h.elim) ((H.aG1 0 rfl).imp fun _ h => fW.HN h hx rfl jE) hx hlen hf) ?_
 rintro _ w1 ⟨z, rfl, hO, hz⟩
 replace H := H.out hO
 refine WL.as rfl rfl (WL.nil (WE.seq (WE.aA (WL.mv rfl rfl (WL.pv (PV.eql rfl rfl rfl) rfl (WL.nil ?_))))))
 refine WE.cond rfl (fun k3 => ?_) (fun k3 => ?_)
 ·
  try simp only [bU] at k3
  have hz1 : z = -1 := by exact k3
  have hlv : eB l = l := by rcases hz with ⟨_, h_⟩ | ⟨i_, h_, NK, _⟩; exact zN h_; omega
  refine WE.aA (WL.mv rfl rfl (WL.as rfl rfl (WL.nil (WE.ret ⟨[_], _, .nil _, ⟨rfl, trivial⟩, ?_⟩))))
  rw [hlv]
  exact ⟨rfl, H.l5.mono fun b _ ⟨_, he, hb⟩ => (by cases List.mem_singleton.1 he; exact hb), rest, H.o 0 rfl, rfl⟩
 ·
  try simp only [bU] at k3
  obtain ⟨i0, hi0, rfl, hd0, hall⟩ : ∃ i, ∃ h : i < l.length, z = ((i : Nat) : Int) ∧ l[i].d = true ∧ ∀ c ∈ l.take i, c.d = false := by rcases hz with ⟨h_, _⟩ | h_; exact absurd h_ (by exact k3); exact h_
  have aHk : l.take i0 = eB (l.take (i0 + 1)) := by rw [wP hi0, if_pos hd0, zN hall]
  refine WE.skip (WE.seq (WE.aA (WL.mv rfl rfl (WL.pv (PV.eq (v' := .int .i64 ((i0 + 1 : Nat) : Int)) (PV.bY rfl rfl rfl (by omega) (by omega)) rfl) rfl (WL.as rfl rfl (WL.nil (WE.block ?_)))))))
  refine WE.loop (α := Nat × Nat × List Ch) (rg [(5, 3), (16, 20)]) (fun q => [(5, .int .i64 (q.1 : Int)), (6, .int .i64 (q.2.1 : Int))]) (fun q wl => (q.1 + 1 ≤ q.2.1 ∧ q.2.1 ≤ l.length) ∧ (XL q.2.2 ∧ q.2.2.length = l.length) ∧ (q.2.2.take q.1 = eB (l.take q.2.1) ∧ q.2.2.drop q.2.1 = l.drop q.2.1) ∧ St X w wl [aN.blk g 127 ((q.2.2).flatMap dV ++ rest)] [] []) (fun q => l.length - q.2.1) (i0, i0 + 1, l) ⟨rfl, rfl, trivial⟩ ⟨⟨Nat.le_refl _, by dsimp only; omega⟩, ⟨hx, rfl⟩, ⟨aHk, rfl⟩, H⟩ ?_
  intro ⟨t, j, rs⟩ γ0 w2 hI
  try dsimp only at hI
  obtain ⟨⟨VZ, hj⟩, ⟨hkr, hrl⟩, ⟨JK, hdr⟩, H⟩ := hI
  try dsimp only at VZ hj hkr hrl JK hdr
  have hq1 : (((t, j, rs) : Nat × Nat × List Ch).snd.fst) = j := rfl
  have hq0 : (((t, j, rs) : Nat × Nat × List Ch).fst) = t := rfl
  refine WE.seq (WE.aA (WL.mv rfl rfl (WL.mv rfl rfl (WL.pv (PV.dO (fW.HN (cap := cap) (H.o 0 rfl) hkr hrl jE) dR rfl) rfl (WL.pv (PV.lss rfl rfl rfl) rfl (WL.nil ?_))))))
  refine WE.cond rfl (fun jL => ?_) (fun jL => ?_)
  ·
   try simp only [bU] at jL
   have hlt : j < l.length := by omega
   have hkj := hx _ (List.getElem_mem hlt)
   have QW := iQ hkj
   have zR := wP hlt
   refine WE.skip (WE.seq (WE.block (WE.aA (WL.mv rfl rfl (WL.mv rfl rfl ?_)))))
   refine WL.pv (PV.eO rfl (fW.HN (cap := cap) (H.o 0 rfl) hkr hrl jE) dR eE rfl rfl (by omega) (by omega)) rfl ?_
   refine WL.bC rfl sN rfl rfl ((aIy (j := j) (q := j) (ks := l) (H.o 0 rfl) hkr hrl hdr (by omega) hlt _ _)) (by (rw [eE]; refine congrArg some ?_; (simp [aO, bA, *]; done))) ?_
   refine WL.alloc H rfl y5 rfl ?_
   intro b7 w3 H
   refine WL.aT H 0 rfl rfl rfl (new := dV l[j]) rfl (by (rw [eE]; refine congrArg some ?_; (simp [aO, bA, *]; done))) (k9 (fV _ (List.getElem_mem hlt))) (Laid.at (Laid.all (by simp only [aR]; omega)) rfl) rfl ?_
   intro w4 H
   refine WL.nil (WE.aA (WL.mv rfl rfl ?_))
   refine WL.bC rfl sN rfl rfl (aM.aF (H.l 0 rfl) (aJ.all _) rfl) (by (rw [eE]; refine congrArg some ?_; (simp [aO, bA, *]; done))) ?_
   refine WL.iK rfl rfl (hf l[j] _ hkj) ?_
   rintro _ w6 ⟨rfl, hO⟩
   replace H := H.out hO
   refine WL.pv (PV.not rfl rfl) rfl (WL.nil ?_)
   refine WE.cond rfl (fun BV => ?_) (fun BV => ?_)
   ·
    try simp only [bU] at BV
    have hdj : l[j].d = false := by exact BV
    rw [if_neg (by rw [hdj]; decide)] at zR
    let t2 := t + 1
    let OL := rs.set t l[j]
    have ht2 : t2 ≤ t + 1 := Nat.le_refl _
    have aBm : XL OL := hkr.set _ hkj
    have aBf : OL.length = l.length := by show (rs.set _ _).length = _; rw [List.length_set]; exact hrl
    have aBc : OL.take t2 = eB (l.take (j + 1)) := by show (rs.set t l[j]).take (t + 1) = _; rw [zR, ← JK, yI (by omega)]
    have aBp : OL.drop (j + 1) = l.drop (j + 1) := by show (rs.set t l[j]).drop _ = _; rw [List.drop_set_of_lt (by omega)]; exact AA hdr (by omega)
    refine WE.aA (WL.mv rfl rfl (WL.mv rfl rfl ?_))
    refine WL.bC rfl sN rfl rfl (aM.aF (H.l 0 rfl) (aJ.all _) rfl) (by (rw [eE]; refine congrArg some ?_; (simp [aO, bA, *]; done))) ?_
    refine WL.pv (PV.eq (v' := .pointer (some ⟨g, t * 34, none⟩)) (PV.eO rfl (fW.HN (cap := cap) (H.o 0 rfl) hkr hrl jE) dR eE rfl rfl (by omega) (by omega)) (by show Value.pointer (some ((⟨g, 0, none⟩ : Addr).add (Int.toNat (t : Int) * 34))) = _; rw [lS, Int.toNat_natCast, Nat.zero_add])) rfl ?_
    refine WL.kZ H 0 rfl rfl rfl (new := dV l[j]) rfl (by (rw [eE]; refine congrArg some ?_; (simp [aO, bA, *]; done))) (k9 (fV _ (List.getElem_mem hlt))) (pM (C := dV) rs hkr.len rest (i := t) (by omega) QW rfl) rfl ?_
    intro w8 H
    refine WL.nil (WE.eH (WL.mv rfl rfl (WL.pv (PV.eq (v' := .int .i64 ((t + 1 : Nat) : Int)) (PV.bY rfl rfl rfl (by omega) (by omega)) rfl) rfl (WL.as rfl rfl (WL.nil (WE.eH (WL.mv rfl rfl ?_)))))))
    refine WL.pv (PV.eq (v' := .int .i64 ((j + 1 : Nat) : Int)) (PV.bY rfl rfl rfl (by omega) (by omega)) rfl) rfl (WL.as rfl rfl (WL.nil ?_))
    replace H := H.forget 0
    exact ⟨(t2, j + 1, OL), (by repeat (first | with_reducible exact bQ.refl _ _ | refine bQ.dG rfl ?_ | refine bQ.cC rfl ?_ | refine bQ.cB rfl ?_)), ⟨rfl, rfl, trivial⟩, rfl, ⟨⟨by dsimp only; omega, by dsimp only; omega⟩, ⟨aBm, aBf⟩, ⟨aBc, aBp⟩, H⟩, (by dsimp only; omega)⟩
   ·
    try simp only [bU] at BV
    have hdj : l[j].d = true := by exact BV
    rw [if_pos hdj] at zR
    let t2 := t
    let OL := rs
    have ht2 : t2 ≤ t + 1 := Nat.le_succ _
    have aBm : XL OL := hkr
    have aBf : OL.length = l.length := hrl
    have aBc : OL.take t2 = eB (l.take (j + 1)) := by rw [zR]; exact JK
    have aBp : OL.drop (j + 1) = l.drop (j + 1) := AA hdr (by omega)
    refine WE.skip (WE.eH (WL.mv rfl rfl (WL.pv (PV.eq (v' := .int .i64 ((j + 1 : Nat) : Int)) (PV.bY rfl rfl rfl (by omega) (by omega)) rfl) rfl (WL.as rfl rfl (WL.nil ?_)))))
    replace H := H.forget 0
    exact ⟨(t2, j + 1, OL), (by repeat (first | with_reducible exact bQ.refl _ _ | refine bQ.dG rfl ?_ | refine bQ.cC rfl ?_ | refine bQ.cB rfl ?_)), ⟨rfl, rfl, trivial⟩, rfl, ⟨⟨by dsimp only; omega, by dsimp only; omega⟩, ⟨aBm, aBf⟩, ⟨aBc, aBp⟩, H⟩, (by dsimp only; omega)⟩
  ·
   try simp only [bU] at jL
   have hje : j = l.length := by omega
   refine WE.exit (WE.aA (WL.mv rfl rfl (WL.mv rfl rfl ?_)))
   refine WL.pv (PV.eq (v' := .slice (some ⟨g, t * 34, none⟩) (l.length - t) (cap - t)) (PV.p9 rfl (fW.HN (cap := cap) (H.o 0 rfl) hkr hrl jE) dR eE rfl rfl (by omega) (by omega)) (gZ (by omega))) rfl ?_
   have BW := (fW.HN (cap := cap) (H.o 0 rfl) hkr hrl jE)
   refine WL.aBR (sz := 34) (zl := _) H 0 dR y5 (bE _ rfl) rfl rfl rfl (by omega) (by rw [List.length_append, c6 _ hkr.len, hrl]; omega) rfl ?_
   intro y8 new hnl H
   refine WL.nil (WE.aA (WL.mv rfl rfl (WL.mv rfl rfl ?_)))
   refine WL.pv (PV.eq (v' := .slice (some ⟨g, 0, none⟩) t cap) (PV.UL rfl BW dR eE rfl rfl (by omega) (by omega)) (by have h_ := gZ (g := g) (n := l.length) (cap := cap) (lo := 0) (hi := t) (by omega); rw [Nat.zero_mul] at h_; exact h_)) rfl ?_
   refine WL.as rfl rfl (WL.nil (WE.ret ⟨[_], _, .nil _, ⟨rfl, trivial⟩, ?_⟩))
   have qI : rs.take t = eB l := by have h_ := JK; rw [hje, List.take_length] at h_; exact h_
   have pU : (eB l).length = t := by rw [← qI, List.length_take]; omega
   have aEy := show aM _ g _ _ from H.o 0 rfl
   rw [EK rs hkr.len t (by omega), qI, List.append_assoc] at aEy
   rw [pU]
   refine ⟨rfl, H.l5.mono fun b _ ⟨_, he, hb⟩ => (by cases List.mem_singleton.1 he; exact hb), _, aEy, ?_⟩
   rw [List.length_append, hnl, List.length_drop, List.length_append, c6 _ hkr.len, hrl]; omega
theorem FL {X : Nat → Prop} {w : World} {f : Value} (hX : cU X w) (hf : ∀ (c : Ch) (W : World), c.k.length = 32 → eV prog f [.agg (dV c).toArray] W fun v W' => v = .bool c.d ∧ Out Nil W W') :
  bF prog 148 [.slice none 0 0, f].toArray w fun v w' => v = .slice none 0 0 ∧ Out Nil w w' := by
 refine bF.aI (N := 42) func148 rfl rfl (by simp) ?_
 have H := St.begin hX
 refine WE.aA (WL.as rfl rfl (WL.nil (WE.aA (WL.mv rfl rfl (WL.mv rfl rfl ?_)))))
 refine WL.call Z3 rfl (FH (X := Nil) (s := .slice none 0 0) (l := []) (f := f) (fun _ h => h.elim) (fun _ _ => cR.nil _ 34) (fun _ h => by cases h) (Nat.zero_le _) hf) ?_
 rintro _ w1 ⟨z, rfl, hO, hz⟩
 replace H := H.out hO
 obtain rfl : z = -1 := by rcases hz with ⟨h_, _⟩ | ⟨i_, h_, _⟩; exact h_; exact absurd h_ (Nat.not_lt_zero _)
 refine WL.as rfl rfl (WL.nil (WE.seq (WE.aA (WL.mv rfl rfl (WL.pv (PV.eql rfl rfl rfl) rfl (WL.nil ?_))))))
 refine WE.cO rfl rfl ?_
 refine WE.aA (WL.mv rfl rfl (WL.as rfl rfl (WL.nil (WE.ret ⟨[_], _, .nil _, ⟨rfl, trivial⟩, ?_⟩))))
 exact ⟨rfl, H.aL⟩
theorem FK {w : World} {base : Nat} {v f : Value} {l : List Ch} (hown : w.ownsRow base 127 34 v l.length (l.flatMap dV)) (hx : XL l) (hlen : l.length ≤ 1000000) (fV : ∀ c ∈ l, c.s.oneCell' = true) (hf : ∀ (c : Ch) (W : World), c.k.length = 32 → eV prog f [.agg (dV c).toArray] W fun v W' => v = .bool c.d ∧ Out Nil W W') :
  bF prog 148 [v, f].toArray w fun v' w' => Out (fun b => v.ownBlock = some b) w w' ∧ w'.ownsRow base 127 34 v' (eB l).length ((eB l).flatMap dV) ∧ v'.ownBlock = v.ownBlock := by
 obtain ⟨h1, ⟨rfl, h2⟩ | ⟨g, cap, cur, rfl, hg, BS, jE, QB, hsz, D1⟩⟩ := hown
 ·
  have h3 : l = [] := List.eq_nil_of_length_eq_zero h2
  subst h3
  refine (FL (X := Nil) (w := w) (fun _ h => h.elim) hf).mono ?_
  rintro v' w' ⟨rfl, hO⟩
  exact ⟨hO.mono fun _ _ h => h.elim, World.ownsRow_nil _ _ _ _, rfl⟩
 ·
  have hB : aM w g 127 (l.flatMap dV ++ cur.toList.drop (l.length * 34)) := by
   unfold aM
   rw [← D1, List.take_append_drop]
   exact BS
  refine (TO (X := Nil) (w := w) (fun _ h => h.elim) hB hx hlen fV jE hf).mono ?_
  rintro v' w' ⟨rfl, hO, I5, hB', hl⟩
  have pU : (eB l).length ≤ l.length := List.length_filter_le ..
  have qI : XL (eB l) := hx.sub fun c hc => (iP.1 hc).1
  refine ⟨hO.mono fun b _ h => by rw [h]; rfl, ⟨c6 _ qI.len, .inr ⟨g, cap, ((eB l).flatMap dV ++ I5).toArray, rfl, hg, hB', by omega, QB, ?_, ?_⟩⟩, rfl⟩
  ·
   simp only [List.size_toArray, List.length_append]
   rw [c6 _ qI.len]
   have h4 : (cur.toList.drop (l.length * 34)).length = cap * 34 - l.length * 34 := by rw [List.length_drop, Array.length_toList, hsz]
   have h5 : l.length * 34 ≤ cap * 34 := Nat.mul_le_mul_right _ jE
   omega
  ·
   rw [List.toList_toArray, List.take_left' (c6 _ qI.len)]
theorem St.aC4 {X : Nat → Prop} {w0 w w' : World} {O L : List aN} {Ps : List (World → Prop)} (H : St X w0 w O L Ps) {i : Nat} {e : aN} (hi : O[i]? = some e) (h : Out e.fp w w') (e' : aN) (he : e'.ok w') (hf : ∀ b, e'.fp b ↔ e.fp b) (e2 : aN) (he2 : e2.ok w') (hn : ∀ b, e2.fp b → w.heap.size ≤ b) :
  St X w0 w' (O.set i e') (e2 :: L) Ps :=
 let H' := H.uX hi h e' he hf
 { H' with
  r7 := fun x hx => by
   cases List.mem_cons.1 hx with
   | inl hx => subst hx; exact he2
   | inr hx => exact H'.r7 x hx
  jU := fun x hx => by
   cases List.mem_cons.1 hx with
   | inl hx => subst hx; exact fun b hb => Nat.le_trans H.size (hn b hb)
   | inr hx => exact H'.jU x hx
  gW := List.pairwise_cons.2 ⟨fun x hx b hb => by
   have h1 := hn b hb.1
   have h2 := H.TX x hx b hb.2
   omega, H'.gW⟩
  iH := fun p hp => (H.iH p hp).out h (fun b _ hm => .inr (.inl ⟨e, List.mem_of_getElem? hi, hm⟩)) (fun b hb hx => by
   rcases hx with hx | ⟨x, hx, hb'⟩ | ⟨x, hx, hb'⟩
   ·
    exact .inl hx
   ·
    rcases eA hx with rfl | ⟨j, hne, hj⟩
    ·
     exact .inr (.inl ⟨e, List.mem_of_getElem? hi, (hf b).1 hb'⟩)
    ·
     exact .inr (.inl ⟨x, List.mem_of_getElem? hj, hb'⟩)
   ·
    cases List.mem_cons.1 hx with
    | inl hx => subst hx; have := hn b hb'; omega
    | inr hx => exact .inr (.inr ⟨x, hx, hb'⟩)) }
section
variable {r : Option Nat} {P : Program} {N : Nat} {σ : Env} {ds : List Deferred} {w : World} {ops : Array Oper} {rest : List Oper} {K : Env → List Deferred → World → Prop}
variable {X : Nat → Prop} {w0 : World} {O L : List aN} {Ps : List (World → Prop)}
theorem WL.XO {dst : Option Tmp} {t ty e : TypeId} {zl : List Value} {bytes base : Nat} {x y : Operand} {pos : String} {after : Array Edge} {guard : Option (Nat × Bool)} {v u : Value} {n m : Nat} {xs news : List Value}
  (H : St X w0 w O L Ps) (i : Nat) (hbase : base ≤ w0.heap.size) (ht : lU P t e zl bytes) (hz : 0 < zl.length) (hi : O[i]? = some (aN.iA base v e zl.length n xs)) (hx : ev σ x = v) (hy : ev σ y = u) (hu : cR w u zl.length m news)
  (h1 : eF news) (hb : (n + m) * bytes ≤ 140737488355328) (zT : 0 < bytes) (hw : cD ops σ ⟨dst, .call ⟨.builtin .append, [x, y].toArray, [t, t].toArray⟩, ty, pos, after, guard⟩ = true)
  (k1 : ∀ v' w', (∀ b, v'.ownBlock = some b → v.ownBlock = some b) → St X w0 w' (O.set i (aN.iA base v' e zl.length (n + m) (xs ++ news))) L Ps → WL r P N ops rest K (dG N σ dst v') ds w')
  (k2 : ∀ v' w', (∀ b, v'.ownBlock = some b → w0.heap.size ≤ b) → St X w0 w' (O.set i (aN.set fun b => v.ownBlock = some b)) (aN.iA base v' e zl.length (n + m) (xs ++ news) :: L) Ps → WL r P N ops rest K (dG N σ dst v') ds w') :
  WL r P N ops (⟨dst, .call ⟨.builtin .append, [x, y].toArray, [t, t].toArray⟩, ty, pos, after, guard⟩ :: rest) K σ ds w := by
 subst hx; subst hy
 have h63 : n + m ≤ maxLen := by
  have : (n + m) * 1 ≤ (n + m) * bytes := Nat.mul_le_mul_left _ zT
  unfold maxLen
  omega
 obtain ⟨v', w', hrun, zS, hg, hblk⟩ := qE (P := P) (ty := ty) base ht hz (H.o i hi) hu h1 h63 hb (Nat.le_trans hbase H.size)
 by_cases hc : ∃ b, v'.ownBlock = some b ∧ (ev σ x).ownBlock = some b
 ·
  obtain ⟨b0, h1', h2'⟩ := hc
  refine WL.val (v := v') (w' := w') hw rfl ?_ (k1 v' w' (fun b hb => by rw [h1'] at hb; rw [h2']; exact hb) ?_)
  ·
   simp [execOp, resolve, invoke, builtin, hrun]
  ·
   exact St.uX H hi (Out.grown hg) _ zS (fun b => by show v'.ownBlock = some b ↔ (ev σ x).ownBlock = some b; rw [h1', h2'])
 ·
  have hn : ∀ b, v'.ownBlock = some b → w.heap.size ≤ b := fun b hb => by
   rcases hblk b hb with h | h
   ·
    exact absurd ⟨b, hb, h⟩ hc
   ·
    exact h
  refine WL.val (v := v') (w' := w') hw rfl ?_ (k2 v' w' (fun b hb => Nat.le_trans H.size (hn b hb)) ?_)
  ·
   simp [execOp, resolve, invoke, builtin, hrun]
  ·
   exact St.aC4 H hi (Out.grown hg) (aN.set fun b => (ev σ x).ownBlock = some b) (fun b hb => Nat.lt_of_lt_of_le ((aN.iA base (ev σ x) e zl.length n xs).lt w (H.o i hi) b hb) (Out.grown hg).size) (fun b => Iff.rfl) (aN.iA base v' e zl.length (n + m) (xs ++ news)) zS hn
end
theorem tU {a b : List UInt8} : gN a b = 0 ↔ num a = num b := by
 unfold gN
 by_cases h : num a < num b
 ·
  simp [h]; omega
 ·
  by_cases h2 : num b < num a
  ·
   simp [h, h2]; omega
  ·
   simp [h, h2]; omega
theorem PO {X : Nat → Prop} {w : World} {k q : List UInt8} {s : Value} {d : Bool} (hX : cU X w) (hk : k.length = 32) (hq : q.length = 32) :
  bF prog 186 [.agg (kc k ++ ([s] ++ [Value.bool d])).toArray, .agg (kc q).toArray].toArray w fun v w' => v = .int .i64 (gN k q) ∧ Out Nil w w' := by
 refine bF.aI (N := 9) func186 rfl rfl (by simp) ?_
 have H := St.begin hX
 refine WE.aA ?_
 refine WL.box (l := kc k ++ ([s] ++ [Value.bool d])) H rfl (rfl) rfl ?_
 intro b2 w1 H
 refine WL.box (l := kc q) H rfl rfl rfl ?_
 intro b3 w2 H
 refine WL.as rfl rfl (WL.nil (WE.aA (WL.pv (PV.fieldAddr rfl pX rfl) rfl ?_)))
 refine WL.bC rfl cV rfl rfl (aM.aF (H.l 1 rfl) (aJ.l (aJ.all _)) rfl) (cH cM (by simp only [aR]; omega)) ?_
 refine WL.bC rfl cV rfl rfl (aM.aF (H.l 0 rfl) (aJ.all _) rfl) (cH cM (by simp only [aR]; omega)) ?_
 refine WL.call aBG rfl (qN (k := k) (l := q) H.aS  hk hq) ?_
 rintro _ w3 ⟨rfl, hO⟩
 replace H := H.out hO
 refine WL.as rfl rfl (WL.nil (WE.ret ⟨[_], _, .nil _, ⟨rfl, trivial⟩, ?_⟩))
 exact ⟨rfl, H.aL⟩
theorem aGM {X : Nat → Prop} {w : World} {s f : Value} {l : List Ch} {k : List UInt8} (hX : cU X w) (bT : aH X (fW s l) w) (hx : XL l) (hl : rL l) (hlen : l.length ≤ 1000000) (hk : k.length = 32) (hf : ∀ (c : Ch) (W : World), c.k.length = 32 → eV prog f [.agg (dV c).toArray, .agg (kc k).toArray] W fun v W' => v = .int .i64 (gN c.k k) ∧ Out Nil W W') :
  bF prog 185 [s, .agg (kc k).toArray, f].toArray w fun v w' => ∃ (r : Nat) (b : Bool), v = .tuple [.int .i64 (r : Int), .bool b].toArray ∧ Out Nil w w' ∧ r ≤ l.length ∧ (∀ i (h : i < l.length), i < r → num l[i].k < num k) ∧ (∀ i (h : i < l.length), r ≤ i → num k ≤ num l[i].k) ∧ (b = true ↔ ∃ h : r < l.length, num l[r].k = num k) := by
 refine bF.aI (N := 49) func185 rfl rfl (by simp) ?_
 have H := (St.begin hX).add (cE bT)
 refine WE.aA ?_
 refine WL.box (l := kc k) H rfl rfl rfl ?_
 intro b4 w1 H
 refine WL.as rfl rfl (WL.as rfl rfl (WL.nil (WE.aA (WL.mv rfl rfl ?_))))
 refine WL.pv (PV.dO (by exact (H.p 0 rfl : fW s l _)) dR rfl) rfl ?_
 refine WL.as rfl rfl (WL.nil (WE.aA (WL.mv rfl rfl (WL.as rfl rfl (WL.as rfl rfl (WL.nil (WE.seq ?_)))))))
 refine WE.block ?_
 refine WE.loop (α := Nat × Nat) (rg [(9, 3), (15, 20)]) (fun q => [(9, .int .i64 (q.1 : Int)), (10, .int .i64 (q.2 : Int))]) (fun q wl => ((q.1 ≤ q.2 ∧ q.2 ≤ l.length) ∧ (∀ i (h : i < l.length), i < q.1 → num l[i].k < num k) ∧ (∀ i (h : i < l.length), q.2 ≤ i → num k ≤ num l[i].k)) ∧ St X w wl [] [aN.blk b4 24 (kc k)] [fW s l]) (fun q => q.2 - q.1) (0, l.length) ⟨rfl, rfl, trivial⟩ ⟨⟨⟨Nat.zero_le _, Nat.le_refl _⟩, (fun i _ h => absurd h (Nat.not_lt_zero _)), fun i h h2 => absurd h (Nat.not_lt.2 h2)⟩, H⟩ ?_
 intro ⟨lo, iT⟩ γ0 w2 hI
 try dsimp only at hI
 obtain ⟨⟨⟨hlh, aDP⟩, hlo, hge⟩, H⟩ := hI
 try dsimp only at hlh aDP hlo hge
 refine WE.seq (WE.aA (WL.mv rfl rfl (WL.mv rfl rfl (WL.pv (PV.lss rfl rfl rfl) rfl (WL.nil ?_)))))
 refine WE.cond rfl (fun iB => ?_) (fun iB => ?_)
 ·
  try simp only [bU] at iB
  have hlt : lo < iT := by omega
  have V3 : (lo + iT) / 2 < l.length := by omega
  have sU := hx _ (List.getElem_mem V3)
  have QW := iQ sU
  refine WE.skip (WE.block (WE.aA (WL.mv rfl rfl (WL.mv rfl rfl (WL.pv (PV.eq (v' := .int .i64 ((lo + iT : Nat) : Int)) (PV.bY rfl rfl rfl (by omega) (by omega)) rfl) rfl ?_)))))
  refine WL.pv (PV.eq (v' := .int .u64 ((lo + iT : Nat) : Int)) (PV.conv rfl yD DY rfl) (by (rw [nR]; congr 1; omega))) rfl ?_
  refine WL.pv (PV.eq (v' := .int .u64 (((lo + iT) / 2 : Nat) : Int)) (PV.UU rfl rfl rfl (by omega)) (by (congr 1; show Int.fdiv _ 2 = _; rw [Int.fdiv_eq_ediv_of_nonneg _ (by omega)]; omega))) rfl ?_
  refine WL.pv (PV.eq (v' := .int .i64 (((lo + iT) / 2 : Nat) : Int)) (PV.mL rfl DY yD rfl (by omega) (by omega)) rfl) rfl ?_
  refine WL.as rfl rfl (WL.nil ?_)
  refine WE.bG (.take 0 (.take 1 (.take 2 (.take 3 (.take 4 (.take 5 (.aG 6 (.take 7 .done)))))))) mixed (by kernel_rfl) ?_
  replace H := H.out (Out.drew _)
  refine WP.mv rfl rfl rfl (WP.mv rfl rfl rfl (WP.mv rfl rfl rfl ?_))
  refine WP.aC rfl rfl (PV.eO rfl (by exact (H.p 0 rfl : fW s l _)) dR eE rfl rfl (by omega) (by omega)) ?_
  refine WP.dF rfl rfl rfl sN rfl (fW.rd (by exact (H.p 0 rfl : fW s l _)) hx ((lo + iT) / 2) V3) (by (rw [eE]; refine congrArg some ?_; (simp [aO, bA, *]; done))) ?_
  refine WP.dF rfl rfl rfl cV rfl (aM.aF (H.l 0 rfl) (aJ.all _) rfl) (cH cM (by simp only [aR]; omega)) ?_
  refine WP.aG rfl ?_
  refine WL.iK rfl rfl (hf l[(lo + iT) / 2] _ sU) ?_
  rintro _ w4 ⟨rfl, hO⟩
  replace H := H.out hO
  refine WL.nil ⟨(fa (nw 6 5) (fa (nw 6 4) c5)), ?_⟩
  refine WP.aC rfl rfl (PV.lss rfl rfl rfl) (WP.done ?_)
  refine WE.cond rfl (fun kC => ?_) (fun kC => ?_)
  ·
   try simp only [bU] at kC
   have BU : num l[(lo + iT) / 2].k < num k := lP.1 (by exact kC)
   let q2 : Nat × Nat := ((lo + iT) / 2 + 1, iT)
   have LX : (q2.1 ≤ q2.2 ∧ q2.2 ≤ l.length) ∧ (∀ i (h : i < l.length), i < q2.1 → num l[i].k < num k) ∧ (∀ i (h : i < l.length), q2.2 ≤ i → num k ≤ num l[i].k) := ⟨⟨by show (lo + iT) / 2 + 1 ≤ iT; omega, aDP⟩, (fun i h hi => by have hi2 : i < (lo + iT) / 2 + 1 := hi; rcases Nat.lt_or_ge i ((lo + iT) / 2) with h_ | h_; exact Nat.lt_trans (List.pairwise_iff_getElem.1 hl i _ h V3 h_) BU; (have e_ : i = (lo + iT) / 2 := by omega); subst e_; exact BU), hge⟩
   have hd2 : q2.2 - q2.1 < iT - lo := by show iT - ((lo + iT) / 2 + 1) < iT - lo; omega
   refine WE.eH (WL.mv rfl rfl ?_)
   refine WL.pv (PV.eq (v' := .int .i64 (((lo + iT) / 2 + 1 : Nat) : Int)) (PV.bY rfl rfl rfl (by omega) (by omega)) rfl) rfl ?_
   refine WL.as rfl rfl (WL.nil ?_)
   exact ⟨q2, (by repeat (first | with_reducible exact bQ.refl _ _ | refine bQ.dG rfl ?_ | refine bQ.cC rfl ?_ | refine bQ.cB rfl ?_)), ⟨rfl, rfl, trivial⟩, rfl, ⟨LX, H⟩, hd2⟩
  ·
   try simp only [bU] at kC
   have BU : num k ≤ num l[(lo + iT) / 2].k := by rcases Nat.lt_or_ge (num l[(lo + iT) / 2].k) (num k) with h_ | h_; have NK := lP.2 h_; omega; exact h_
   let q2 : Nat × Nat := (lo, (lo + iT) / 2)
   have LX : (q2.1 ≤ q2.2 ∧ q2.2 ≤ l.length) ∧ (∀ i (h : i < l.length), i < q2.1 → num l[i].k < num k) ∧ (∀ i (h : i < l.length), q2.2 ≤ i → num k ≤ num l[i].k) := ⟨⟨by show lo ≤ (lo + iT) / 2; omega, by show (lo + iT) / 2 ≤ l.length; omega⟩, hlo, (fun i h hi => by have hi2 : (lo + iT) / 2 ≤ i := hi; rcases Nat.lt_or_ge ((lo + iT) / 2) i with h_ | h_; exact Nat.le_of_lt (Nat.lt_of_le_of_lt BU (List.pairwise_iff_getElem.1 hl _ i V3 h h_)); (have e_ : i = (lo + iT) / 2 := by omega); subst e_; exact BU)⟩
   have hd2 : q2.2 - q2.1 < iT - lo := by show (lo + iT) / 2 - lo < iT - lo; omega
   refine WE.eH (WL.mv rfl rfl (WL.as rfl rfl (WL.nil ?_)))
   exact ⟨q2, (by repeat (first | with_reducible exact bQ.refl _ _ | refine bQ.dG rfl ?_ | refine bQ.cC rfl ?_ | refine bQ.cB rfl ?_)), ⟨rfl, rfl, trivial⟩, rfl, ⟨LX, H⟩, hd2⟩
 ·
  try simp only [bU] at iB
  have heq : lo = iT := by omega
  refine WE.exit ?_
  refine WE.bG (.take 0 (.take 1 (.take 2 (.take 3 (.take 4 (.take 5 (.take 6 (.take 7 (.take 8 (.take 9 (.take 10 (.aG 11 (.take 12 (.take 13 (.take 14 (.take 15 .done)))))))))))))))) mixed (by kernel_rfl) ?_
  replace H := H.out (Out.drew _)
  refine WP.mv rfl rfl rfl (WP.mv rfl rfl rfl (WP.mv rfl rfl rfl (WP.aC rfl rfl (PV.lss rfl rfl rfl) (WP.mv rfl rfl rfl ?_))))
  refine WP.split (t := 39) rfl (fun QJ => ?_) (fun QJ => ?_)
  ·
   refine WP.known (t := 38) (c := true) rfl QJ ?_
   try simp only [bU] at QJ
   have QC : lo < l.length := by omega
   have aDL := hx _ (List.getElem_mem QC)
   have QW := iQ aDL
   refine WP.mv rfl rfl rfl (WP.mv rfl rfl rfl (WP.mv rfl rfl rfl ?_))
   refine WP.aC rfl rfl (PV.eO rfl (by exact (H.p 0 rfl : fW s l _)) dR eE rfl rfl (by omega) (by omega)) ?_
   refine WP.dF rfl rfl rfl sN rfl (fW.rd (by exact (H.p 0 rfl : fW s l _)) hx lo QC) (by (rw [eE]; refine congrArg some ?_; (symm; assumption))) ?_
   refine WP.dF rfl rfl rfl cV rfl (aM.aF (H.l 0 rfl) (aJ.all _) rfl) (cH cM (by simp only [aR]; omega)) ?_
   refine WP.aG rfl ?_
   refine WL.iK rfl rfl (hf l[lo] _ aDL) ?_
   rintro _ w7 ⟨rfl, hO⟩
   replace H := H.out hO
   refine WL.nil ⟨(fa (nw 11 10) (fa (nw 11 9) c5)), ?_⟩
   refine WP.aC rfl rfl (PV.eql rfl rfl rfl) (WP.aC rfl rfl (PV.dB rfl rfl rfl) (WP.as rfl rfl rfl (WP.as rfl rfl rfl (WP.done (WE.ret ⟨[_, _], _, .nil _, ⟨rfl, rfl, trivial⟩, ?_⟩)))))
   refine ⟨lo, _, rfl, H.aL, by omega, hlo, (by rw [heq]; exact hge), ?_⟩
   (constructor; (intro h_; exact ⟨QC, tU.1 (by simpa using h_)⟩); (rintro ⟨_, h_⟩; simpa using tU.2 h_))
  ·
   refine WP.known (t := 38) (c := false) rfl QJ ?_
   try simp only [bU] at QJ
   have QC : ¬ lo < l.length := by omega
   refine WP.dQ rfl rfl (WP.dQ rfl rfl (WP.dQ rfl rfl (WP.dQ rfl rfl (WP.dQ rfl rfl (WP.dQ rfl rfl (WP.aG rfl (WL.off rfl ?_)))))))
   refine WL.nil ⟨c5, ?_⟩
   refine WP.dQ rfl rfl (WP.aC rfl rfl (PV.cZ rfl rfl rfl) (WP.as rfl rfl rfl (WP.as rfl rfl rfl (WP.done (WE.ret ⟨[_, _], _, .nil _, ⟨rfl, rfl, trivial⟩, ?_⟩)))))
   refine ⟨lo, _, rfl, H.aL, by omega, hlo, (by rw [heq]; exact hge), ?_⟩
   (constructor; (intro h_; cases h_); (rintro ⟨h_, _⟩; exact absurd h_ QC))
def j9 (l : List Ch) (r : Nat) (x : Ch) : List Ch := l.take r ++ x :: l.drop r
theorem wS (l : List Ch) {r : Nat} (x : Ch) (hr : r ≤ l.length) : (j9 l r x).length = l.length + 1 := by simp [j9]; omega
theorem iI {l : List Ch} {r : Nat} {x c : Ch} : c ∈ j9 l r x ↔ c = x ∨ c ∈ l := by
 have e : c ∈ l ↔ c ∈ l.take r ∨ c ∈ l.drop r := by rw [← List.mem_append, List.take_append_drop]
 unfold j9
 rw [List.mem_append, List.mem_cons, e]
 constructor
 ·
  rintro (h | h | h)
  ·
   exact .inr (.inl h)
  ·
   exact .inl h
  ·
   exact .inr (.inr h)
 ·
  rintro (h | h | h)
  ·
   exact .inr (.inl h)
  ·
   exact .inl h
  ·
   exact .inr (.inr h)
theorem JI {l : List Ch} {r : Nat} {x : Ch} (hl : rL l) (h1 : ∀ i (h : i < l.length), i < r → num l[i].k < num x.k) (h2 : ∀ i (h : i < l.length), r ≤ i → num x.k < num l[i].k) : rL (j9 l r x) := by
 unfold rL j9
 rw [List.pairwise_append]
 refine ⟨hl.sublist (List.take_sublist ..), List.pairwise_cons.2 ⟨fun c hc => ?_, hl.sublist (List.drop_sublist ..)⟩, fun a ha b hb => ?_⟩
 ·
  obtain ⟨i, hi, rfl⟩ := List.getElem_of_mem hc
  rw [List.length_drop] at hi
  rw [List.getElem_drop]
  exact h2 _ (by omega) (by omega)
 ·
  obtain ⟨i, hi, rfl⟩ := List.getElem_of_mem ha
  rw [List.length_take] at hi
  rw [List.getElem_take]
  have e1 := h1 i (by omega) (by omega)
  rcases List.mem_cons.1 hb with rfl | hb
  ·
   exact e1
  ·
   obtain ⟨j, hj, rfl⟩ := List.getElem_of_mem hb
   rw [List.length_drop] at hj
   rw [List.getElem_drop]
   exact Nat.lt_trans e1 (h2 _ (by omega) (by omega))
theorem KR (q : Nat) (zl : List Value) (hz : 0 < zl.length) : jC q zl = (List.replicate q zl).flatMap id := by
 have hl : ∀ x ∈ List.replicate q zl, (id x).length = zl.length := fun x hx => by rw [(List.mem_replicate.1 hx).2]; rfl
 have hlen := c6 (C := id) (List.replicate q zl) hl
 rw [List.length_replicate] at hlen
 refine List.ext_getElem (by rw [hlen]; simp [jC]) fun j h1 h2 => ?_
 have hj : j < q * zl.length := by rw [hlen] at h2; exact h2
 have hq : j / zl.length < q := (Nat.div_lt_iff_lt_mul hz).2 hj
 have hs := sH (C := id) (List.replicate q zl) hl (j / zl.length) (by rw [List.length_replicate]; exact hq)
 rw [List.getElem_replicate] at hs
 have hm := Nat.mod_lt j hz
 have e1 : ((List.replicate q zl).flatMap id)[j]? = zl[j % zl.length]? := by
  have : (((List.replicate q zl).flatMap id).drop (j / zl.length * zl.length)).take zl.length = zl := hs
  have e2 : zl[j % zl.length]? = ((((List.replicate q zl).flatMap id).drop (j / zl.length * zl.length)).take zl.length)[j % zl.length]? := by rw [this]
  rw [e2, List.getElem?_take_of_lt hm, List.getElem?_drop]
  congr 1
  have := Nat.div_add_mod j zl.length
  rw [Nat.mul_comm] at this
  omega
 have e3 : (jC q zl)[j]? = zl[j % zl.length]? := by
  unfold jC
  rw [List.getElem?_map, List.getElem?_range (by exact hj), Option.map_some, getElem!_pos zl _ hm, List.getElem?_eq_getElem hm]
 rw [← Option.some_inj, ← List.getElem?_eq_getElem, ← List.getElem?_eq_getElem, e1, e3]
def YO : Ch := ⟨List.replicate 32 0, .slice none 0 0, [], false⟩
theorem T8 (q : Nat) : jC q (dV YO) = (List.replicate q YO).flatMap dV := by
 rw [KR q _ (by decide), List.flatMap_replicate, List.flatMap_replicate]; rfl
theorem cR.Y7 {w : World} {g n c : Nat} {t : TypeId} {l : List Value} (h : aM w g t l) (hn : n * 34 ≤ l.length) (hc : n ≤ c) : cR w (.slice (some ⟨g, 0, none⟩) n c) 34 n (l.take (n * 34)) :=
 cR.mY (h.aF (show aJ l 0 (l.take (n * 34)) from ⟨[], l.drop (n * 34), by rw [List.nil_append, List.take_append_drop], rfl⟩) rfl) (by rw [List.length_take]; omega) hc
theorem St.aBW {X : Nat → Prop} {w : World} {base sz n : Nat} {e : TypeId} {xs : List Value} {v : Value} (hX : cU X w) (hrow : w.ownsRow base e sz v n xs) : St X w w [aN.iA base v e sz n xs] [] [] :=
 St.start hX (fun x hx => by rw [List.mem_singleton.1 hx]; exact hrow) (List.pairwise_singleton _ _) (fun _ hp => by cases hp)
theorem aG0 {X : Nat → Prop} {w : World} {p : World → Prop} {base sz n : Nat} {e : TypeId} {xs : List Value} {v : Value} (h : aH (fun c => X c ∨ v.ownBlock = some c) p w) : aH (YY X [aN.iA base v e sz n xs] []) p w :=
 h.mono fun c _ hc => by
  rcases hc with hc | ⟨x, hx, hc⟩ | ⟨x, hx, _⟩
  ·
   exact .inl hc
  ·
   rw [List.mem_singleton.1 hx] at hc; exact .inr hc
  ·
   cases hx
theorem LR {a : List Ch} {b c : List Ch} {more : List Value} {oo : Nat} (ha : XL a) (hb : XL b) (hc : XL c) (hbc : b.length = c.length) (ho : oo = a.length * 34) : Laid ((a ++ b).flatMap dV ++ more) oo (c.flatMap dV) ((a ++ c).flatMap dV ++ more) := by
 refine Laid.left ?_
 rw [List.flatMap_append, List.flatMap_append]
 exact Laid.right (o := 0) (Laid.all (by rw [c6 _ hc.len, c6 _ hb.len, hbc])) (by rw [ho, c6 _ ha.len]; omega)
theorem VU {l : List Ch} {i : Nat} {x : Ch} (hi : i < l.length) : (l.take (i + 1) ++ l.drop i).set i x = j9 l i x := by
 unfold j9
 rw [List.take_succ_eq_append_getElem hi, List.append_assoc, List.set_append_right (h := by rw [List.length_take]; omega), show i - (l.take i).length = 0 by rw [List.length_take]; omega]
 rfl
theorem LC {l : List Ch} {i : Nat} {r1 r2 : List Value} (hx : XL l) (hi : i ≤ l.length) : aJ (l.flatMap dV ++ (r1 ++ r2)) (i * 34) ((l.drop i).flatMap dV ++ r1) := by
 refine ⟨(l.take i).flatMap dV, r2, ?_, by rw [c6 _ (hx.take i).len, List.length_take]; congr 1; omega⟩
 have e : l.flatMap dV = (l.take i).flatMap dV ++ (l.drop i).flatMap dV := by rw [← List.flatMap_append, List.take_append_drop]
 rw [e]
 simp only [List.append_assoc]
theorem GJ {l : List Ch} {i oo : Nat} {r1 r2 : List Value} (hx : XL l) (hi : i < l.length) (P8 : r1.length = 34) (ho : oo = (i + 1) * 34 := by rfl) : Laid (l.flatMap dV ++ (r1 ++ r2)) oo (((l.drop i).flatMap dV ++ r1).take ((l.length - i) * 34)) ((l.take (i + 1) ++ l.drop i).flatMap dV ++ r2) := by
 have hd : ((l.drop i).flatMap dV).length = (l.length - i) * 34 := by rw [c6 _ (hx.drop i).len, List.length_drop]
 have ht : ((l.take (i + 1)).flatMap dV).length = (i + 1) * 34 := by rw [c6 _ (hx.take _).len, List.length_take]; congr 1; omega
 rw [List.take_left' hd]
 have e1 : l.flatMap dV ++ (r1 ++ r2) = (l.take (i + 1)).flatMap dV ++ (((l.drop (i + 1)).flatMap dV ++ r1) ++ r2) := by
  have e : l.flatMap dV = (l.take (i + 1)).flatMap dV ++ (l.drop (i + 1)).flatMap dV := by rw [← List.flatMap_append, List.take_append_drop]
  rw [e]
  simp only [List.append_assoc]
 have e2 : (l.take (i + 1) ++ l.drop i).flatMap dV ++ r2 = (l.take (i + 1)).flatMap dV ++ ((l.drop i).flatMap dV ++ r2) := by rw [List.flatMap_append, List.append_assoc]
 rw [e1, e2]
 refine Laid.right (o := 0) (Laid.left (Laid.all ?_)) (by rw [ht, ho]; omega)
 rw [hd, List.length_append, c6 _ (hx.drop _).len, List.length_drop, P8]; omega
theorem TJ {X : Nat → Prop} {w : World} {v : Value} {base vb : Nat} {l : List Ch} {x : Ch} (hX : cU X w) (bT : aH (fun c_ => X c_ ∨ v.ownBlock = some c_) (fun w => aM w vb 127 (dV x)) w) (hx : XL l) (LW : x.k.length = 32) (fV : ∀ c ∈ l, c.s.oneCell' = true) (VX : x.s.oneCell' = true) (hlen : l.length ≤ 1000000) (hrow : w.ownsRow base 127 34 v l.length (l.flatMap dV)) (hbase : base ≤ w.heap.size) :
  bF prog 187 [v, .int .i64 ((l.length : Nat) : Int), .slice (some ⟨vb, 0, none⟩) 1 1].toArray w fun v' w' => Out (fun c => v.ownBlock = some c) w w' ∧ w'.ownsRow base 127 34 v' (l.length + 1) ((j9 l l.length x).flatMap dV) ∧ ∀ b, v'.ownBlock = some b → v.ownBlock = some b ∨ w.heap.size ≤ b := by
 refine bF.aI (N := 95) func187 rfl rfl (by simp) ?_
 have H := St.aBW hX hrow
 replace H := H.add (aG0 bT)
 have DZ : (dV x).length = 1 * 34 := iQ LW
 refine WE.aA (WL.as rfl rfl (WL.nil (WE.aA (WL.mv rfl rfl (WL.mv rfl rfl (WL.pv (PV.p9 rfl (cR.eM (H.o 0 rfl)) dR eE rfl rfl (by omega) (by omega)) rfl (WL.nil ?_)))))))
 refine WE.aA (WL.mv rfl rfl ?_)
 refine WL.pv (PV.dO (by exact cR.bZ (n := 1) (H.p 0 rfl) DZ) dR rfl) rfl ?_
 refine WL.as rfl rfl (WL.nil (WE.seq (WE.aA (WL.mv rfl rfl (WL.pv (PV.eql rfl rfl rfl) rfl (WL.nil ?_))))))
 refine WE.bB rfl rfl ?_
 refine WE.skip (WE.aA (WL.mv rfl rfl (WL.pv (PV.dO (cR.eM (H.o 0 rfl)) dR rfl) rfl (WL.as rfl rfl (WL.nil (WE.seq (WE.aA ?_)))))))
 refine WL.mv rfl rfl (WL.mv rfl rfl (WL.pv (PV.eql rfl rfl rfl) rfl (WL.nil ?_)))
 refine WE.cO rfl (by simp) ?_
 refine WE.aA (WL.mv rfl rfl (WL.mv rfl rfl ?_))
 refine WL.XO (m := 1) H 0 hbase uG (by decide) rfl rfl rfl (by exact cR.bZ (n := 1) (H.p 0 rfl) DZ) (k9 VX) (by omega) (by decide) rfl ?_ ?_
 ·
  intro v25 w1 hgr H
  refine WL.as rfl rfl (WL.nil (WE.ret ⟨[_], _, .nil _, ⟨rfl, trivial⟩, ?_⟩))
  have hin : (j9 l l.length x).flatMap dV = l.flatMap dV ++ dV x := by unfold j9; rw [List.take_length, List.drop_length, List.flatMap_append, List.flatMap_singleton]
  rw [hin]
  exact ⟨H.l5.mono fun c _ ⟨e, he, hc⟩ => (by rw [List.mem_singleton.1 he] at hc; exact hgr c hc), H.o 0 rfl, fun b hb => .inl (hgr b hb)⟩
 ·
  intro v25 w2 hgr H
  refine WL.as rfl rfl (WL.nil (WE.ret ⟨[_], _, .nil _, ⟨rfl, trivial⟩, ?_⟩))
  have hin : (j9 l l.length x).flatMap dV = l.flatMap dV ++ dV x := by unfold j9; rw [List.take_length, List.drop_length, List.flatMap_append, List.flatMap_singleton]
  rw [hin]
  exact ⟨H.l5.mono fun c _ ⟨e, he, hc⟩ => (by rw [List.mem_singleton.1 he] at hc; exact hc), H.l 0 rfl, fun b hb => .inr (hgr b hb)⟩
theorem M9 {X : Nat → Prop} {w : World} {g cap i vb : Nat} {l : List Ch} {x : Ch} {rest : List Value} (hX : cU X w) (eT : aM w g 127 (l.flatMap dV ++ rest)) (bT : aH (fun c_ => X c_ ∨ c_ = g) (fun w => aM w vb 127 (dV x)) w) (hx : XL l) (LW : x.k.length = 32) (fV : ∀ c ∈ l, c.s.oneCell' = true) (VX : x.s.oneCell' = true) (hlen : l.length ≤ 1000000) (jE : l.length ≤ cap) (hi : i < l.length) (aI0 : cap < l.length + 1) :
  bF prog 187 [.slice (some ⟨g, 0, none⟩) l.length cap, .int .i64 (i : Int), .slice (some ⟨vb, 0, none⟩) 1 1].toArray w fun v' w' => ∃ (b c : Nat) (more : List Value), v' = .slice (some ⟨b, 0, none⟩) (l.length + 1) c ∧ Out Nil w w' ∧ w.heap.size ≤ b ∧ aM w' b 127 ((j9 l i x).flatMap dV ++ more) ∧ l.length + 1 ≤ c ∧ c ≤ maxLen ∧ more.length = (c - (l.length + 1)) * 34 := by
 refine bF.aI (N := 95) func187 rfl rfl (by simp) ?_
 have H := (St.c7 (b := g) (t := 127) (l := l.flatMap dV ++ rest) hX eT).add (bX bT)
 have DZ : (dV x).length = 1 * 34 := iQ LW
 refine WE.aA (WL.as rfl rfl (WL.nil (WE.aA (WL.mv rfl rfl (WL.mv rfl rfl ?_)))))
 refine WL.pv (PV.p9 rfl (fW.HN (cap := cap) (H.o 0 rfl) hx rfl jE) dR eE rfl rfl (by omega) (by omega)) rfl ?_
 refine WL.nil (WE.aA (WL.mv rfl rfl ?_))
 refine WL.pv (PV.dO (by exact cR.bZ (n := 1) (H.p 0 rfl) DZ) dR rfl) rfl ?_
 refine WL.as rfl rfl (WL.nil (WE.seq (WE.aA (WL.mv rfl rfl (WL.pv (PV.eql rfl rfl rfl) rfl (WL.nil ?_))))))
 refine WE.bB rfl rfl ?_
 refine WE.skip (WE.aA (WL.mv rfl rfl (WL.pv (PV.dO (fW.HN (cap := cap) (H.o 0 rfl) hx rfl jE) dR rfl) rfl (WL.as rfl rfl (WL.nil (WE.seq (WE.aA ?_)))))))
 refine WL.mv rfl rfl (WL.mv rfl rfl (WL.pv (PV.eql rfl rfl rfl) rfl (WL.nil ?_)))
 refine WE.bB rfl (by simp; omega) ?_
 refine WE.skip (WE.seq (WE.aA (WL.mv rfl rfl (WL.mv rfl rfl ?_))))
 refine WL.pv (PV.eq (v' := .int .i64 ((l.length + 1 : Nat) : Int)) (PV.bY rfl rfl rfl (by omega) (by omega)) rfl) rfl ?_
 refine WL.mv rfl rfl (WL.pv (PV.J8 dR rfl) rfl (WL.pv (PV.gtr rfl rfl rfl) rfl (WL.nil ?_)))
 refine WE.cO rfl (by simp; omega) ?_
 refine WE.aA (WL.mv rfl rfl (WL.mv rfl rfl ?_))
 refine WL.pv (PV.eq (v' := .slice (some ⟨g, 0, none⟩) i cap) (PV.UL rfl (fW.HN (cap := cap) (H.o 0 rfl) hx rfl jE) dR eE rfl rfl (by omega) (by omega)) (by have h_ := gZ (g := g) (n := l.length) (cap := cap) (lo := 0) (hi := i) (by omega); rw [Nat.zero_mul] at h_; exact h_)) rfl ?_
 refine WL.mv rfl rfl (WL.mv rfl rfl ?_)
 refine WL.pv (PV.eq (v' := .int .i64 ((l.length + 1 : Nat) : Int)) (PV.bY rfl rfl rfl (by omega) (by omega)) rfl) rfl ?_
 refine WL.mv rfl rfl ?_
 refine WL.pv (PV.eq (v' := .int .i64 ((l.length + 1 - i : Nat) : Int)) (PV.iS rfl rfl rfl (by omega) (by omega)) (by (congr 1; omega))) rfl ?_
 have hl0 : ((l.take i).flatMap dV).length = i * 34 := by rw [c6 _ (hx.take i).len, List.length_take]; congr 1; omega
 refine WL.aEA (zl := dV YO) (olds := (l.take i).flatMap dV) H uG (by decide) Tryz.underlying3 rfl rfl (aM.aF (H.o 0 rfl) (show aJ (l.flatMap dV ++ rest) 0 _ from ⟨[], (l.drop i).flatMap dV ++ rest, by rw [List.nil_append, ← List.append_assoc, ← List.flatMap_append, List.take_append_drop], rfl⟩) rfl) hl0 (by omega) (by omega) (by omega) (by omega) rfl ?_
 intro b40 c40 w3 more hc1 hc2 yS H
 rw [show i + (l.length + 1 - i) = l.length + 1 by omega] at hc1 yS ⊢
 have aDS : w.heap.size ≤ b40 := H.jU _ (List.mem_of_getElem? (i := 0) rfl) b40 rfl
 obtain ⟨rs, hrs⟩ : ∃ rs, rs = l.take i ++ List.replicate (l.length + 1 - i) YO := ⟨_, rfl⟩
 have hrl : rs.length = l.length + 1 := by rw [hrs]; simp; omega
 have hxr : XL rs := by rw [hrs]; intro c hc; rcases List.mem_append.1 hc with h_ | h_; exact hx.take i c h_; rw [(List.mem_replicate.1 h_).2]; rfl
 replace H := H.conv (L' := [aN.blk b40 127 (rs.flatMap dV ++ more)]) (by rw [T8, hrs, List.flatMap_append])
 have hSN := fW.HN (cap := c40) (H.l 0 rfl) hxr hrl hc1
 refine WL.as rfl rfl (WL.nil (WE.aA (WL.mv rfl rfl (WL.mv rfl rfl ?_))))
 refine WL.pv (PV.eq (v' := .slice (some ⟨b40, (i) * 34, none⟩) (l.length + 1 - i) (c40 - i)) (PV.p9 rfl hSN dR eE rfl rfl (by omega) (by omega)) (gZ (by omega))) rfl ?_
 refine WL.mv rfl rfl ?_
 have aHo : rs.set i x = (l.take i ++ [x]) ++ List.replicate (l.length - i) YO := by rw [hrs, List.set_append_right (h := by rw [List.length_take]; omega), show l.length + 1 - i = (l.length - i) + 1 by omega, List.replicate_succ, show i - (l.take i).length = 0 by rw [List.length_take]; omega, List.set_cons_zero, List.append_assoc]; rfl
 refine WL.J3 (sz := 34) (l' := (rs.set i x).flatMap dV ++ more) H 0 dR eE rfl rfl rfl (by exact cR.bZ (n := 1) (H.p 0 rfl) DZ) (pH (k9 VX) _) (by rw [show min 1 (l.length + 1 - i) = 1 by omega, List.take_of_length_le (l := dV x) (by omega)]; exact pM (C := dV) rs hxr.len more (i := i) (by omega) (iQ LW) rfl) rfl ?_
 intro FP H
 replace H := H.conv (L' := [aN.blk b40 127 (((l.take i ++ [x]) ++ List.replicate (l.length - i) YO).flatMap dV ++ more)]) (by rw [← aHo]; rfl)
 have aDv : XL (l.take i ++ [x]) := by intro c hc; rcases List.mem_append.1 hc with h_ | h_; exact hx.take i c h_; rw [List.mem_singleton.1 h_]; exact LW
 have hxz : XL (List.replicate (l.length - i) YO) := by intro c hc; rw [(List.mem_replicate.1 hc).2]; rfl
 have aHh : XL ((l.take i ++ [x]) ++ List.replicate (l.length - i) YO) := by intro c hc; rcases List.mem_append.1 hc with h_ | h_; exact aDv c h_; exact hxz c h_
 clear hSN
 have hSN := fW.HN (cap := c40) (H.l 0 rfl) aHh (by simp; omega) hc1
 refine WL.nil ?_
 refine WE.bG (.take 0 (.take 1 (.take 2 (.take 3 (.take 4 (.take 5 (.take 6 (.take 7 (.aG 8 .done))))))))) mixed (by kernel_rfl) ?_
 replace H := H.out (Out.drew _)
 refine WP.mv rfl rfl rfl (WP.mv rfl rfl rfl (WP.mv rfl rfl rfl ?_))
 refine WP.aC rfl rfl (PV.eq (v' := .int .i64 ((i + 1 : Nat) : Int)) (PV.bY rfl rfl rfl (by omega) (by omega)) rfl) ?_
 refine WP.aC rfl rfl (PV.eq (v' := .slice (some ⟨b40, (i + 1) * 34, none⟩) (l.length + 1 - (i + 1)) (c40 - (i + 1))) (PV.p9 rfl hSN dR eE rfl rfl (by omega) (by omega)) (by rcases Nat.lt_or_ge (i + 1) c40 with h_ | h_; exact gZ h_; omega)) ?_
 refine WP.mv rfl rfl rfl (WP.mv rfl rfl rfl ?_)
 refine WP.aC rfl rfl (PV.eq (v' := .slice (some ⟨g, (i) * 34, none⟩) (l.length - i) (cap - i)) (PV.p9 rfl (fW.HN (cap := cap) (H.o 0 rfl) hx rfl jE) dR eE rfl rfl (by omega) (by omega)) (gZ (by omega))) ?_
 refine WP.aG rfl ?_
 have hSD : cR _ (.slice (some ⟨g, (i) * 34, none⟩) (l.length - i) (cap - i)) 34 (l.length - i) ((l.drop i).flatMap dV) := cR.mY (aM.aF (H.o 0 rfl) (JR l hx.len rest i (by omega)) rfl) (by rw [c6 _ (hx.drop i).len, List.length_drop]) (by omega)
 refine WL.J3 (sz := 34) (l' := ((l.take i ++ [x]) ++ l.drop i).flatMap dV ++ more) H 0 dR eE rfl rfl rfl hSD (pH (BF fun c hc => fV c (List.mem_of_mem_drop hc)) _) (by rw [show min (l.length - i) (l.length + 1 - (i + 1)) = l.length - i by omega, List.take_of_length_le (l := (l.drop i).flatMap dV) (by rw [c6 _ (hx.drop i).len, List.length_drop]; exact Nat.le_refl _)]; exact LR aDv hxz (hx.drop i) (by simp) (by rw [List.length_append, List.length_take, List.length_singleton]; omega)) rfl ?_
 intro w22 H
 refine WL.nil ⟨c5, ?_⟩
 refine WP.done (WE.aA (WL.mv rfl rfl (WL.as rfl rfl (WL.nil (WE.ret ⟨[_], _, .nil _, ⟨rfl, trivial⟩, ?_⟩)))))
 refine ⟨b40, c40, more, rfl, ?_, aDS, ?_, hc1, hc2, yS⟩
 ·
  exact ⟨H.os, H.tape, H.output, H.size, fun b hb _ => by by_cases hbg : b = g; (subst hbg; exact (H.o 0 rfl).trans eT.symm); exact H.old b hb (by intro e he hc; rw [List.mem_singleton.1 he] at hc; exact hbg hc)⟩
 ·
  have h_ := H.l 0 rfl; have e_ : j9 l i x = (l.take i ++ [x]) ++ l.drop i := by unfold j9; rw [List.append_assoc]; rfl
  rw [e_]; exact h_
theorem ID {X : Nat → Prop} {w : World} {g cap i vb : Nat} {l : List Ch} {x : Ch} {r1 r2 : List Value} (hX : cU X w) (eT : aM w g 127 (l.flatMap dV ++ (r1 ++ r2))) (bT : aH (fun c_ => X c_ ∨ c_ = g) (fun w => aM w vb 127 (dV x)) w) (hx : XL l) (LW : x.k.length = 32) (fV : ∀ c ∈ l, c.s.oneCell' = true) (VX : x.s.oneCell' = true) (hlen : l.length ≤ 1000000) (jE : l.length + 1 ≤ cap) (hi : i < l.length) (P8 : r1.length = 34) (hne : vb ≠ g) :
  bF prog 187 [.slice (some ⟨g, 0, none⟩) l.length cap, .int .i64 (i : Int), .slice (some ⟨vb, 0, none⟩) 1 1].toArray w fun v' w' => v' = .slice (some ⟨g, 0, none⟩) (l.length + 1) cap ∧ Out (· = g) w w' ∧ aM w' g 127 ((j9 l i x).flatMap dV ++ r2) := by
 refine bF.aI (N := 95) func187 rfl rfl (by simp) ?_
 have H := (St.c7 (b := g) (t := 127) (l := l.flatMap dV ++ (r1 ++ r2)) hX eT).add (bX bT)
 have DZ : (dV x).length = 1 * 34 := iQ LW
 have NH := c6 (C := dV) l hx.len
 have hx2 : XL (l.take (i + 1) ++ l.drop i) := by intro c hc; rcases List.mem_append.1 hc with h_ | h_; exact hx.take _ c h_; exact hx.drop _ c h_
 refine WE.aA (WL.as rfl rfl (WL.nil (WE.aA (WL.mv rfl rfl (WL.mv rfl rfl ?_)))))
 refine WL.pv (PV.p9 rfl (fW.HN (cap := cap) (H.o 0 rfl) hx rfl (by omega)) dR eE rfl rfl (by omega) (by omega)) rfl ?_
 refine WL.nil (WE.aA (WL.mv rfl rfl ?_))
 refine WL.pv (PV.dO (by exact cR.bZ (n := 1) (H.p 0 rfl) DZ) dR rfl) rfl ?_
 refine WL.as rfl rfl (WL.nil (WE.seq (WE.aA (WL.mv rfl rfl (WL.pv (PV.eql rfl rfl rfl) rfl (WL.nil ?_))))))
 refine WE.bB rfl rfl ?_
 refine WE.skip (WE.aA (WL.mv rfl rfl (WL.pv (PV.dO (fW.HN (cap := cap) (H.o 0 rfl) hx rfl (by omega)) dR rfl) rfl (WL.as rfl rfl (WL.nil (WE.seq (WE.aA ?_)))))))
 refine WL.mv rfl rfl (WL.mv rfl rfl (WL.pv (PV.eql rfl rfl rfl) rfl (WL.nil ?_)))
 refine WE.bB rfl (by simp; omega) ?_
 refine WE.skip (WE.seq (WE.aA (WL.mv rfl rfl (WL.mv rfl rfl ?_))))
 refine WL.pv (PV.eq (v' := .int .i64 ((l.length + 1 : Nat) : Int)) (PV.bY rfl rfl rfl (by omega) (by omega)) rfl) rfl ?_
 refine WL.mv rfl rfl (WL.pv (PV.J8 dR rfl) rfl (WL.pv (PV.gtr rfl rfl rfl) rfl (WL.nil ?_)))
 refine WE.bB rfl (by simp; omega) ?_
 refine WE.skip (WE.aA (WL.mv rfl rfl (WL.mv rfl rfl (WL.mv rfl rfl ?_))))
 refine WL.pv (PV.eq (v' := .int .i64 ((l.length + 1 : Nat) : Int)) (PV.bY rfl rfl rfl (by omega) (by omega)) rfl) rfl ?_
 have hSW := cR.Y7 (n := l.length + 1) (c := cap) (H.o 0 rfl) (by rw [List.length_append, List.length_append, NH, P8]; omega) jE
 refine WL.pv (PV.aCR (j := l.length + 1) rfl dR eE rfl rfl jE) rfl (WL.as rfl rfl (WL.nil (WE.seq (WE.aA (WL.mv rfl rfl (WL.mv rfl rfl (WL.mv rfl rfl ?_)))))))
 refine WL.mv rfl rfl (WL.pv (PV.eq (v' := .int .i64 ((i + 1 : Nat) : Int)) (PV.bY rfl rfl rfl (by omega) (by omega)) rfl) rfl ?_)
 refine WL.pv (PV.eq (v' := .slice (some ⟨g, (i + 1) * 34, none⟩) (l.length + 1 - (i + 1)) (cap - (i + 1))) (PV.p9 rfl hSW dR eE rfl rfl (by omega) (by omega)) (gZ (by omega))) rfl ?_
 refine WL.extern (e := Extern.SlicesOverlaps.overlaps #[119, 119] #[4]) (v := .bool false) func202 (by kernel_rfl) (by kernel_rfl) (by kernel_rfl) (by kernel_rfl) rfl (yK dR eE (by exact H.p 0 rfl) (H.o 0 rfl) hne (by intro h_; have NK := congrArg List.length h_; rw [List.length_append, List.length_append, P8] at NK; simp at NK)) ?_
 refine WL.pv (PV.not rfl rfl) rfl (WL.nil ?_)
 refine WE.cO rfl rfl ?_
 refine WE.bG (.take 0 (.take 1 (.take 2 (.take 3 (.take 4 (.take 5 (.take 6 (.take 7 (.aG 8 .done))))))))) mixed (by kernel_rfl) ?_
 replace H := H.out (Out.drew _)
 refine WP.mv rfl rfl rfl (WP.mv rfl rfl rfl (WP.mv rfl rfl rfl ?_))
 refine WP.aC rfl rfl (PV.eq (v' := .int .i64 ((i + 1 : Nat) : Int)) (PV.bY rfl rfl rfl (by omega) (by omega)) rfl) ?_
 refine WP.aC rfl rfl (PV.eq (v' := .slice (some ⟨g, (i + 1) * 34, none⟩) (l.length + 1 - (i + 1)) (cap - (i + 1))) (PV.p9 rfl hSW dR eE rfl rfl (by omega) (by omega)) (gZ (by omega))) ?_
 refine WP.mv rfl rfl rfl (WP.mv rfl rfl rfl ?_)
 refine WP.aC rfl rfl (PV.eq (v' := .slice (some ⟨g, (i) * 34, none⟩) (l.length + 1 - i) (cap - i)) (PV.p9 rfl hSW dR eE rfl rfl (by omega) (by omega)) (gZ (by omega))) ?_
 refine WP.aG rfl ?_
 have hSD : cR _ (.slice (some ⟨g, (i) * 34, none⟩) (l.length + 1 - i) (cap - i)) 34 (l.length + 1 - i) ((l.drop i).flatMap dV ++ r1) := cR.mY (aM.aF (H.o 0 rfl) (LC hx (by omega)) rfl) (by rw [List.length_append, c6 _ (hx.drop i).len, List.length_drop, P8]; omega) (by omega)
 refine WL.aAh (sz := 34) (l' := (l.take (i + 1) ++ l.drop i).flatMap dV ++ r2) H 0 dR eE rfl rfl rfl hSD (by rw [show min (l.length + 1 - i) (l.length + 1 - (i + 1)) = l.length - i by omega, List.take_left' (by rw [c6 _ (hx.drop i).len, List.length_drop])]; exact BF fun c hc => fV c (List.mem_of_mem_drop hc)) (by rw [show min (l.length + 1 - i) (l.length + 1 - (i + 1)) = l.length - i by omega]; exact GJ hx hi P8) rfl ?_
 intro w4 H
 clear hSW
 have hSW := cR.Y7 (n := l.length + 1) (c := cap) (H.o 0 rfl) (by rw [List.length_append, c6 _ hx2.len]; simp; omega) jE
 refine WL.nil ⟨c5, ?_⟩
 refine WP.done (WE.aA (WL.mv rfl rfl (WL.mv rfl rfl ?_)))
 refine WL.pv (PV.eq (v' := .slice (some ⟨g, (i) * 34, none⟩) (l.length + 1 - i) (cap - i)) (PV.p9 rfl hSW dR eE rfl rfl (by omega) (by omega)) (gZ (by omega))) rfl ?_
 refine WL.mv rfl rfl ?_
 refine WL.aAh (sz := 34) (l' := ((l.take (i + 1) ++ l.drop i).set i x).flatMap dV ++ r2) H 0 dR eE rfl rfl rfl (by exact cR.bZ (n := 1) (H.p 0 rfl) DZ) (pH (k9 VX) _) (by rw [show min 1 (l.length + 1 - i) = 1 by omega, List.take_of_length_le (l := dV x) (by omega)]; exact pM (C := dV) _ hx2.len r2 (i := i) (by simp; omega) (iQ LW) rfl) rfl ?_
 intro w8 H
 refine WL.nil (WE.aA (WL.mv rfl rfl (WL.as rfl rfl (WL.nil (WE.ret ⟨[_], _, .nil _, ⟨rfl, trivial⟩, ?_⟩)))))
 refine ⟨rfl, H.l5.mono fun b _ ⟨_, he, hb⟩ => (by cases List.mem_singleton.1 he; exact hb), ?_⟩
 have h_ := H.o 0 rfl
 have e_ : (l.take (i + 1) ++ l.drop i).set i x = j9 l i x := VU hi
 rw [← e_]; exact h_
theorem FG {w : World} {base vb i : Nat} {v : Value} {l : List Ch} {x : Ch} (hf : aH (fun c => v.ownBlock = some c) (fun w => aM w vb 127 (dV x)) w) (hx : XL l) (LW : x.k.length = 32) (fV : ∀ c ∈ l, c.s.oneCell' = true) (VX : x.s.oneCell' = true) (hlen : l.length ≤ 1000000)
  (hrow : w.ownsRow base 127 34 v l.length (l.flatMap dV)) (hbase : base ≤ w.heap.size) (hne : ¬ v.ownBlock = some vb) (hi : i ≤ l.length) :
  bF prog 187 [v, .int .i64 (i : Int), .slice (some ⟨vb, 0, none⟩) 1 1].toArray w fun v' w' => Out (fun c => v.ownBlock = some c) w w' ∧ w'.ownsRow base 127 34 v' (j9 l i x).length ((j9 l i x).flatMap dV) ∧ ∀ b, v'.ownBlock = some b → v.ownBlock = some b ∨ w.heap.size ≤ b := by
 have hil := wS l x hi
 have hix : XL (j9 l i x) := fun c hc => by
  rcases iI.1 hc with rfl | h
  ·
   exact LW
  ·
   exact hx c h
 by_cases he : i = l.length
 ·
  subst he
  rw [hil]
  exact TJ (X := Nil) (fun _ h => h.elim) (hf.mono fun b _ h => h.elim (fun h => h.elim) id) hx LW fV VX hlen hrow hbase
 ·
  have hlt : i < l.length := by omega
  obtain ⟨h1, ⟨rfl, h2⟩ | ⟨g, cap, cur, rfl, hg, BS, jE, QB, hsz, D1⟩⟩ := hrow
  ·
   omega
  ·
   obtain ⟨rest, ZC⟩ : ∃ rest, rest = cur.toList.drop (l.length * 34) := ⟨_, rfl⟩
   have hB : aM w g 127 (l.flatMap dV ++ rest) := by
    unfold aM
    rw [ZC, ← D1, List.take_append_drop]
    exact BS
   have hrl : rest.length = cap * 34 - l.length * 34 := by rw [ZC, List.length_drop, Array.length_toList, hsz]
   have hgl : g < w.heap.size := hB.lt
   rcases Nat.lt_or_ge cap (l.length + 1) with hc | hc
   ·
    refine (M9 (X := Nil) (i := i) (vb := vb) (x := x) (fun _ h => h.elim) hB (hf.mono fun b _ h => by rcases h with h | h; exact h.elim; rw [h]; rfl) hx LW fV VX hlen jE hlt hc).mono ?_
    rintro v' w' ⟨b, c, more, rfl, hO, hge, hB', hc1, hc2, yS⟩
    rw [hil]
    refine ⟨hO.mono fun _ _ h => h.elim, ⟨by rw [c6 _ hix.len, hil], .inr ⟨b, c, ((j9 l i x).flatMap dV ++ more).toArray, rfl, Nat.le_trans hbase hge, hB', by omega, hc2, ?_, ?_⟩⟩, fun b' hb' => .inr (by have h_ : b = b' := Option.some.inj hb'; omega)⟩
    ·
     simp only [List.size_toArray, List.length_append]
     rw [c6 _ hix.len, yS, hil]
     omega
    ·
     rw [List.toList_toArray, List.take_left' (by rw [c6 _ hix.len, hil])]
   ·
    have aJt : 34 ≤ rest.length := by rw [hrl]; omega
    have hr : rest = rest.take 34 ++ rest.drop 34 := (List.take_append_drop 34 rest).symm
    rw [hr] at hB
    refine (ID (X := Nil) (i := i) (vb := vb) (x := x) (fun _ h => h.elim) hB (hf.mono fun b _ h => by rcases h with h | h; exact h.elim; rw [h]; rfl) hx LW fV VX hlen hc hlt (by rw [List.length_take]; omega) (fun h => hne (by rw [h]; rfl))).mono ?_
    rintro v' w' ⟨rfl, hO, hB'⟩
    rw [hil]
    refine ⟨hO.mono fun b _ h => by rw [h]; rfl, ⟨by rw [c6 _ hix.len, hil], .inr ⟨g, cap, ((j9 l i x).flatMap dV ++ rest.drop 34).toArray, rfl, hg, hB', by omega, QB, ?_, ?_⟩⟩, fun b' hb' => .inl hb'⟩
    ·
     simp only [List.size_toArray, List.length_append]
     rw [c6 _ hix.len, hil, List.length_drop, hrl]
     omega
    ·
     rw [List.toList_toArray, List.take_left' (by rw [c6 _ hix.len, hil])]
theorem DQ {k : List UInt8} (hk : k.length = 32) (c : Ch) (W : World) (h : c.k.length = 32) : eV prog (vG 186) [.agg (dV c).toArray, .agg (kc k).toArray] W fun v W' => v = .int .i64 (gN c.k k) ∧ Out Nil W W' :=
 eV.iU (fs := []) (cs := []) aFd (PO (X := Nil) (fun _ h => h.elim) h hk)
theorem BG {a b : List UInt8} (ha : a.length = 32) (hb : b.length = 32) : num a = num b ↔ a = b := ⟨r9 _ _ (by rw [ha, hb]), fun h => by rw [h]⟩
theorem OP {m m' : List En} {k : List UInt8} (h : m.map kv = m'.map kv) : (eX m k).map kv = (eX m' k).map kv := by
 have e : ∀ l : List En, (eX l k).map kv = (l.map kv).filter fun x => decide (x.1 ≠ k) := fun l => by rw [List.filter_map]; rfl
 rw [e, e, h]
theorem JH (e : En) : ∀ l l' : List En, l.map kv = l'.map kv → (ins e l).map kv = (ins e l').map kv
 | [], [], _ => rfl
 | [], _ :: _, h => by simp at h
 | _ :: _, [], h => by simp at h
 | x :: l, y :: l', h => by
  rw [List.map_cons, List.map_cons] at h
  injection h with h1 h2
  have hk : x.k = y.k := congrArg Prod.fst h1
  have ih := JH e l l' h2
  unfold ins
  rw [hk]
  split
  ·
   rw [List.map_cons, List.map_cons, List.map_cons, List.map_cons, h1, h2]
  ·
   rw [List.map_cons, List.map_cons, h1, ih]
theorem OX {m m' : List En} {e : En} (h : m.map kv = m'.map kv) : (gJ m e).map kv = (gJ m' e).map kv := JH e _ _ (OP h)
theorem HO : ∀ (l : List Ch) (m m' : List En), m.map kv = m'.map kv → (lE m l).map kv = (lE m' l).map kv
 | [], _, _, h => h
 | c :: l, m, m', h => HO l (xX m c) (xX m' c) (by
  unfold xX
  split
  ·
   exact OP h
  ·
   exact OX h)
theorem St.YZ {X : Nat → Prop} {w0 w : World} {O L : List aN} {Ps : List (World → Prop)} (H : St X w0 w O L Ps) (i j : Nat) {e1 e2 : aN} (hi : L[i]? = some e1) (hj : L[j]? = some e2) (hij : i ≠ j) : aH e1.fp e2.ok w := fun w' hw =>
 e2.loc w w' (fun b hb => hw b (H.TX e2 (List.mem_of_getElem? hj) b hb) fun h => eS H.gW hij hi hj b ⟨h, hb⟩) (H.l j hj)
theorem VF {X : Nat → Prop} {w : World} {bits : Int} {s s0 : Value} {l : List Ch} {a : Nat} {q u : List UInt8} (hX : cU X w) (bT : aH X (cQ bits (.leaf a q u s0 : Tr)) w) (dA : aH X (fW s l) w) (fN : aH X (gH l) w) (hx : XL l) (hl : rL l) (hsh : oO l) (hlen : l.length ≤ 999999) :
  bF prog 147 [(.leaf a q u s0 : Tr).ptr, s].toArray w fun v w' => ∃ l' : List Ch, Out Nil w w' ∧ aH X (fW v l') w' ∧ aH X (gH l') w' ∧ (XL l' ∧ rL l' ∧ oO l') ∧ l'.length ≤ l.length + 1 ∧ (∀ c ∈ l', c ∈ l ∨ c.k = q) ∧ ∀ (d : Nat) (e : En), e.k = q → e.v = u → grow d (lE [] l') = grow d (lE [e] l) := by
 refine bF.aI (N := 29) func147 rfl rfl (by simp) ?_
 have H := (((St.begin hX).add (cE fN)).add (cE dA)).add (cE bT)
 have hq : q.length = 32 := cQ.gF (bT.here)
 have hul : u.length ≤ 1000000 := cQ.NZ (bT.here)
 have fV := fW.one (s := s) (fN.here)
 refine WE.aA (WL.as rfl rfl (WL.nil (WE.aA (WL.mv rfl rfl ?_))))
 refine WL.call aEM rfl (KO (T := (.leaf a q u s0 : Tr)) (bits := bits) H.aS (by exact H.bK 0 rfl) ) ?_
 rintro _ w1 ⟨N8, rfl, hO, gP⟩
 have JL := cR.fH (bI.eM gP)
 have hr_ := (pR H.aS gP).imp fun _ h => bI.eM h
 replace H := (H.out hO).add hr_
 refine WL.alloc H rfl kO rfl ?_
 intro b5 w2 H
 refine WL.aT H 0 rfl rfl rfl (new := kc q ++ [N8]) rfl (cH fK (by simp only [aR]; omega)) (bO (bJ _) (bE _ (by simp [JL]))) (Laid.at (Laid.all (by simp only [aR]; omega)) rfl) rfl ?_
 intro w3 H
 refine WL.nil (WE.aA (WL.mv rfl rfl (WL.pv (PV.fieldAddr rfl gR rfl) rfl ?_)))
 refine WL.bC rfl cV rfl rfl (aM.aF (H.l 0 rfl) (aJ.l (aJ.all _)) rfl) (cH cM (by simp only [aR]; omega)) ?_
 refine WL.call aFe rfl (aGM (s := s) (l := l) (k := q) (f := vG 186) H.aS (by exact (H.bK 2 rfl : aH _ (fW s l) _)) hx hl (by omega) hq (DQ hq)) ?_
 rintro _ w4 ⟨r, b, rfl, hO, hr, hlo, hge, hb⟩
 replace H := H.out hO
 refine WL.mv rfl rfl (WL.pv (PV.extract rfl rfl rfl) rfl (WL.pv (PV.extract rfl rfl rfl) rfl (WL.as rfl rfl (WL.as rfl rfl (WL.nil (WE.seq (WE.aA ?_)))))))
 refine WL.mv rfl rfl (WL.nil ?_)
 refine WE.cond rfl (fun iB => ?_) (fun iB => ?_)
 ·
  try simp only [bU] at iB
  have hbt : b = true := by exact iB
  obtain ⟨hrl, hrn⟩ := hb.1 hbt
  have hrk : l[r].k = q := (BG (hx _ (List.getElem_mem hrl)) hq).1 hrn
  refine WE.aA (WL.mv rfl rfl (WL.as rfl rfl (WL.nil (WE.ret ⟨[_], _, .nil _, ⟨rfl, trivial⟩, ?_⟩))))
  refine ⟨l, H.aL, H.gQ (by exact (H.bK 2 rfl : aH _ (fW s l) _)), H.gQ (by exact (H.bK 3 rfl : aH _ (gH l) _)), ⟨hx, hl, hsh⟩, Nat.le_succ _, (fun c hc => .inl hc), fun d e he _ => ?_⟩
  rw [MW hx hl (by rw [he]; exact hq) ⟨l[r], List.getElem_mem hrl, by rw [he]; exact hrk⟩]
 ·
  try simp only [bU] at iB
  have hbf : b = false := by exact iB
  have LZ : ∀ c ∈ l, c.k ≠ q := fun c hc hh => by obtain ⟨i, hi, rfl⟩ := List.getElem_of_mem hc; rcases Nat.lt_or_ge i r with h_ | h_; have NK := hlo i hi h_; rw [hh] at NK; omega; rcases Nat.lt_or_ge r i with WB | WB; have h4_ := List.pairwise_iff_getElem.1 hl r i (by omega) hi WB; have h5_ := hge r (by omega) (Nat.le_refl _); rw [hh] at h4_; omega; (have h6_ : i = r := by omega); subst h6_; have h7_ := hb.2 ⟨hi, by rw [hh]⟩; rw [hbf] at h7_; cases h7_
  refine WE.skip ?_
  refine WE.bG (.take 0 (.take 2 (.take 3 (.take 4 (.take 5 (.take 6 (.take 7 (.iW 1 (.aG 8 (.aG 9 (.take 10 .done))) 8 (.aG 1 (.aG 9 (.take 10 .done))))))))))) mixed (by kernel_rfl) ?_
  replace H := H.out (Out.drew _)
  refine WP.mv rfl rfl rfl (WP.mv rfl rfl rfl (WP.aC rfl rfl (PV.fieldAddr rfl gR rfl) ?_))
  refine WP.dF rfl rfl rfl cV rfl (aM.aF (H.l 0 rfl) (aJ.l (aJ.all _)) rfl) (cH cM (by simp only [aR]; omega)) ?_
  refine WP.aC rfl rfl (PV.fieldAddr rfl pY rfl) ?_
  refine WP.aQ rfl rfl (RV.aZ rfl eN rfl) (aM.aF (H.l 0 rfl) (aJ.r (aJ.all _) rfl) (by simp [aO, bA, *])) ?_
  refine WP.aC rfl rfl (PV.dD rfl Y6 y5 (Fl.cons rfl rfl (by simp only [aR]; omega) (Laid.left (Laid.all (by simp only [aR]; omega))) (Fl.cons rfl (cells_one JL) (by simp only [aR]) (Laid.right (Laid.left (Laid.all (by simp only [aR]))) (by simp only [aR]; omega)) Fl.nil))) ?_
  refine WP.iW rfl rfl ?_ ?_ 
  ·
   refine WL.call RM rfl (yB (l := l) H.aS (by exact (H.bK 2 rfl : aH _ (fW s l) _)) hx (by omega) fV) ?_
   rintro v20 w5 ⟨hO, gP⟩
   replace H := H.push hO (aN.iA w.heap.size v20 127 34 _ _) (gC gP H.size) (fun b hb => (gP.lt b hb).1)
   refine WL.nil ⟨(fa (fun _ _ => (aM.aF (H.l 1 rfl) (aJ.r (aJ.all _) rfl) (by simp [aO, bA, *]))) (fa (fun _ _ => (aM.aF (H.l 1 rfl) (aJ.l (aJ.all _)) rfl)) c5)), ?_⟩
   refine WP.aG rfl ?_
   refine WL.bL (l0 := ((kc (List.replicate 32 0) ++ ([.slice none 0 0] ++ ([.bool false]))))) H rfl uG (by decide) rfl (Fl.cons rfl rfl (by simp only [aR]; omega) (Laid.all (by simp only [aR]; omega)) Fl.nil) rfl ?_
   intro b27 w6 H
   refine WL.nil ⟨(fa (nw 8 6) (fa (nw 8 4) c5)), ?_⟩
   refine WP.aG rfl ?_
   have hnv : ¬ v20.ownBlock = some b27 := by exact fun h => eS H.gW (i := 1) (j := 0) (by decide) rfl rfl b27 ⟨h, rfl⟩
   refine WL.call Z4 rfl (FG (base := w.heap.size) (vb := b27) (l := l) (x := ⟨q, N8, u, false⟩) (by exact St.YZ H 1 0 rfl rfl (by decide)) hx hq fV JL (by omega) (by exact H.l 1 rfl) H.size hnv hr) ?_
   rintro v28 w7 ⟨hO, gP, hfp⟩
   replace H := H.nY (i := 1) rfl hO (aN.iA w.heap.size v28 127 34 _ _) gP hfp
   refine WL.nil ⟨(fa (nw 9 6) (fa (nw 9 4) c5)), ?_⟩
   refine WP.as rfl rfl rfl (WP.done (WE.ret ⟨[_], _, .nil _, ⟨rfl, trivial⟩, ?_⟩))
   have hlt : rL (j9 l r ⟨q, N8, u, false⟩) := JI hl hlo (fun i h hi => by have NK := hge i h hi; rcases Nat.lt_or_ge (num q) (num l[i].k) with WB | WB; exact WB; exact absurd ((BG (hx _ (List.getElem_mem h)) hq).1 (by omega)) (LZ _ (List.getElem_mem h)))
   refine ⟨j9 l r ⟨q, N8, u, false⟩, H.aL, (by exact (pR hX (H.l 1 rfl)).imp fun _ h => cR.eM h), (H.gQ (aH.and (by exact (H.bK 3 rfl : aH _ (gH l) _)) (by exact (H.bK 0 rfl : aH _ (bI N8 u) _)))).imp fun _ h c hc => ?_, ⟨fun c hc => ?_, hlt, fun c hc => ?_⟩, by rw [wS l _ hr]; exact Nat.le_refl _, fun c hc => ?_, fun d e he hv => ?_⟩
   ·
    rcases iI.1 hc with rfl | h_; exact h.2; exact h.1 c h_
   ·
    rcases iI.1 hc with rfl | h_; exact hq; exact hx c h_
   ·
    rcases iI.1 hc with rfl | h_; exact hul; exact hsh c h_
   ·
    rcases iI.1 hc with rfl | h_; exact .inr rfl; exact .inl h_
   ·
    rw [KG (l := l) (e := ⟨q, N8, u⟩) hx hl hlt hq LZ (fun c => iI)]; exact JP (HO l _ _ (by obtain ⟨ek, es, ev⟩ := e; subst he; subst hv; rfl))
  ·
   refine WL.bL (l0 := ((kc (List.replicate 32 0) ++ ([.slice none 0 0] ++ ([.bool false]))))) H rfl uG (by decide) rfl (Fl.cons rfl rfl (by simp only [aR]; omega) (Laid.all (by simp only [aR]; omega)) Fl.nil) rfl ?_
   intro b27 w8 H
   refine WL.nil ⟨(fa (nw 8 6) (fa (nw 8 4) c5)), ?_⟩
   refine WP.aG rfl ?_
   refine WL.call RM rfl (yB (l := l) H.aS (by exact (H.bK 2 rfl : aH _ (fW s l) _)) hx (by omega) fV) ?_
   rintro v20 w9 ⟨hO, gP⟩
   replace H := H.push hO (aN.iA w.heap.size v20 127 34 _ _) (gC gP H.size) (fun b hb => (gP.lt b hb).1)
   refine WL.nil ⟨(fa (fun _ _ => (aM.aF (H.l 2 rfl) (aJ.r (aJ.all _) rfl) (by simp [aO, bA, *]))) (fa (fun _ _ => (aM.aF (H.l 2 rfl) (aJ.l (aJ.all _)) rfl)) c5)), ?_⟩
   refine WP.aG rfl ?_
   have hnv : ¬ v20.ownBlock = some b27 := by exact fun h => eS H.gW (i := 0) (j := 1) (by decide) rfl rfl b27 ⟨h, rfl⟩
   refine WL.call Z4 rfl (FG (base := w.heap.size) (vb := b27) (l := l) (x := ⟨q, N8, u, false⟩) (by exact St.YZ H 0 1 rfl rfl (by decide)) hx hq fV JL (by omega) (by exact H.l 0 rfl) H.size hnv hr) ?_
   rintro v28 vR ⟨hO, gP, hfp⟩
   replace H := H.nY (i := 0) rfl hO (aN.iA w.heap.size v28 127 34 _ _) gP hfp
   refine WL.nil ⟨(fa (nw 9 6) (fa (nw 9 4) c5)), ?_⟩
   refine WP.as rfl rfl rfl (WP.done (WE.ret ⟨[_], _, .nil _, ⟨rfl, trivial⟩, ?_⟩))
   have hlt : rL (j9 l r ⟨q, N8, u, false⟩) := JI hl hlo (fun i h hi => by have NK := hge i h hi; rcases Nat.lt_or_ge (num q) (num l[i].k) with WB | WB; exact WB; exact absurd ((BG (hx _ (List.getElem_mem h)) hq).1 (by omega)) (LZ _ (List.getElem_mem h)))
   refine ⟨j9 l r ⟨q, N8, u, false⟩, H.aL, (by exact (pR hX (H.l 0 rfl)).imp fun _ h => cR.eM h), (H.gQ (aH.and (by exact (H.bK 3 rfl : aH _ (gH l) _)) (by exact (H.bK 0 rfl : aH _ (bI N8 u) _)))).imp fun _ h c hc => ?_, ⟨fun c hc => ?_, hlt, fun c hc => ?_⟩, by rw [wS l _ hr]; exact Nat.le_refl _, fun c hc => ?_, fun d e he hv => ?_⟩
   ·
    rcases iI.1 hc with rfl | h_; exact h.2; exact h.1 c h_
   ·
    rcases iI.1 hc with rfl | h_; exact hq; exact hx c h_
   ·
    rcases iI.1 hc with rfl | h_; exact hul; exact hsh c h_
   ·
    rcases iI.1 hc with rfl | h_; exact .inr rfl; exact .inl h_
   ·
    rw [KG (l := l) (e := ⟨q, N8, u⟩) hx hl hlt hq LZ (fun c => iI)]; exact JP (HO l _ _ (by obtain ⟨ek, es, ev⟩ := e; subst he; subst hv; rfl))
theorem S7 {X : Nat → Prop} {w : World} {n : Nat} {f : Value} {p : Nat → Bool} (hX : cU X w) (hf : ∀ (i : Nat) (W : World), i < n → Out Nil w W → eV prog f [.int .i64 (i : Int)] W fun v W' => v = .bool (p i) ∧ Out Nil W W') (hn : n ≤ 1000000) :
  bF prog 189 [.int .i64 (n : Int), f].toArray w fun v w' => ∃ r : Nat, v = .int .i64 (r : Int) ∧ Out Nil w w' ∧ r ≤ n ∧ (∀ i, i + 1 = r → p i = false) ∧ (r < n → p r = true) := by
 refine bF.aI (N := 26) func189 rfl rfl (by simp) ?_
 have H := St.begin hX
 refine WE.aA (WL.as rfl rfl (WL.nil (WE.aA (WL.mv rfl rfl (WL.as rfl rfl (WL.as rfl rfl (WL.nil ?_)))))))
 refine WE.seq (WE.block ?_)
 refine WE.loop (α := Nat × Nat) (rg [(5, 3), (9, 16)]) (fun q => [(5, .int .i64 (q.1 : Int)), (6, .int .i64 (q.2 : Int))]) (fun q wl => (q.1 ≤ q.2 ∧ q.2 ≤ n ∧ (∀ i, i + 1 = q.1 → p i = false) ∧ (q.2 < n → p q.2 = true)) ∧ St X w wl [] [] []) (fun q => q.2 - q.1) (0, n) ⟨rfl, rfl, trivial⟩ ⟨⟨Nat.zero_le _, Nat.le_refl _, (fun i h => by cases h), fun h => absurd h (Nat.lt_irrefl _)⟩, H⟩ ?_
 intro ⟨lo, iT⟩ γ0 w1 hI
 try dsimp only at hI
 obtain ⟨hq, H⟩ := hI
 have aJu : lo ≤ iT := hq.1
 have aHr : iT ≤ n := hq.2.1
 refine WE.seq (WE.aA (WL.mv rfl rfl (WL.mv rfl rfl (WL.pv (PV.lss rfl rfl rfl) rfl (WL.nil ?_)))))
 refine WE.cond rfl (fun kD => ?_) (fun kD => ?_)
 ·
  try simp only [bU] at kD
  have hlt : lo < iT := by omega
  refine WE.skip (WE.block (WE.aA (WL.mv rfl rfl (WL.mv rfl rfl (WL.pv (PV.eq (v' := .int .i64 ((lo + iT : Nat) : Int)) (PV.bY rfl rfl rfl (by omega) (by omega)) rfl) rfl ?_)))))
  refine WL.pv (PV.eq (v' := .int .u64 ((lo + iT : Nat) : Int)) (PV.conv rfl yD DY rfl) (by (rw [nR]; congr 1; omega))) rfl ?_
  refine WL.pv (PV.eq (v' := .int .u64 (((lo + iT) / 2 : Nat) : Int)) (PV.UU rfl rfl rfl (by omega)) (by (congr 1; show Int.fdiv _ 2 = _; rw [Int.fdiv_eq_ediv_of_nonneg _ (by omega)]; omega))) rfl ?_
  refine WL.pv (PV.eq (v' := .int .i64 (((lo + iT) / 2 : Nat) : Int)) (PV.mL rfl DY yD rfl (by omega) (by omega)) rfl) rfl ?_
  refine WL.as rfl rfl (WL.nil (WE.aA (WL.mv rfl rfl (WL.mv rfl rfl ?_))))
  have wX := hf ((lo + iT) / 2) _ (by omega) H.aL
  refine WL.iK rfl rfl wX ?_
  rintro _ w4 ⟨rfl, hO⟩
  replace H := H.out hO
  refine WL.pv (PV.not rfl rfl) rfl (WL.nil ?_)
  refine WE.cond rfl (fun oF => ?_) (fun oF => ?_)
  ·
   try simp only [bU] at oF
   have hpf : p ((lo + iT) / 2) = false := by exact oF
   let q2 : Nat × Nat := ((lo + iT) / 2 + 1, iT)
   have LX : q2.1 ≤ q2.2 ∧ q2.2 ≤ n ∧ (∀ i, i + 1 = q2.1 → p i = false) ∧ (q2.2 < n → p q2.2 = true) := ⟨by show (lo + iT) / 2 + 1 ≤ iT; omega, aHr, (fun i hi => by have h_ : i = (lo + iT) / 2 := Nat.succ.inj hi; rw [h_]; exact hpf), hq.2.2.2⟩
   have hd2 : q2.2 - q2.1 < iT - lo := by show iT - ((lo + iT) / 2 + 1) < iT - lo; omega
   refine WE.eH (WL.mv rfl rfl ?_)
   refine WL.pv (PV.eq (v' := .int .i64 (((lo + iT) / 2 + 1 : Nat) : Int)) (PV.bY rfl rfl rfl (by omega) (by omega)) rfl) rfl ?_
   refine WL.as rfl rfl (WL.nil ?_)
   exact ⟨q2, (by repeat (first | with_reducible exact bQ.refl _ _ | refine bQ.dG rfl ?_ | refine bQ.cC rfl ?_ | refine bQ.cB rfl ?_)), ⟨rfl, rfl, trivial⟩, rfl, ⟨LX, H⟩, hd2⟩
  ·
   try simp only [bU] at oF
   have hpt : p ((lo + iT) / 2) = true := by exact oF
   let q2 : Nat × Nat := (lo, (lo + iT) / 2)
   have LX : q2.1 ≤ q2.2 ∧ q2.2 ≤ n ∧ (∀ i, i + 1 = q2.1 → p i = false) ∧ (q2.2 < n → p q2.2 = true) := ⟨by show lo ≤ (lo + iT) / 2; omega, by show (lo + iT) / 2 ≤ n; have h_ := hq.2.1; omega, hq.2.2.1, fun _ => hpt⟩
   have hd2 : q2.2 - q2.1 < iT - lo := by show (lo + iT) / 2 - lo < iT - lo; omega
   refine WE.eH (WL.mv rfl rfl (WL.as rfl rfl (WL.nil ?_)))
   exact ⟨q2, (by repeat (first | with_reducible exact bQ.refl _ _ | refine bQ.dG rfl ?_ | refine bQ.cC rfl ?_ | refine bQ.cB rfl ?_)), ⟨rfl, rfl, trivial⟩, rfl, ⟨LX, H⟩, hd2⟩
 ·
  try simp only [bU] at kD
  have heq : lo = iT := by omega
  refine WE.exit (WE.aA (WL.mv rfl rfl (WL.as rfl rfl (WL.nil (WE.ret ⟨[_], _, .nil _, ⟨rfl, trivial⟩, ?_⟩)))))
  refine ⟨lo, rfl, H.aL, by omega, hq.2.2.1, fun h => ?_⟩
  rw [heq]; exact hq.2.2.2 (by omega)
theorem S5 {X : Nat → Prop} {w : World} {b1 b2 : Nat} {s : Value} {ks : List (List UInt8)} {i d : Nat} (hX : cU X w) (bT : aH X (fun w => cX w ⟨b1, 0, none⟩ [s]) w) (dA : aH X (fun w => cX w ⟨b2, 0, none⟩ [.int .i64 (d : Int)]) w) (fN : aH X (eQ s ks) w) (pT : K32 ks) (hi : i < ks.length) (hd : d < 256) :
  bF prog 190 [.int .i64 (i : Int), .pointer (some ⟨b1, 0, none⟩), .pointer (some ⟨b2, 0, none⟩)].toArray w fun v w' => v = .bool (decide ((bH ks[i] d : Int) = 1)) ∧ Out Nil w w' := by
 refine bF.aI (N := 12) func190 rfl rfl (by simp) ?_
 have H := (((St.begin hX).add (cE fN)).add (cE dA)).add (cE bT)
 have hki := pT _ (List.getElem_mem hi)
 refine WE.aA (WL.as rfl rfl (WL.nil ?_))
 refine WE.bG (.take 0 (.take 1 (.take 2 (.take 3 (.take 4 (.aG 5 (.take 6 (.take 7 .done)))))))) mixed (by kernel_rfl) ?_
 replace H := H.out (Out.drew _)
 refine WP.aQ rfl rfl (RV.aZ rfl aAn rfl) (H.p 0 rfl) (WP.mv rfl rfl rfl ?_)
 refine WP.aC rfl rfl (PV.eO rfl (by exact (H.p 2 rfl : eQ s ks _)) vX cM rfl rfl (by omega) (by omega)) ?_
 refine WP.dF rfl rfl rfl cV rfl (eQ.rd (by exact (H.p 2 rfl : eQ s ks _)) pT i hi) (cH cM (by simp only [aR]; omega)) ?_
 refine WP.aQ rfl rfl (RV.aZ rfl oZ rfl) (H.p 1 rfl) (WP.aG rfl ?_)
 refine WL.call EL rfl (jJ (k := ks[i]) (d := d) H.aS  hki hd) ?_
 rintro _ w1 ⟨rfl, hO⟩
 replace H := H.out hO
 refine WL.nil ⟨(fa (nw 5 4) (fa (nw 5 3) (fa (nw 5 0) c5))), ?_⟩
 refine WP.aC rfl rfl (PV.eql rfl rfl rfl) (WP.as rfl rfl rfl (WP.done (WE.ret ⟨[_], _, .nil _, ⟨rfl, trivial⟩, ?_⟩)))
 exact ⟨rfl, H.aL⟩
def aC1 (b2 b3 : Nat) : Value := .func (.func 190) ([] : List Value).toArray [.pointer (some ⟨b2, 0, none⟩), .pointer (some ⟨b3, 0, none⟩)].toArray
theorem FC {X : Nat → Prop} {w : World} {s : Value} {ks : List (List UInt8)} {d b2 b3 : Nat} (G1 : aH X (fun w => cX w ⟨b2, 0, none⟩ [s]) w) (EF : aH X (fun w => cX w ⟨b3, 0, none⟩ [.int .i64 (d : Int)]) w) (Q7 : aH X (eQ s ks) w) (pT : K32 ks) (hd : d < 256) (i : Nat) (W : World) (hi : i < ks.length) (hW : Out Nil w W) :
  eV prog (aC1 b2 b3) [.int .i64 (i : Int)] W fun v W' => v = .bool (decide ((bH (ks.getD i []) d : Int) = 1)) ∧ Out Nil W W' := by
 refine eV.iU (fs := []) (cs := [.pointer (some ⟨b2, 0, none⟩), .pointer (some ⟨b3, 0, none⟩)]) aFb ?_
 refine (S5 (X := Nil) (s := s) (ks := ks) (i := i) (d := d) (b1 := b2) (b2 := b3) (fun _ h => h.elim) (G1.out hW (fun _ _ h => h.elim) (fun _ _ h => h.elim)) (EF.out hW (fun _ _ h => h.elim) (fun _ _ h => h.elim)) (Q7.out hW (fun _ _ h => h.elim) (fun _ _ h => h.elim)) pT hi hd).mono fun v W' hv => ?_
 rw [List.getD_eq_getElem?_getD, List.getElem?_eq_getElem hi]
 exact hv
theorem XX {X : Nat → Prop} {w : World} {s : Value} {ks : List (List UInt8)} {d : Nat} (hX : cU X w) (bT : aH X (eQ s ks) w) (pT : K32 ks) (hlen : ks.length ≤ 1000000) (hd : d < 256) :
  bF prog 151 [s, .int .i64 (d : Int)].toArray w fun v w' => ∃ r : Nat, v = .int .i64 (r : Int) ∧ Out Nil w w' ∧ r ≤ ks.length ∧ (∀ i (h : i < ks.length), i + 1 = r → bH ks[i] d ≠ 1) ∧ (∀ h : r < ks.length, bH ks[r] d = 1) := by
 refine bF.aI (N := 9) func151 rfl rfl (by simp) ?_
 have H := (St.begin hX).add (cE bT)
 have hs1 : s.oneCell' = true := cR.fH (H.p 0 rfl : eQ s ks _)
 refine WE.aA ?_
 refine WL.box (l := [s]) H rfl (cells_one hs1) rfl ?_
 intro b2 w1 H
 refine WL.box (l := [.int .i64 (d : Int)]) H rfl (rfl) rfl ?_
 intro b3 w2 H
 refine WL.as rfl rfl (WL.nil (WE.aA (WL.aY rfl aAn rfl rfl (aM.aF (H.l 1 rfl) (aJ.all _) rfl) ?_)))
 refine WL.pv (PV.dO (by exact (H.p 0 rfl : eQ s ks _)) vX rfl) rfl ?_
 refine WL.pv (PV.makeFunc rfl) rfl ?_
 replace H := H.freeze (i := 0) rfl
 replace H := H.freeze (i := 0) rfl
 have G1 := (H.bK 0 rfl).imp fun _ h => h.rd
 have EF := (H.bK 1 rfl).imp fun _ h => h.rd
 have Q7 := H.bK 2 rfl
 refine WL.call aFc rfl (S7 (X := Nil) (f := aC1 b2 b3) (p := fun i => decide ((bH (ks.getD i []) d : Int) = 1)) (fun _ h => h.elim) (FC G1 EF Q7 pT hd) hlen) ?_
 rintro _ w3 ⟨r, rfl, hO, P8, hr2, hr3⟩
 replace H := H.out hO
 refine WL.as rfl rfl (WL.nil (WE.ret ⟨[_], _, .nil _, ⟨rfl, trivial⟩, ?_⟩))
 refine ⟨r, rfl, H.aL, P8, fun i hi he h1 => ?_, fun h => ?_⟩
 ·
  have h_ := hr2 i he; rw [List.getD_eq_getElem?_getD, List.getElem?_eq_getElem hi] at h_; simp [h1] at h_
 ·
  have h_ := hr3 h; rw [List.getD_eq_getElem?_getD, List.getElem?_eq_getElem h] at h_; simp at h_; omega
structure AP (d : Nat) (T : Tr) (m : List En) (l : List Ch) : Prop where
 er : T.er = grow d m
 srt : lD m
 kl : KL m
 near : oV d m l
 xl : XL l
 lt : rL l
 sh : oO l
 sz : m.length + l.length ≤ 900000
 dle : d ≤ 256
theorem AP.pm {d : Nat} {T : Tr} {m : List En} {l : List Ch} (h : AP d T m l) : Pm d m where
 le := h.dle
 kl := h.kl
 MK := h.srt.MK
 com := by obtain ⟨p, h1, _⟩ := h.near; exact fun a ha b hb => (h1 a ha).trans (h1 b hb).symm
theorem AP.pm2 {d : Nat} {T : Tr} {m : List En} {l : List Ch} (h : AP d T m l) : Pm d (lE m l) := aBZ h.dle h.srt h.kl h.xl h.lt h.near
theorem AP.one {d : Nat} {a : Nat} {q u : List UInt8} {s0 : Value} {m : List En} {l : List Ch} (h : AP d (.leaf a q u s0) m l) : ∃ e, m = [e] ∧ e.k = q ∧ e.v = u := by
 have h1 := h.er
 have h2 := nG h.pm
 rw [← h1] at h2
 match m, h, h1, h2 with
 | [e], _, h1, _ => rw [dI] at h1; injection h1 with h3 h4; exact ⟨e, rfl, h3.symm, h4.symm⟩
 | [], _, _, h2 => cases h2
 | _ :: _ :: _, _, _, h2 => simp [Tr.er, Sh.fU] at h2
theorem AP.none {d : Nat} {m : List En} {l : List Ch} (h : AP d .nil m l) : m = [] := by
 have h2 := nG h.pm
 rw [← h.er] at h2
 exact List.eq_nil_of_length_eq_zero h2.symm
theorem AP.sub {d b : Nat} {T : Tr} {m : List En} {l : List Ch} (h : AP d T m l) (hd : d < 256) (hb : b < 2) (hk : T.er.kind ≠ 1) : AP (d + 1) (T.child b) (bP m d b) (k7 l d b) where
 er := by
  cases T with
  | nil =>
   rw [h.none]
   have : (Tr.child .nil b) = .nil := by unfold Tr.child; split <;> rfl
   rw [this]; exact (eG _).symm
  | leaf a q u s => exact absurd rfl hk
  | inner a x y =>
   have h2 : 2 ≤ m.length := (nF h.pm).1 (by rw [← h.er]; rfl)
   have h3 := h.er
   rw [jH d m hd h2] at h3
   injection h3 with h4 h5
   rcases (show b = 0 ∨ b = 1 by omega) with rfl | rfl
   ·
    exact h4
   ·
    exact h5
 srt := h.srt.part
 kl := fun e he => h.kl e (hZ.1 he).1
 near := h.near.part hd h.kl h.xl
 xl := h.xl.sub fun c hc => (gL.1 hc).1
 lt := h.lt.sub (zI l d b)
 sh := fun c hc => h.sh c (gL.1 hc).1
 sz := by
  have h1 : (bP m d b).length ≤ m.length := List.length_filter_le ..
  have h2 : (k7 l d b).length ≤ l.length := List.length_filter_le ..
  have := h.sz
  omega
 dle := hd
theorem AP.live {d : Nat} {l : List Ch} (h : AP d .nil [] l) : AP d .nil [] (eB l) ∧ grow d (lE [] (eB l)) = grow d (lE [] l) := by
 refine ⟨⟨h.er, h.srt, h.kl, ?_, h.xl.sub fun c hc => (iP.1 hc).1, h.lt.sub (zM l), fun c hc => h.sh c (iP.1 hc).1, ?_, h.dle⟩, by rw [SN h.xl h.lt]⟩
 ·
  obtain ⟨p, h1, h2⟩ := h.near
  exact ⟨p, h1, fun c hc => h2 c (iP.1 hc).1⟩
 ·
  have h2 : (eB l).length ≤ l.length := List.length_filter_le ..
  have := h.sz
  omega
theorem AP.merge {d a : Nat} {q u : List UInt8} {s0 : Value} {m : List En} {l l' : List Ch} (h : AP d (.leaf a q u s0) m l) (hX : XL l' ∧ rL l' ∧ oO l') (hn : l'.length ≤ l.length + 1) (hm : ∀ c ∈ l', c ∈ l ∨ c.k = q) (hg : ∀ (d : Nat) (e : En), e.k = q → e.v = u → grow d (lE [] l') = grow d (lE [e] l)) :
  AP d .nil [] l' ∧ grow d (lE [] l') = grow d (lE m l) := by
 obtain ⟨e, rfl, hk, hv⟩ := h.one
 refine ⟨⟨(eG d).symm, List.Pairwise.nil, (fun _ h => by cases h), ?_, hX.1, hX.2.1, hX.2.2, ?_, h.dle⟩, hg d e hk hv⟩
 ·
  obtain ⟨p, h1, h2⟩ := h.near
  refine ⟨p, (fun _ h => by cases h), fun c hc => ?_⟩
  rcases hm c hc with h3 | h3
  ·
   exact h2 c h3
  ·
   rw [h3, ← hk]; exact h1 e (by simp)
 ·
  have := h.sz
  simp at this ⊢
  omega
theorem AP.join {d : Nat} {T l r : Tr} {m : List En} {cs : List Ch} (h : AP d T m cs) (hd : d < 256) (hl : l.er = grow (d + 1) (lE (bP m d 0) (k7 cs d 0))) (hr : r.er = grow (d + 1) (lE (bP m d 1) (k7 cs d 1))) : jX l.er r.er = grow d (lE m cs) ∧ l.er.fU + r.er.fU ≤ 1000000000 := by
 rw [hl, hr, ← E8 h.srt h.kl h.xl h.lt, ← E8 h.srt h.kl h.xl h.lt]
 refine ⟨oD h.pm2 hd, ?_⟩
 rw [nG (h.pm2.part hd 0), nG (h.pm2.part hd 1), mW]
 have h1 := XQ cs m
 have := h.sz
 omega
theorem LU {T : Tr} (h : T.er.kind = 1) : ∃ a q u s0, T = .leaf a q u s0 := by
 cases T with
 | nil => cases h
 | leaf a q u s => exact ⟨a, q, u, s, rfl⟩
 | inner a l r => cases h
def aAx (d : Nat) : Prop := ∀ {X : Nat → Prop} {w : World} {bh bc : Nat} {bits c0 : Int} {T : Tr} {m : List En} {l : List Ch} {s : Value}, (∀ b, X b → b < w.heap.size) → aM w bc 213 [.int .i64 c0] → aH (fun c => X c ∨ c = bc) (fF bh bc bits) w →
 aH (fun c => X c ∨ c = bc) (cQ bits T) w → aH (fun c => X c ∨ c = bc) (fW s l) w → aH (fun c => X c ∨ c = bc) (gH l) w → aH (fun c => X c ∨ c = bc) aX w → 0 ≤ bits ∧ bits ≤ 256 → AP d T m l →
 bF prog 96 [.pointer (some ⟨bh, 0, none⟩), T.ptr, s, .int .i64 (d : Int)].toArray w fun v w' => ∃ (T' : Tr) (k : Int), v = T'.ptr ∧ T'.er = grow d (lE m l) ∧ Out (· = bc) w w' ∧ aM w' bc 213 [.int .i64 k] ∧ aH (fun c => X c ∨ c = bc) (cQ bits T') w'
theorem KQ {X : Nat → Prop} {w : World} {bh bc : Nat} {bits c0 : Int} {T : Tr} {m : List En} {l : List Ch} {s : Value} {d : Nat} (hX : cU X w) (eT : aM w bc 213 ([.int .i64 c0])) (bT : aH (fun c_ => X c_ ∨ c_ = bc) (fF bh bc bits) w) (dA : aH (fun c_ => X c_ ∨ c_ = bc) (cQ bits T) w) (fN : aH (fun c_ => X c_ ∨ c_ = bc) (fW s l) w) (jO : aH (fun c_ => X c_ ∨ c_ = bc) (gH l) w) (nE : aH (fun c_ => X c_ ∨ c_ = bc) (aX) w) (bR : 0 ≤ bits ∧ bits ≤ 256) (hap : AP d T m l) (ih : d < 256 → aAx (d + 1)) :
  bF prog 96 [.pointer (some ⟨bh, 0, none⟩), T.ptr, s, .int .i64 (d : Int)].toArray w fun v w' => ∃ (T' : Tr) (k : Int), v = T'.ptr ∧ T'.er = grow d (lE m l) ∧ Out (· = bc) w w' ∧ aM w' bc 213 [.int .i64 k] ∧ aH (fun c => X c ∨ c = bc) (cQ bits T') w' := by
 refine bF.aI (N := 73) func96 rfl rfl (by simp) ?_
 have H := (((((St.c7 (b := bc) (t := 213) (l := [.int .i64 c0]) hX eT).add (bX nE)).add (bX jO)).add (bX fN)).add (bX dA)).add (bX bT)
 have hsz := hap.sz
 have QO := hap.dle
 refine WE.aA (WL.as rfl rfl (WL.nil ?_))
 refine WE.cut (α := Tr × Value × List Ch × List En) (rg [(1, 2), (8, 1), (12, 12)]) (fun p => [(1, p.1.ptr), (2, p.2.1)]) (fun p wl => (AP d p.1 p.2.2.2 p.2.2.1 ∧ p.1.er.kind ≠ 1 ∧ grow d (lE p.2.2.2 p.2.2.1) = grow d (lE m l)) ∧ St X w wl [aN.blk bc 213 [.int .i64 c0]] [] [fF bh bc bits, cQ bits p.1, fW p.2.1 p.2.2.1, gH p.2.2.1, aX]) ?_ ?_
 ·
  refine WE.block (WE.aA (WL.mv rfl rfl ?_))
  refine WL.pv (PV.dO (by exact (H.p 2 rfl : (fW s l) _)) dR rfl) rfl ?_
  refine WL.pv (PV.eql rfl rfl rfl) rfl (WL.as rfl rfl (WL.nil ?_))
  refine WE.cond rfl (fun k3 => ?_) (fun k3 => ?_)
  ·
   try simp only [bU] at k3
   have hl0 : l = [] := List.eq_nil_of_length_eq_zero (by omega)
   refine WE.aA (WL.mv rfl rfl (WL.as rfl rfl (WL.nil (WE.ret ⟨[_], _, .nil _, ⟨rfl, trivial⟩, ?_⟩))))
   subst hl0
   exact ⟨T, c0, rfl, hap.er, H.cL, H.o 0 rfl, H.fL (by exact (H.bK 1 rfl : aH _ (cQ bits T) _))⟩
  ·
   try simp only [bU] at k3
   refine WE.aA (WL.mv rfl rfl ?_)
   refine WL.call mK rfl (e9 (T := T) (bits := bits) H.aS (by exact H.bK 1 rfl) ) ?_
   rintro _ w1 ⟨rfl, hO⟩
   replace H := H.out hO
   refine WL.pv (PV.eql rfl rfl rfl) rfl (WL.as rfl rfl (WL.nil ?_))
   refine WE.cond rfl (fun iB => ?_) (fun iB => ?_)
   ·
    try simp only [bU] at iB
    have vE : T.er.kind = 1 := by exact iB
    obtain ⟨a, q, u, s0, rfl⟩ := LU vE
    refine WE.eH (WL.mv rfl rfl (WL.mv rfl rfl ?_))
    refine WL.call aFv rfl (VF (bits := bits) (s := s) (l := l) (a := a) (q := q) (u := u) (s0 := s0) H.aS (by exact (H.bK 1 rfl : aH _ (cQ bits (.leaf a q u s0)) _)) (by exact (H.bK 2 rfl : aH _ (fW s l) _)) (by exact (H.bK 3 rfl : aH _ (gH l) _)) hap.xl hap.lt hap.sh (by omega)) ?_
    rintro v23 w2 ⟨l23, hO, aHW, aHU, aHT, aHD, aHE, aHN⟩
    replace H := ((H.out hO).add aHU).add aHW
    have hmg := hap.merge aHT aHD aHE aHN
    replace H := H.add (show aH _ (cQ bits .nil) _ from fun _ _ => trivial)
    refine WL.as rfl rfl (WL.as rfl rfl (WL.nil ?_))
    exact ⟨(.nil, v23, l23, []), (by repeat (first | with_reducible exact bQ.refl _ _ | refine bQ.dG rfl ?_)), ⟨rfl, rfl, trivial⟩, rfl, ⟨⟨hmg.1, (by show (0 : Int) ≠ 1; decide), hmg.2⟩, H.sS [3, 0, 1, 2, 7]⟩⟩
   ·
    try simp only [bU] at iB
    have vE : T.er.kind ≠ 1 := by exact iB
    refine WE.skip ?_
    exact ⟨(T, s, l, m), (by repeat (first | with_reducible exact bQ.refl _ _ | refine bQ.dG rfl ?_)), ⟨rfl, rfl, trivial⟩, rfl, ⟨⟨hap, vE, rfl⟩, H⟩⟩
 ·
  intro ⟨T1, s1, l1, m1⟩ γ w3 hI
  try dsimp only at hI
  obtain ⟨⟨yW, vE, hg1⟩, H⟩ := hI
  try dsimp only at yW vE hg1
  refine WE.cut (α := Value × List Ch) (rg [(2, 1), (8, 1), (24, 22)]) (fun p => [(2, p.1)]) (fun p wl => (AP d T1 m1 p.2 ∧ d < 256 ∧ grow d (lE m1 p.2) = grow d (lE m l)) ∧ St X w wl [aN.blk bc 213 [.int .i64 c0]] [] [fF bh bc bits, cQ bits T1, fW p.1 p.2, gH p.2, aX]) ?_ ?_
  ·
   refine WE.aA (WL.mv rfl rfl (WL.pv (PV.iX rfl wG rfl rfl) rfl (WL.nil ?_)))
   refine WE.cond rfl (fun q3 => ?_) (fun q3 => ?_)
   ·
    try simp only [bU] at q3
    obtain rfl : T1 = .nil := Tr.GG (by exact q3)
    obtain rfl := yW.none
    have ZG := fW.one (s := s1) (by exact (H.p 3 rfl : (gH l1) _))
    have hlv := yW.live
    have aJo := yW.sz
    refine WE.aA (WL.mv rfl rfl ?_)
    refine WL.call RM rfl (yB (l := l1) H.aS (by exact (H.bK 2 rfl : aH _ (fW s1 l1) _)) yW.xl (by omega) ZG) ?_
    rintro v27 w4 ⟨hO, gP⟩
    replace H := H.push hO (aN.iA w.heap.size v27 127 34 _ _) (gC gP H.size) (fun b hb => (gP.lt b hb).1)
    refine WL.call aFu rfl (FK (l := l1) (f := vG 150) (H.l 0 rfl) yW.xl (by omega) ZG E6) ?_
    rintro v28 w5 ⟨hO, gP, LY⟩
    replace H := H.nY (i := 0) rfl hO (aN.iA w.heap.size v28 127 34 _ _) gP (fun b hb => .inl (LY.symm.trans hb))
    replace H := H.freeze (i := 0) rfl
    replace H := H.add (show aH _ (fW v28 (eB l1)) _ from (H.bK 0 rfl).imp fun _ h => cR.eM h)
    replace H := H.add (show aH _ (gH (eB l1)) _ from (by exact (H.bK 5 rfl : aH _ (gH l1) _).imp fun _ h => h.sub fun c hc => (iP.1 hc).1))
    refine WL.as rfl rfl (WL.nil (WE.aA (WL.mv rfl rfl ?_)))
    refine WL.pv (PV.dO (by exact (H.p 1 rfl : (fW v28 (eB l1)) _)) dR rfl) rfl ?_
    refine WL.nil (WE.block (WE.aA (WL.pv (PV.eql rfl rfl rfl) rfl (WL.as rfl rfl (WL.nil ?_)))))
    refine WE.cond rfl (fun kC => ?_) (fun kC => ?_)
    ·
     try simp only [bU] at kC
     have hl0 : eB l1 = [] := List.eq_nil_of_length_eq_zero (by omega)
     refine WE.aA (WL.as rfl rfl (WL.nil (WE.ret ⟨[_], _, .nil _, ⟨rfl, trivial⟩, ?_⟩)))
     refine ⟨.nil, c0, rfl, ?_, H.cL, H.o 0 rfl, H.fL (fun _ _ => trivial)⟩
     rw [← hg1, ← hlv.2, hl0]; exact (eG d).symm
    ·
     try simp only [bU] at kC
     refine WE.aA (WL.pv (PV.eql rfl rfl rfl) rfl (WL.as rfl rfl (WL.nil ?_)))
     refine WE.cond rfl (fun aBy => ?_) (fun aBy => ?_)
     ·
      try simp only [bU] at aBy
      have hl1 : 0 < (eB l1).length := by omega
      obtain ⟨c1, hc1⟩ := List.length_eq_one_iff.1 (show (eB l1).length = 1 by omega)
      have BU : c1 ∈ eB l1 := by rw [hc1]; simp
      have qI := hlv.1.xl _ BU
      have hge : (eB l1)[0] = c1 := by simp [hc1]
      refine WE.bG (.take 0 (.take 1 (.take 2 (.take 3 (.take 4 (.take 5 (.take 6 (.take 7 (.take 8 (.take 9 (.aG 10 (.take 11 .done)))))))))))) mixed (by kernel_rfl) ?_
      replace H := H.out (Out.drew _)
      refine WP.mv rfl rfl rfl (WP.mv rfl rfl rfl ?_)
      refine WP.aC rfl rfl (PV.eO rfl (by exact (H.p 1 rfl : (fW v28 (eB l1)) _)) dR eE rfl rfl (by omega) (by omega)) ?_
      refine WP.aC rfl rfl (PV.dL rfl pX rfl) ?_
      refine WP.dF rfl rfl rfl cV rfl ((by have h_ := fW.rd (by exact (H.p 1 rfl : (fW v28 (eB l1)) _)) hlv.1.xl 0 hl1; rw [hge] at h_; exact h_.sub (aJ.l (aJ.all _)))) (cH cM (by simp only [aR]; omega)) ?_
      refine WP.mv rfl rfl rfl ?_
      refine WP.aC rfl rfl (PV.eO rfl (by exact (H.p 1 rfl : (fW v28 (eB l1)) _)) dR eE rfl rfl (by omega) (by omega)) ?_
      refine WP.aC rfl rfl (PV.dL rfl WS rfl) ?_
      refine WP.aQ rfl rfl (RV.aZ rfl eN rfl) ((by have h_ := fW.rd (by exact (H.p 1 rfl : (fW v28 (eB l1)) _)) hlv.1.xl 0 hl1; rw [hge] at h_; exact h_.sub (aJ.r (aJ.l (aJ.all _)) (by rw [aO, qI])))) ?_
      refine WP.aC rfl rfl (PV.dD rfl wI kO (Fl.cons rfl rfl (by simp only [aR]; omega) (Laid.left (Laid.all (by simp only [aR]; omega))) (Fl.cons rfl (cR.cells ((show gH (eB l1) _ from (by exact (H.p 0 rfl : (gH (eB l1)) _))) c1 BU)) (by simp only [aR]) (Laid.right (Laid.all (by simp only [aR])) (by simp only [aR]; omega)) Fl.nil))) ?_
      refine WP.aG rfl ?_
      refine WL.call aAa rfl (x6 (k := c1.k) (lv := c1.v) (s := c1.s) (bits := bits) H.aS (H.o 0 rfl) (by exact (H.aK 0 rfl 3 rfl : aH _ (fF bh bc bits) _)) (by exact (H.aK 0 rfl 7 rfl : aH _ (aX) _)) bR (hlv.1.sh _ BU) qI (by exact ((H.aK 0 rfl 0 rfl : aH _ (gH (eB l1)) _).imp fun _ h => h _ BU).wk1)) ?_
      rintro _ w6 ⟨aII, aI8, rfl, aEa, hO, hB, hR⟩
      replace H := H.c9 0 rfl hO hB hR
      refine WL.nil ⟨(fa (nw 10 8) (fa (nw 10 4) c5)), ?_⟩
      refine WP.as rfl rfl rfl (WP.done (WE.ret ⟨[_], _, .nil _, ⟨rfl, trivial⟩, ?_⟩))
      refine ⟨aII, _, rfl, ?_, H.cL, H.o 0 rfl, H.fL (H.bK 0 rfl)⟩
      have hcd := (iP.1 BU).2
      rw [aEa, ← hg1, ← hlv.2, hc1]
      have e_ : lE [] [c1] = [c1.en] := by show xX [] c1 = _; unfold xX; rw [hcd]; rfl
      rw [e_, dI]; rfl
     ·
      try simp only [bU] at aBy
      have CN : d < 256 := by rcases Nat.lt_or_ge d 256 with h_ | h_; exact h_; (have NK : d = 256 := by omega); subst NK; have WB := oV.one hlv.1.near hlv.1.xl hlv.1.lt; omega
      refine WE.skip ?_
      exact ⟨(v28, eB l1), (by repeat (first | with_reducible exact bQ.refl _ _ | refine bQ.dG rfl ?_)), ⟨rfl, trivial⟩, rfl, ⟨⟨hlv.1, CN, hlv.2.trans hg1⟩, H.sS [3, 4, 1, 0, 7]⟩⟩
   ·
    try simp only [bU] at q3
    have CN : d < 256 := by cases aBA : T1 with | nil => subst aBA; simp [Tr.addr] at q3 | leaf a q u s => subst aBA; exact absurd rfl vE | inner a x y => subst aBA; exact yW.pm.lt ((nF yW.pm).1 (by rw [← yW.er]; rfl))
    refine WE.skip ?_
    exact ⟨(s1, l1), (by repeat (first | with_reducible exact bQ.refl _ _ | refine bQ.dG rfl ?_)), ⟨rfl, trivial⟩, rfl, ⟨⟨yW, CN, hg1⟩, H⟩⟩
  ·
   intro ⟨s2, l2⟩ γ w7 hI
   try dsimp only at hI
   obtain ⟨⟨u0, CN, hg2⟩, H⟩ := hI
   try dsimp only at u0 CN hg2
   have aJn := u0.sz
   refine WE.aA (WL.mv rfl rfl ?_)
   refine WL.call Z8 rfl (PY (s := s2) (l := l2) (f := vG 152) H.aS (by exact (H.bK 2 rfl : aH _ (fW s2 l2) _)) u0.xl (by omega) (fW.one (s := s2) (by exact (H.p 3 rfl : (gH l2) _))) E5) ?_
   rintro v47 w8 ⟨hO, hR⟩
   replace H := (H.out hO).add hR
   refine WL.mv rfl rfl ?_
   refine WL.call aFs rfl (XX (ks := l2.map Ch.k) (d := d) H.aS (H.bK 0 rfl) (FF u0.xl) (by rw [List.length_map]; omega) CN) ?_
   rintro _ w9 ⟨r, rfl, hO, hr, hlo, hhi⟩
   replace H := H.out hO
   rw [List.length_map] at hr
   have hps := DK u0.xl u0.lt u0.near CN hr (fun i h hi => by have h_ := hlo i (by rw [List.length_map]; exact h) hi; rw [List.getElem_map] at h_; exact h_) (fun h => by have h_ := hhi (by rw [List.length_map]; exact h); rw [List.getElem_map] at h_; exact h_)
   have hs0 := u0.sub CN (b := 0) (by omega) vE
   have aHp := u0.sub CN (b := 1) (by omega) vE
   refine WL.as rfl rfl (WL.nil ?_)
   refine WE.bG (.take 0 (.take 1 (.take 3 (.take 4 (.take 5 (.take 6 (.take 7 (.take 8 (.aG 2 (.aG 9 (.take 10 .done))))))))))) mixed (by kernel_rfl) ?_
   replace H := H.out (Out.drew _)
   refine WP.mv rfl rfl rfl (WP.mv rfl rfl rfl (WP.mv rfl rfl rfl (WP.mv rfl rfl rfl (WP.mv rfl rfl rfl ?_))))
   refine WP.aC rfl rfl (PV.aCS rfl (by exact (H.p 3 rfl : (fW s2 l2) _)) dR eE rfl rfl rfl (by omega) (by omega)) ?_
   refine WP.mv rfl rfl rfl ?_
   refine WP.aC rfl rfl (PV.eq (v' := .int .i64 ((d + 1 : Nat) : Int)) (PV.bY rfl rfl rfl (by omega) (by omega)) (by congr 1)) ?_
   refine WP.aG rfl ?_
   refine WL.call MG rfl (p8 (T := T1) (bits := bits) (b := 0) H.aS (by exact (H.bK 2 rfl : aH _ (cQ bits T1) _))) ?_
   rintro _ vR ⟨rfl, hO⟩
   replace H := H.out hO
   refine WL.nil ⟨c5, ?_⟩
   refine WP.aG rfl ?_
   refine WL.call aBF rfl (ih CN (T := T1.child 0) (m := bP m1 d 0) (l := k7 l2 d 0) (bits := bits) H.aS (H.o 0 rfl) (by exact (H.aK 0 rfl 1 rfl : aH _ (fF bh bc bits) _)) (by exact (H.aK 0 rfl 2 rfl : aH _ (cQ bits T1) _).imp fun _ h => h.left) (by exact (H.aK 0 rfl 3 rfl : aH _ (fW s2 l2) _).imp fun _ h => (by have h_ := h.K8 u0.xl (lo := 0) (hi := r) (Nat.zero_le _) hr; rw [List.drop_zero, Nat.sub_zero, hps.1] at h_; exact h_)) (by exact (H.aK 0 rfl 4 rfl : aH _ (gH l2) _).imp fun _ h => h.sub fun c hc => (gL.1 hc).1) (by exact (H.aK 0 rfl 5 rfl : aH _ (aX) _)) bR hs0) ?_
   rintro _ y8 ⟨aGt, aI5, rfl, aD8, hO, hB, hR⟩
   replace H := H.c9 0 rfl hO hB hR
   refine WL.nil ⟨c5, ?_⟩
   refine WP.as rfl rfl rfl (WP.done ?_)
   refine WE.bG (.take 0 (.take 1 (.take 3 (.take 4 (.take 5 (.take 6 (.take 7 (.aG 2 (.aG 8 (.take 9 .done)))))))))) mixed (by kernel_rfl) ?_
   replace H := H.out (Out.drew _)
   refine WP.mv rfl rfl rfl (WP.mv rfl rfl rfl (WP.mv rfl rfl rfl (WP.mv rfl rfl rfl ?_)))
   refine WP.aC rfl rfl (PV.p9 rfl (by exact (H.p 4 rfl : (fW s2 l2) _)) dR eE rfl rfl (by omega) (by omega)) ?_
   refine WP.mv rfl rfl rfl ?_
   refine WP.aC rfl rfl (PV.eq (v' := .int .i64 ((d + 1 : Nat) : Int)) (PV.bY rfl rfl rfl (by omega) (by omega)) (by congr 1)) ?_
   refine WP.aG rfl ?_
   refine WL.call MG rfl (p8 (T := T1) (bits := bits) (b := 1) H.aS (by exact (H.bK 3 rfl : aH _ (cQ bits T1) _))) ?_
   rintro _ IQ ⟨rfl, hO⟩
   replace H := H.out hO
   refine WL.nil ⟨c5, ?_⟩
   refine WP.aG rfl ?_
   refine WL.call aBF rfl (ih CN (T := T1.child 1) (m := bP m1 d 1) (l := k7 l2 d 1) (bits := bits) H.aS (H.o 0 rfl) (by exact (H.aK 0 rfl 2 rfl : aH _ (fF bh bc bits) _)) (by exact (H.aK 0 rfl 3 rfl : aH _ (cQ bits T1) _).imp fun _ h => h.right) (by exact (H.aK 0 rfl 4 rfl : aH _ (fW s2 l2) _).imp fun _ h => (by have h_ := h.sub u0.xl (lo := r) (hi := l2.length) hr (Nat.le_refl _); rw [List.take_of_length_le (by rw [List.length_drop]; exact Nat.le_refl _), hps.2] at h_; exact h_)) (by exact (H.aK 0 rfl 5 rfl : aH _ (gH l2) _).imp fun _ h => h.sub fun c hc => (gL.1 hc).1) (by exact (H.aK 0 rfl 6 rfl : aH _ (aX) _)) bR aHp) ?_
   rintro _ FP ⟨aGs, aI4, rfl, aD7, hO, hB, hR⟩
   replace H := H.c9 0 rfl hO hB hR
   refine WL.nil ⟨c5, ?_⟩
   refine WP.as rfl rfl rfl (WP.done (WE.aA (WL.mv rfl rfl (WL.mv rfl rfl (WL.mv rfl rfl ?_)))))
   have hjn := u0.join CN aD8 aD7
   refine WL.call EO rfl (x7 (l := aGt) (r := aGs) (bits := bits) H.aS (H.o 0 rfl) (by exact (H.aK 0 rfl 3 rfl : aH _ (fF bh bc bits) _)) (by exact (H.aK 0 rfl 1 rfl : aH _ (cQ bits aGt) _)) (by exact (H.aK 0 rfl 0 rfl : aH _ (cQ bits aGs) _)) (by exact (H.aK 0 rfl 7 rfl : aH _ (aX) _)) bR hjn.2) ?_
   rintro _ K2 ⟨aIG, aI3, rfl, aD6, hO, hB, hR⟩
   replace H := H.c9 0 rfl hO hB hR
   refine WL.as rfl rfl (WL.nil (WE.ret ⟨[_], _, .nil _, ⟨rfl, trivial⟩, ?_⟩))
   refine ⟨aIG, _, rfl, ?_, H.cL, H.o 0 rfl, H.fL (H.bK 0 rfl)⟩
   rw [aD6, hjn.1]; exact hg2
theorem TS : ∀ (n d : Nat), 256 - d = n → aAx d
 | 0, d, hn => fun hX h0 h1 h2 h3 h4 h5 h6 h7 => KQ hX h0 h1 h2 h3 h4 h5 h6 h7 (fun h => by omega)
 | n + 1, d, hn => fun hX h0 h1 h2 h3 h4 h5 h6 h7 => KQ hX h0 h1 h2 h3 h4 h5 h6 h7 (fun _ => TS n (d + 1) (by omega))
abbrev LtK (l : List (List UInt8)) : Prop := l.Pairwise fun a b => num a < num b
theorem EY : ∀ l : List (List UInt8), rA l = 0 → LtK l
 | [], _ => .nil
 | [a], _ => List.pairwise_singleton _ _
 | a :: b :: r, h => by
  have h0 : (if gN a b = 0 then (9 : Int) else if 0 < gN a b then 8 else rA (b :: r)) = 0 := h
  by_cases h1 : gN a b = 0
  ·
   rw [if_pos h1] at h0; cases h0
  ·
   rw [if_neg h1] at h0
   by_cases h2 : 0 < gN a b
   ·
    rw [if_pos h2] at h0; cases h0
   ·
    rw [if_neg h2] at h0
    have ih := EY (b :: r) h0
    have hab : num a < num b := lP.1 (by omega)
    refine List.pairwise_cons.2 ⟨fun z hz => ?_, ih⟩
    rcases List.mem_cons.1 hz with rfl | hz
    ·
     exact hab
    ·
     exact Nat.lt_trans hab ((List.pairwise_cons.1 ih).1 z hz)
theorem R5 {a b : List UInt8} : 0 < gN a b ↔ num b < num a := by
 unfold gN
 by_cases h : num a < num b
 ·
  simp [h]; omega
 ·
  by_cases h2 : num b < num a
  ·
   simp [h, h2]
  ·
   simp [h, h2]
theorem J7 : ∀ (l : List (List UInt8)), LtK l → rA l = 0
 | [], _ => rfl
 | [a], _ => rfl
 | a :: b :: r, h => by
  have h1 := List.pairwise_cons.1 h
  have h2 := h1.1 b (by simp)
  have e1 : ¬ gN a b = 0 := fun e => by have := tU.1 e; omega
  have e2 : ¬ 0 < gN a b := fun e => by have := R5.1 e; omega
  show (if gN a b = 0 then 9 else if 0 < gN a b then 8 else rA (b :: r)) = 0
  rw [if_neg e1, if_neg e2]
  exact J7 (b :: r) h1.2
theorem rL.aA0 {l : List Ch} (h : rA (l.map Ch.k) = 0) : rL l := (List.pairwise_map (f := Ch.k) (R := fun a b => num a < num b)).1 (EY _ h)
theorem rL.chk {l : List Ch} (h : rL l) : rA (l.map Ch.k) = 0 := J7 _ ((List.pairwise_map (f := Ch.k) (R := fun a b => num a < num b)).2 h)
theorem ND {X : Nat → Prop} {w : World} {bh bc : Nat} {bits c0 : Int} {T : Tr} {m : List En} {l : List Ch} {s : Value} (hX : cU X w) (eT : aM w bc 213 ([.int .i64 c0])) (bT : aH (fun c_ => X c_ ∨ c_ = bc) (fF bh bc bits) w) (dA : aH (fun c_ => X c_ ∨ c_ = bc) (cQ bits T) w) (fN : aH (fun c_ => X c_ ∨ c_ = bc) (fW s l) w) (jO : aH (fun c_ => X c_ ∨ c_ = bc) (gH l) w) (nE : aH (fun c_ => X c_ ∨ c_ = bc) (aX) w) (bR : 0 ≤ bits ∧ bits ≤ 256) (hT : T.er = grow 0 m) (hs : lD m) (sU : KL m) (hx : XL l) (hsh : oO l) (qI : rA (l.map Ch.k) = 0) (hsz : m.length + l.length ≤ 900000) :
  bF prog 55 [.pointer (some ⟨bh, 0, none⟩), T.ptr, s].toArray w fun v w' => ∃ (T' : Tr) (k : Int), v = .tuple [T'.ptr, .int .i64 0].toArray ∧ T'.er = grow 0 (lE m l) ∧ Out (· = bc) w w' ∧ aM w' bc 213 [.int .i64 k] ∧ aH (fun c => X c ∨ c = bc) (cQ bits T') w' := by
 refine bF.aI (N := 18) func55 rfl rfl (by simp) ?_
 have H := (((((St.c7 (b := bc) (t := 213) (l := [.int .i64 c0]) hX eT).add (bX nE)).add (bX jO)).add (bX fN)).add (bX dA)).add (bX bT)
 have hlt := rL.aA0 qI
 refine WE.aA (WL.as rfl rfl (WL.as rfl rfl (WL.nil (WE.seq (WE.aA (WL.mv rfl rfl ?_))))))
 refine WL.call aH4 rfl (XD (s := s) (l := l) H.aS (by exact (H.bK 2 rfl : aH _ (fW s l) _)) hx (by omega) (fW.one (s := s) (by exact (H.p 3 rfl : (gH l) _)))) ?_
 rintro _ w1 ⟨rfl, hO⟩
 replace H := H.out hO
 refine WL.as rfl rfl (WL.nil (WE.aA (WL.mv rfl rfl (WL.pv (PV.neq rfl rfl rfl) rfl (WL.nil ?_)))))
 refine WE.bB rfl (by simp [qI]) ?_
 refine WE.skip (WE.aA (WL.mv rfl rfl (WL.mv rfl rfl (WL.mv rfl rfl ?_))))
 refine WL.call aBF rfl (TS 256 0 rfl (T := T) (m := m) (l := l) (s := s) (bits := bits) H.aS (H.o 0 rfl) (by exact (H.aK 0 rfl 0 rfl : aH _ (fF bh bc bits) _)) (by exact (H.aK 0 rfl 1 rfl : aH _ (cQ bits T) _)) (by exact (H.aK 0 rfl 2 rfl : aH _ (fW s l) _)) (by exact (H.aK 0 rfl 3 rfl : aH _ (gH l) _)) (by exact (H.aK 0 rfl 4 rfl : aH _ (aX) _)) bR ⟨hT, hs, sU, oV.zero sU hx, hx, hlt, hsh, hsz, Nat.zero_le _⟩) ?_
 rintro _ w2 ⟨aIO, aJg, rfl, aEi, hO, hB, hR⟩
 replace H := H.c9 0 rfl hO hB hR
 refine WL.as rfl rfl (WL.as rfl rfl (WL.nil (WE.ret ⟨[_, _], _, .nil _, ⟨rfl, rfl, trivial⟩, ?_⟩)))
 exact ⟨aIO, _, rfl, aEi, H.cL, H.o 0 rfl, H.fL (H.bK 0 rfl)⟩
section
variable {r : Option Nat} {N : Nat} {σ : Env} {ds : List Deferred} {w : World} {ops : Array Oper} {rest : List Oper} {K : Env → List Deferred → World → Prop}
end
theorem SC (B : List UInt8) (i : Nat) (x : UInt8) (j : Nat) (hi : i / 8 < B.length) : bH (B.set (i / 8) x) j = if j / 8 = i / 8 then x.toNat / 2 ^ (7 - j % 8) % 2 else bH B j := by
 unfold bH
 by_cases h : j / 8 = i / 8
 ·
  rw [if_pos h, h, List.getD_eq_getElem?_getD, List.getElem?_set_self hi]; rfl
 ·
  rw [if_neg h, List.getD_eq_getElem?_getD, List.getElem?_set_ne (fun e => h e.symm), ← List.getD_eq_getElem?_getD]
theorem SS : ∀ r s : Fin 8, ∀ x : Fin 256, x.val / 2 ^ (7 - r.val) % 2 = 0 → x.val + 2 ^ (7 - r.val) < 256 ∧ (x.val + 2 ^ (7 - r.val)) / 2 ^ (7 - s.val) % 2 = if s = r then 1 else x.val / 2 ^ (7 - s.val) % 2 := by decide +kernel
theorem N9 : ∀ r s : Fin 8, ∀ x : Fin 256, x.val / 2 ^ (7 - r.val) % 2 = 1 → 2 ^ (7 - r.val) ≤ x.val ∧ (x.val - 2 ^ (7 - r.val)) / 2 ^ (7 - s.val) % 2 = if s = r then 0 else x.val / 2 ^ (7 - s.val) % 2 := by decide +kernel
theorem jV (B : List UInt8) (i : Nat) : (nI B i).length = B.length := by unfold nI; rw [List.length_set]
theorem AJ {B : List UInt8} (hB : B.length = 32) {i : Nat} (hi : i < 256) (j : Nat) : bH (nI B i) j = if j = i then 1 - bH B i else bH B j := by
 unfold nI
 rw [SC _ _ _ _ (by omega)]
 have hx := UInt8.toNat_lt (B.getD (i / 8) 0)
 by_cases hj : j / 8 = i / 8
 ·
  rw [if_pos hj]
  have hjx : bH B j = (B.getD (i / 8) 0).toNat / 2 ^ (7 - j % 8) % 2 := by unfold bH; rw [hj]
  have hix : bH B i = (B.getD (i / 8) 0).toNat / 2 ^ (7 - i % 8) % 2 := rfl
  by_cases h0 : bH B i = 0
  ·
   rw [if_pos h0]
   have h1 := SS ⟨i % 8, by omega⟩ ⟨j % 8, by omega⟩ ⟨(B.getD (i / 8) 0).toNat, hx⟩ (by rw [← h0]; rfl)
   dsimp only at h1
   rw [UInt8.toNat_ofNat', Nat.mod_eq_of_lt h1.1, h1.2]
   by_cases hji : j = i
   ·
    subst hji; rw [if_pos rfl, if_pos rfl, h0]
   ·
    rw [if_neg hji, if_neg (fun h => hji (by have h2 := congrArg Fin.val h; dsimp only at h2; omega)), hjx]
  ·
   have h01 : bH B i = 1 := by have := eD B i; omega
   rw [if_neg h0]
   have h1 := N9 ⟨i % 8, by omega⟩ ⟨j % 8, by omega⟩ ⟨(B.getD (i / 8) 0).toNat, hx⟩ (by rw [← h01]; rfl)
   dsimp only at h1
   rw [UInt8.toNat_ofNat', Nat.mod_eq_of_lt (Nat.lt_of_le_of_lt (Nat.sub_le _ _) hx), h1.2]
   by_cases hji : j = i
   ·
    subst hji; rw [if_pos rfl, if_pos rfl, h01]
   ·
    rw [if_neg hji, if_neg (fun h => hji (by have h2 := congrArg Fin.val h; dsimp only at h2; omega)), hjx]
 ·
  rw [if_neg hj, if_neg (fun h => hj (by rw [h]))]
def oP (B : List UInt8) (i : Nat) : List UInt8 := if bH B i = 1 then B else nI B i
def pI (B : List UInt8) (i : Nat) : List UInt8 := if bH B i = 1 then nI B i else B
theorem aV (B : List UInt8) (i : Nat) : (oP B i).length = B.length := by unfold oP; split; rfl; exact jV B i
theorem BJ (B : List UInt8) (i : Nat) : (pI B i).length = B.length := by unfold pI; split; exact jV B i; rfl
theorem MR {B : List UInt8} (hB : B.length = 32) {i : Nat} (hi : i < 256) (j : Nat) : bH (oP B i) j = if j = i then 1 else bH B j := by
 unfold oP
 split
 ·
  rename_i h; split
  ·
   rename_i e; rw [e, h]
  ·
   rfl
 ·
  rename_i h
  have := eD B i
  rw [AJ hB hi, show bH B i = 0 by omega]
theorem tZ {B : List UInt8} (hB : B.length = 32) {i : Nat} (hi : i < 256) (j : Nat) : bH (pI B i) j = if j = i then 0 else bH B j := by
 unfold pI
 split
 ·
  rename_i h
  rw [AJ hB hi, h]
 ·
  rename_i h
  have := eD B i
  split
  ·
   rename_i e; rw [e]; omega
  ·
   rfl
def bitsOf (B : List UInt8) (n : Nat) : List Nat := (List.range n).filter fun i => decide (bH B i = 1)
theorem uP (B : List UInt8) (n : Nat) : bitsOf B (n + 1) = if bH B n = 1 then bitsOf B n ++ [n] else bitsOf B n := by
 unfold bitsOf
 rw [List.range_succ, List.filter_append]
 split
 ·
  rename_i h; simp [h]
 ·
  rename_i h; simp [h]
theorem rC (B : List UInt8) (n : Nat) : (bitsOf B n).length ≤ n := by
 have := List.length_filter_le (fun i => decide (bH B i = 1)) (List.range n)
 rw [List.length_range] at this
 exact this
theorem u2 (B : List UInt8) (n : Nat) : (bitsOf B n).Pairwise (· < ·) := List.Pairwise.filter _ List.pairwise_lt_range
def qS : List UInt8 := List.replicate 32 0
theorem tY (i : Nat) : bH qS i = 0 := by
 unfold bH qS
 have : (List.replicate 32 (0 : UInt8)).getD (i / 8) 0 = 0 := by
  rw [List.getD_eq_getElem?_getD, List.getElem?_replicate]; split <;> rfl
 rw [this]; simp
def pop8 (x : Nat) : Nat := ((List.range 8).filter fun j => decide (x / 2 ^ (7 - j) % 2 = 1)).length
theorem I8 (x : Nat) : pop8 x ≤ 8 := by
 have := List.length_filter_le (fun j => decide (x / 2 ^ (7 - j) % 2 = 1)) (List.range 8)
 rw [List.length_range] at this
 exact this
theorem E4 (B : List UInt8) (i : Nat) : (bitsOf B (8 * (i + 1))).length = (bitsOf B (8 * i)).length + pop8 (B.getD i 0).toNat := by
 unfold bitsOf pop8
 rw [show 8 * (i + 1) = 8 * i + 8 by omega, List.range_add, List.filter_append, List.length_append, List.filter_map, List.length_map]
 congr 2
 refine List.filter_congr fun j hj => ?_
 have hj' := List.mem_range.1 hj
 show decide (bH B (8 * i + j) = 1) = _
 unfold bH
 rw [show (8 * i + j) / 8 = i by omega, show (8 * i + j) % 8 = j by omega]
end Go.Sp.Tryz
