/- Part of the proof of this claim: walks through the program's functions and the plain laws that they need, printed by a program of this session. -/
import Derived.Test.YthkombhebdjamaaGreatDoorP3
import Derived.Test.YthkombhebdjamaaGreatDoorMk
import Derived.Test.YthkombhebdjamaaGreatDoorP2
import Derived.Test.YthkombhebdjamaaGreatDoorSeq
set_option maxRecDepth 100000
set_option maxHeartbeats 1000000
set_option linter.unusedVariables false
set_option linter.unusedSimpArgs false
namespace Go.Sp.Tryz
open Go.Proofs Go.RowKit Go.Sp Go.Sp.TryzT Go.Proofs.Tryz
variable {X : Nat → Prop} {w : World}
theorem Q9 {bits : Int} {T : Tr} {m : List En} {k : List UInt8} (hT : T.er = grow 0 m) (hp : Pm 0 m) (hfit : T.er.fit 0) (hfk : (T.fin k).key.length = 32) : jC (pK T k) (T.dp k 0) (T.fin k).key ((T.fin k).vd bits) (o5 T k (T.dp k 0)) (iY bits T k (T.dp k 0)) := by
 have DQ := Tr.yM (k := k) _ 0 T rfl hfit (by omega)
 have hd : T.dp k 0 ≤ 256 := by omega
 have h2 : (T.fin k).er.kind ≠ 2 := Tr.qW _ 0 T rfl
 refine ⟨?_, hd, hfk, Tr.aT bits _, fun h0 => ?_, bR T k _, ?_, ?_, fun s hs => ?_⟩
 ·
  unfold pK
  revert h2
  cases (T.fin k).er with
  | nil => intro _; exact .inl rfl
  | leaf => intro _; exact .inr rfl
  | inner => intro h; exact absurd rfl h
 ·
  unfold pK at h0
  revert h0 h2
  cases (T.fin k) with
  | nil => intro _ _; exact ⟨rfl, rfl⟩
  | leaf => intro _ h; exact absurd h (by show ¬ (1 : Nat) = 0; decide)
  | inner => intro h; exact absurd rfl h
 ·
  rw [xM hd]; exact RL hT hp
 ·
  rw [xM hd]; unfold iY; rw [List.length_map]
 ·
  unfold iY at hs
  obtain ⟨j, _, rfl⟩ := List.mem_map.1 hs
  exact eT _ _
def mW (kd dp : Nat) (lk lv B : List UInt8) : List UInt8 := ([1, UInt8.ofNat kd, UInt8.ofNat (dp / 2 ^ 8), UInt8.ofNat dp] ++ B) ++ (if kd = 1 then lk ++ lv else [])
def encI (kd dp : Nat) (lk lv B : List UInt8) (sb : List (List UInt8)) (i : Nat) : List UInt8 := mW kd dp lk lv B ++ (sb.take i).flatten
def fK (kd dp : Nat) (lk lv B : List UInt8) (sb : List (List UInt8)) : List UInt8 := mW kd dp lk lv B ++ sb.flatten
theorem F0 (kd dp : Nat) (lk lv B : List UInt8) (sb : List (List UInt8)) : encI kd dp lk lv B sb sb.length = fK kd dp lk lv B sb := by unfold encI fK; rw [List.take_length]
theorem BE {kd dp : Nat} {lk lv B : List UInt8} {sb : List (List UInt8)} {i : Nat} (h : i < sb.length) : encI kd dp lk lv B sb (i + 1) = encI kd dp lk lv B sb i ++ sb[i] := by unfold encI; rw [gU sb i h, List.append_assoc]
theorem NU {kd dp : Nat} {lk lv B : List UInt8} (hk : lk.length = 32) (hv : lv.length = 32) (hB : B.length = 32) : (mW kd dp lk lv B).length = if kd = 1 then 100 else 36 := by
 unfold mW
 split <;> simp [hk, hv, hB]
theorem yK {kd dp : Nat} {lk lv B : List UInt8} {sb : List (List UInt8)} (hp : jC kd dp lk lv B sb) : ∀ i, i ≤ sb.length → (encI kd dp lk lv B sb i).length = (if kd = 1 then 100 else 36) + 32 * i
 | 0, _ => by unfold encI; rw [List.length_append, NU hp.uJ hp.lvl hp.bl]; simp
 | i + 1, h => by rw [BE (by omega), List.length_append, yK hp i (by omega), hp.sl _ (List.getElem_mem _)]; omega
theorem FZ {kd dp : Nat} {lk lv B : List UInt8} {sb : List (List UInt8)} (hp : jC kd dp lk lv B sb) : (fK kd dp lk lv B sb).length = (if kd = 1 then 100 else 36) + 32 * sb.length := by rw [← F0, yK hp _ (Nat.le_refl _)]
theorem aDf {X : Nat → Prop} {w : World} {kd dp : Nat} {lk lv B : List UInt8} {sl : Value} {sb : List (List UInt8)} (hX : cY X w) (bU : aJ X (fB sl sb) w) (hp : jC kd dp lk lv B sb) :
  bC prog 36 [.agg (fT kd dp lk lv B sl).toArray].toArray w fun v w' => v = .int .i64 ((((if kd = 1 then 100 else 36) + 32 * sb.length) : Nat) : Int) ∧ Out Nil w w' := by
 refine bC.aH (N := 24) func36 rfl rfl (by simp) ?_
 have H := (St.begin hX).add (cE bU)
 have wF := hp.kd
 have DQ := hp.N8
 have mN := hp.uJ
 have hlv := hp.lvl
 have pU := hp.bl
 have pP := hp.PL
 have vS : (fT kd dp lk lv B sl).length = 99 := gQ hp.uJ hp.lvl hp.bl
 have hs1 : sl.oneCell' = true := cN.fX (H.p 0 rfl : fB sl sb _)
 refine WE.aA ?_
 refine WL.box (l := fT kd dp lk lv B sl) H rfl rfl rfl ?_
 intro b1 w1 H
 refine WL.as rfl rfl (WL.nil (WE.seq (WE.aA ?_)))
 refine WL.bE rfl nJ rfl rfl (aN.aF (H.l 0 rfl) (aK.all _) rfl) (cK k8 (by simp only [aS, aX, aB, Tr.aT, bR, bL, aD]; omega)) ?_
 refine WL.call ZA rfl (tK (kd := kd) (dp := dp) (lk := lk) (lv := lv) (B := B) (sl := sl) (sb := sb) H.aR (by exact (H.bK 0 rfl : aJ _ (fB sl sb) _)) hp) ?_
 rintro _ w2 ⟨rfl, hO⟩
 replace H := H.out hO
 refine WL.pv (PV.neq rfl rfl rfl) rfl (WL.nil ?_)
 refine WE.bD rfl rfl ?_
 refine WE.skip (WE.aA (WL.as rfl rfl (WL.nil (WE.seq (WE.aA (WL.pv (PV.fieldAddr rfl nI rfl) rfl (WL.aY rfl pR rfl rfl (aN.aF (H.l 0 rfl) (aK.l (aK.all _)) rfl) ?_)))))))
 refine WL.nil (WE.block (WE.seq (WE.block (WE.seq (WE.block (WE.seq (WE.seq ?_)))))))
 refine WE.aA (WL.pv (PV.eql rfl rfl rfl) rfl (WL.as rfl rfl (WL.nil ?_)))
 refine WE.cond rfl (fun uN => ?_) (fun uN => ?_)
 ·
  try simp only [bW] at uN
  have wG : kd = 1 := by omega
  refine WE.exit (WE.dY (WL.mv rfl rfl (WL.pv (PV.bT rfl rfl rfl (by omega) (by omega)) rfl (WL.as rfl rfl (WL.nil (WE.aA (WL.mv rfl rfl ?_)))))))
  refine WL.pv (PV.fieldAddr rfl nH rfl) rfl ?_
  refine WL.aY rfl u5 rfl rfl (aN.aF (H.l 0 rfl) (aK.r (aK.r (aK.r (aK.r (aK.all _) rfl) rfl) rfl) rfl) (by simp [aI, aQ, *])) ?_
  refine WL.pv (PV.dR (by exact (H.p 0 rfl : (fB sl sb) _)) oU rfl) rfl ?_
  refine WL.pv (PV.bT rfl rfl rfl (by omega) (by omega)) rfl (WL.pv (PV.mA rfl rfl rfl (by omega) (by omega)) rfl (WL.pv (PV.bT rfl rfl rfl (by omega) (by omega)) rfl (WL.pv (PV.bT rfl rfl rfl (by omega) (by omega)) rfl (WL.as rfl rfl (WL.nil (WE.exit (WE.aA ?_)))))))
  refine WL.mv rfl rfl (WL.as rfl rfl (WL.nil (WE.ret ⟨[_], _, .nil _, ⟨rfl, trivial⟩, ?_⟩)))
  refine ⟨?_, H.aL⟩
  show Value.int .i64 _ = Value.int .i64 _
  congr 1
  (rw [if_pos wG]; omega)
 ·
  try simp only [bW] at uN
  have PI : kd = 0 := by omega
  refine WE.skip (WE.aA (WL.pv (PV.eql rfl rfl rfl) rfl (WL.as rfl rfl (WL.nil ?_))))
  refine WE.cS rfl (by simp [PI]) ?_
  refine WE.exit (WE.aA (WL.mv rfl rfl (WL.pv (PV.fieldAddr rfl nH rfl) rfl ?_)))
  refine WL.aY rfl u5 rfl rfl (aN.aF (H.l 0 rfl) (aK.r (aK.r (aK.r (aK.r (aK.all _) rfl) rfl) rfl) rfl) (by simp [aI, aQ, *])) ?_
  refine WL.pv (PV.dR (by exact (H.p 0 rfl : (fB sl sb) _)) oU rfl) rfl ?_
  refine WL.pv (PV.bT rfl rfl rfl (by omega) (by omega)) rfl (WL.pv (PV.mA rfl rfl rfl (by omega) (by omega)) rfl (WL.pv (PV.bT rfl rfl rfl (by omega) (by omega)) rfl (WL.pv (PV.bT rfl rfl rfl (by omega) (by omega)) rfl (WL.as rfl rfl (WL.nil (WE.exit (WE.aA ?_)))))))
  refine WL.mv rfl rfl (WL.as rfl rfl (WL.nil (WE.ret ⟨[_], _, .nil _, ⟨rfl, trivial⟩, ?_⟩)))
  refine ⟨?_, H.aL⟩
  show Value.int .i64 _ = Value.int .i64 _
  congr 1
  (rw [if_neg (by omega)]; omega)
theorem PB {X : Nat → Prop} {w : World} {s : Value} {vs : List Value} {ls : List (List UInt8)} (hX : cY X w) (bU : aJ X (kK s vs) w) (dI : aJ X (qH vs ls) w) (hvs : vs.length ≤ 1000000) (aEP : ls.flatten.length ≤ 70368744177664) :
  bC prog 37 [s].toArray w fun v w' => Out Nil w w' ∧ w'.ownsRow w.heap.size 5 1 v ls.flatten.length (kc ls.flatten) := by
 refine bC.aH (N := 36) func37 rfl rfl (by simp) ?_
 have H := ((St.begin hX).add (cE dI)).add (cE bU)
 have hlen : vs.length = ls.length := (H.p 1 rfl : qH vs ls w).1
 refine WE.aA (WL.as rfl rfl (WL.nil (WE.aA (WL.as rfl rfl (WL.nil (WE.seq (WE.aA ?_)))))))
 refine WL.mv rfl rfl (WL.pv (PV.dR (H.p 0 rfl) sG rfl) rfl (WL.mv rfl rfl (WL.nil (WE.block ?_))))
 refine WE.loop (α := Nat) (rg [(3, 1), (5, 1), (11, 12)]) (fun k => [(11, .int .i64 k), (3, .int .i64 ((ls.take k).flatten.length : Int))]) (fun k wl => k ≤ vs.length ∧ St X w wl [] [] [kK s vs, qH vs ls]) (fun k => vs.length - k) 0 ⟨rfl, rfl, trivial⟩ ⟨Nat.zero_le _, H⟩ ?_
 intro k γ0 w1 hI
 try dsimp only at hI
 obtain ⟨hk, H⟩ := hI
 refine WE.aA (WL.pv (PV.lss rfl rfl rfl) rfl (WL.nil (WE.seq ?_)))
 refine WE.cond rfl (fun lJ => ?_) (fun lJ => ?_)
 ·
  try simp only [bW] at lJ
  have hlt : k < vs.length := by omega
  have hF := gU ls k (by omega)
  have hG := gP ls (k + 1)
  rw [hF, List.length_append] at hG
  refine WE.skip (WE.seq (WE.block (WE.aA (WL.pv (PV.eA rfl (H.p 0 rfl) sG B0 rfl rfl (by omega) (by omega)) rfl (WL.aY rfl eU rfl rfl (kK.rd (H.p 0 rfl) k hlt) (WL.as rfl rfl (WL.nil ?_)))))))
  refine WE.aA (WL.mv rfl rfl (WL.mv rfl rfl (WL.pv (PV.dR ((H.p 1 rfl : qH vs ls _).2 k hlt (by omega)) eM rfl) rfl (WL.pv (PV.bT rfl rfl rfl (by omega) (by omega)) rfl (WL.as rfl rfl (WL.nil (WE.aA ?_)))))))
  refine WL.mv rfl rfl (WL.pv (PV.lss rfl rfl rfl) rfl (WL.nil ?_))
  refine WE.bD rfl (by simp; omega) ?_
  refine WE.skip (WE.dY (WL.pv (PV.bT rfl rfl rfl (by omega) (by omega)) rfl (WL.mv rfl rfl (WL.nil ?_))))
  exact ⟨k + 1, (by repeat (first | with_reducible exact bM.refl _ _ | refine bM.dD rfl ?_ | refine bM.bY rfl ?_ | refine bM.bV rfl ?_)), ⟨rfl, by rw [hF, List.length_append]; rfl, trivial⟩, rfl, ⟨by omega, H⟩, (by omega)⟩
 ·
  try simp only [bW] at lJ
  have hge : k = vs.length := by omega
  refine WE.exit (WE.aA (WL.mv rfl rfl ?_))
  refine WL.call aFT rfl (VT (n := (ls.take k).flatten.length) H.aR (by have := gP ls k; omega)) ?_
  rintro v24 w2 ⟨hO, iB⟩
  replace H := H.push hO (aP.hU w.heap.size v24 5 1 0 []) (gR iB H.size) (fun b hb => (iB.lt b hb).1)
  refine WL.as rfl rfl (WL.nil (WE.seq (WE.aA (WL.mv rfl rfl (WL.pv (PV.dR (H.p 0 rfl) sG rfl) rfl (WL.mv rfl rfl (WL.nil ?_)))))))
  refine WE.block ?_
  refine WE.loop (α := Nat × Value) (rg [(6, 1), (8, 1), (27, 8)]) (fun p => [(27, .int .i64 p.1), (6, p.2)]) (fun p wl => p.1 ≤ vs.length ∧ St X w wl [] [aP.hU w.heap.size p.2 5 1 (ls.take p.1).flatten.length (kc (ls.take p.1).flatten)] [kK s vs, qH vs ls]) (fun p => vs.length - p.1) (0, v24) ⟨rfl, rfl, trivial⟩ ⟨Nat.zero_le _, H⟩ ?_
  intro ⟨k, v⟩ γ1 w3 hI
  try dsimp only at hI
  obtain ⟨hk, H⟩ := hI
  refine WE.aA (WL.pv (PV.lss rfl rfl rfl) rfl (WL.nil (WE.seq ?_)))
  refine WE.cond rfl (fun JA => ?_) (fun JA => ?_)
  ·
   try simp only [bW] at JA
   have hlt : k < vs.length := by omega
   have hF := gU ls k (by omega)
   have hG := gP ls (k + 1)
   rw [hF, List.length_append] at hG
   refine WE.skip (WE.seq (WE.block (WE.aA (WL.pv (PV.eA rfl (H.p 0 rfl) sG B0 rfl rfl (by omega) (by omega)) rfl (WL.aY rfl eU rfl rfl (kK.rd (H.p 0 rfl) k hlt) (WL.as rfl rfl (WL.nil ?_)))))))
   refine WE.dY (WL.mv rfl rfl (WL.mv rfl rfl ?_))
   refine WL.append (m := (ls[k]'(by omega)).length) H 0 iD (by decide) rfl rfl rfl ((H.p 1 rfl : qH vs ls _).2 k hlt (by omega)) (bG _) (by omega) (by decide) rfl ?_
   intro v33 w4 H
   refine WL.as rfl rfl (WL.nil (WE.dY (WL.pv (PV.bT rfl rfl rfl (by omega) (by omega)) rfl (WL.mv rfl rfl (WL.nil ?_)))))
   replace H : St X w w4 [] [aP.hU w.heap.size v33 5 1 (ls.take (k+1)).flatten.length (kc (ls.take (k+1)).flatten)] [kK s vs, qH vs ls] := by rw [hF, List.length_append, iO]; exact H
   exact ⟨(k + 1, v33), (by repeat (first | with_reducible exact bM.refl _ _ | refine bM.dD rfl ?_ | refine bM.bY rfl ?_ | refine bM.bV rfl ?_)), ⟨rfl, rfl, trivial⟩, rfl, ⟨by dsimp only; omega, H⟩, (by dsimp only; omega)⟩
  ·
   try simp only [bW] at JA
   have hge : k = vs.length := by omega
   refine WE.exit (WE.aA (WL.mv rfl rfl (WL.as rfl rfl (WL.nil (WE.ret ⟨[_], _, .nil _, ⟨rfl, trivial⟩, ?_⟩)))))
   have hall : ls.take k = ls := List.take_of_length_le (by omega)
   rw [hall] at H
   exact ⟨H.aL, H.l 0 rfl⟩
theorem VX {X : Nat → Prop} {w : World} {kd dp : Nat} {lk lv B : List UInt8} {sl : Value} {sb : List (List UInt8)} (hX : cY X w) (bU : aJ X (fB sl sb) w) (hp : jC kd dp lk lv B sb) :
  bC prog 12 [.agg (fT kd dp lk lv B sl).toArray].toArray w fun v w' => ∃ s, v = .tuple [s, .int .i64 0].toArray ∧ Out Nil w w' ∧ aJ X (bJ s (fK kd dp lk lv B sb)) w' := by
 refine bC.aH (N := 57) func12 rfl rfl (by simp) ?_
 have H := (St.begin hX).add (cE bU)
 have wF := hp.kd
 have DQ := hp.N8
 have mN := hp.uJ
 have hlv := hp.lvl
 have pU := hp.bl
 have pP := hp.PL
 have vS : (fT kd dp lk lv B sl).length = 99 := gQ hp.uJ hp.lvl hp.bl
 have hs1 : sl.oneCell' = true := cN.fX (H.p 0 rfl : fB sl sb _)
 refine WE.aA ?_
 refine WL.box (l := fT kd dp lk lv B sl) H rfl rfl rfl ?_
 intro b1 w1 H
 refine WL.as rfl rfl (WL.as rfl rfl (WL.nil (WE.seq (WE.aA ?_))))
 refine WL.bE rfl nJ rfl rfl (aN.aF (H.l 0 rfl) (aK.all _) rfl) (cK k8 (by simp only [aS, aX, aB, Tr.aT, bR, bL, aD]; omega)) ?_
 refine WL.call ZA rfl (tK (kd := kd) (dp := dp) (lk := lk) (lv := lv) (B := B) (sl := sl) (sb := sb) H.aR (by exact (H.bK 0 rfl : aJ _ (fB sl sb) _)) hp) ?_
 rintro _ w2 ⟨rfl, hO⟩
 replace H := H.out hO
 refine WL.as rfl rfl (WL.nil (WE.aA (WL.mv rfl rfl (WL.pv (PV.neq rfl rfl rfl) rfl (WL.nil ?_)))))
 refine WE.bD rfl rfl ?_
 refine WE.skip (WE.aA ?_)
 refine WL.bE rfl nJ rfl rfl (aN.aF (H.l 0 rfl) (aK.all _) rfl) (cK k8 (by simp only [aS, aX, aB, Tr.aT, bR, bL, aD]; omega)) ?_
 refine WL.call aJR rfl (aDf (kd := kd) (dp := dp) (lk := lk) (lv := lv) (B := B) (sl := sl) (sb := sb) H.aR (by exact (H.bK 0 rfl : aJ _ (fB sl sb) _)) hp) ?_
 rintro _ w3 ⟨rfl, hO⟩
 replace H := H.out hO
 have V8 : (if kd = 1 then 100 else 36) ≤ 100 := by split <;> omega
 refine WL.XT (n := ((if kd = 1 then 100 else 36) + 32 * sb.length)) H rfl iD rfl rfl (by omega) (by unfold maxLen; omega) rfl ?_
 intro b15 w5 H
 refine WL.as rfl rfl (WL.nil (WE.aA (WL.mv rfl rfl (WL.pv (PV.fieldAddr rfl nI rfl) rfl (WL.aY rfl pR rfl rfl (aN.aF (H.l 1 rfl) (aK.l (aK.all _)) rfl) (WL.pv (PV.JJ (n := kd) rfl sZ mC rfl) rfl (WL.pv (PV.fieldAddr rfl rW rfl) rfl ?_)))))))
 refine WL.aY rfl pR rfl rfl (aN.aF (H.l 1 rfl) (aK.r (aK.l (aK.all _)) rfl) rfl) (WL.pv (PV.B3 (m := dp) (n := 8) rfl rfl rfl (by decide)) rfl (WL.pv (PV.JJ (n := dp / 2 ^ 8) rfl sZ mC rfl) rfl (WL.pv (PV.fieldAddr rfl rW rfl) rfl (WL.aY rfl pR rfl rfl (aN.aF (H.l 1 rfl) (aK.r (aK.l (aK.all _)) rfl) rfl) (WL.pv (PV.JJ (n := dp) rfl sZ mC rfl) rfl ?_)))))
 refine WL.bB (l0 := [.int .u8 (0), .int .u8 (0), .int .u8 (0), .int .u8 (0)]) H rfl iD (by decide) (cT _ _) (Fl.cons rfl rfl (by simp only [aS, aX, aB, Tr.aT, bR, bL, aD]) Laid.head (Fl.cons rfl rfl (by simp only [aS, aX, aB, Tr.aT, bR, bL, aD]) (Laid.tail Laid.head rfl) (Fl.cons rfl rfl (by simp only [aS, aX, aB, Tr.aT, bR, bL, aD]) (Laid.tail (Laid.tail Laid.head rfl) rfl) (Fl.cons rfl rfl (by simp only [aS, aX, aB, Tr.aT, bR, bL, aD]) (Laid.tail (Laid.tail (Laid.tail Laid.head rfl) rfl) rfl) Fl.nil)))) rfl ?_
 intro b27 w6 H
 refine WL.append (m := 4) H 1 iD (by decide) rfl rfl rfl (cN.bZ (n := 4) (H.l 0 rfl) rfl : bJ _ ([1, UInt8.ofNat kd, UInt8.ofNat (dp / 2 ^ 8), UInt8.ofNat dp] : List UInt8) _) (bG _) (by omega) (by decide) rfl ?_
 intro v28 w7 H
 replace H := H.forget 0
 replace H := H.conv (L' := [aP.hU w.heap.size v28 5 1 (([1, UInt8.ofNat kd, UInt8.ofNat (dp / 2 ^ 8), UInt8.ofNat dp] : List UInt8)).length (kc (([1, UInt8.ofNat kd, UInt8.ofNat (dp / 2 ^ 8), UInt8.ofNat dp] : List UInt8))), aP.blk b1 35 (fT kd dp lk lv B sl)]) rfl
 refine WL.as rfl rfl (WL.nil (WE.aA (WL.mv rfl rfl (WL.pv (PV.fieldAddr rfl qE rfl) rfl ?_))))
 refine WL.pv (PV.iE rfl ZQ (by rw [gO]; rfl) rfl) rfl ?_
 refine WL.append (m := B.length) H 0 iD (by decide) rfl rfl rfl (bJ.nY (a := ⟨b1, 66, none⟩) (aN.aF (H.l 1 rfl) (aK.r (aK.r (aK.r (aK.l (aK.all (kc B))) rfl) rfl) rfl) (by simp [aI, mN, hlv])) pU (Nat.le_refl _)) (bG _) (by simp [pU]) (by decide) rfl ?_
 intro v32 w8 H
 replace H := H.conv (L' := [aP.hU w.heap.size v32 5 1 (([1, UInt8.ofNat kd, UInt8.ofNat (dp / 2 ^ 8), UInt8.ofNat dp] : List UInt8) ++ B).length (kc (([1, UInt8.ofNat kd, UInt8.ofNat (dp / 2 ^ 8), UInt8.ofNat dp] : List UInt8) ++ B)), aP.blk b1 35 (fT kd dp lk lv B sl)]) (by rw [List.length_append, iO]; rfl)
 refine WL.as rfl rfl (WL.nil ?_)
 refine WE.cut (α := Value) (rg [(5, 1), (33, 12)]) (fun g_ => [(5, g_)]) (fun g_ wl => St X w wl [] [aP.hU w.heap.size g_ 5 1 (mW kd dp lk lv B).length (kc (mW kd dp lk lv B))] [fun w => aN w b1 35 (fT kd dp lk lv B sl), fB sl sb]) ?_ ?_
 ·
  refine WE.aA (WL.pv (PV.fieldAddr rfl nI rfl) rfl (WL.aY rfl pR rfl rfl (aN.aF (H.l 1 rfl) (aK.l (aK.all _)) rfl) (WL.pv (PV.eql rfl rfl rfl) rfl (WL.nil ?_))))
  refine WE.cond rfl (fun aCC => ?_) (fun aCC => ?_)
  ·
   try simp only [bW] at aCC
   have wG : kd = 1 := by omega
   refine WE.draw (.take 0 (.take 1 (.take 2 (.take 3 (.take 4 (.take 5 (.take 6 (.aG 7 (.aG 8 (.take 9 .done)))))))))) mixed (by kernel_rfl) ?_
   replace H := H.out (Out.drew _)
   refine WP.mv rfl rfl rfl (WP.aC rfl rfl (PV.fieldAddr rfl pD rfl) (WP.aC rfl rfl (PV.fieldAddr rfl kH rfl) ?_))
   refine WP.aC rfl rfl (PV.iE rfl gZ (by rw [gO]; rfl) rfl) ?_
   refine WP.aC rfl rfl (PV.fieldAddr rfl pD rfl) (WP.aC rfl rfl (PV.fieldAddr rfl C7 rfl) ?_)
   refine WP.aC rfl rfl (PV.iE rfl oL (by rw [gO]; rfl) rfl) ?_
   refine WP.aG rfl ?_
   refine WL.bB (l0 := [.slice none 0 0, .slice none 0 0, .slice none 0 0]) H rfl KQ (by decide) (cT _ _) (Fl.cons rfl (cells_one (jE (H.l 0 rfl))) (by simp only [aS, aX, aB, Tr.aT, bR, bL, aD]) Laid.head (Fl.cons rfl rfl (by simp only [aS, aX, aB, Tr.aT, bR, bL, aD]) (Laid.tail Laid.head rfl) (Fl.cons rfl rfl (by simp only [aS, aX, aB, Tr.aT, bR, bL, aD]) (Laid.tail (Laid.tail Laid.head rfl) rfl) Fl.nil))) rfl ?_
   intro b43 w9 H
   replace H := H.freeze (i := 0) rfl
   replace H := H.freeze (i := 0) rfl
   replace H := H.freeze (i := 0) rfl
   replace H := H.add (show aJ _ (kK (.slice (some ⟨b43, 0, none⟩) 3 3) [v32, .slice (some ⟨b1, 2, none⟩) 32 32, .slice (some ⟨b1, 34, none⟩) 32 32]) _ from (H.bK 2 rfl).imp fun _ h => kK.bZ h rfl)
   replace H := H.add (show aJ _ (qH [v32, .slice (some ⟨b1, 2, none⟩) 32 32, .slice (some ⟨b1, 34, none⟩) 32 32] [([1, UInt8.ofNat kd, UInt8.ofNat (dp / 2 ^ 8), UInt8.ofNat dp] : List UInt8) ++ B, lk, lv]) _ from ((H.bK 2 rfl).and (H.bK 1 rfl)).imp fun w h => qH.cons (bJ.dJ h.1) (qH.cons (bJ.nY (a := ⟨b1, 2, none⟩) (aN.aF h.2 (aK.r (aK.r (aK.l (aK.l (aK.all (kc lk)))) rfl) rfl) (by simp [aI, mN, hlv])) mN (Nat.le_refl _)) (qH.cons (bJ.nY (a := ⟨b1, 34, none⟩) (aN.aF h.2 (aK.r (aK.r (aK.l (aK.r (aK.all (kc lv)) rfl)) rfl) rfl) (by simp [aI, mN, hlv])) hlv (Nat.le_refl _)) (qH.nil w))))
   refine WL.nil ⟨c5, ?_⟩
   refine WP.aG rfl ?_
   refine WL.call aF4 rfl (PB (vs := [v32, .slice (some ⟨b1, 2, none⟩) 32 32, .slice (some ⟨b1, 34, none⟩) 32 32]) (ls := [([1, UInt8.ofNat kd, UInt8.ofNat (dp / 2 ^ 8), UInt8.ofNat dp] : List UInt8) ++ B, lk, lv]) H.aR (by exact (H.bK 1 rfl : aJ _ (kK _ _) _)) (by exact (H.bK 0 rfl : aJ _ (qH _ _) _)) (by simp) (by simp [mN, hlv, pU])) ?_
   rintro v44 tM ⟨hO, iB⟩
   replace H := H.push hO (aP.hU w.heap.size v44 5 1 _ _) (gR iB H.size) (fun b hb => (iB.lt b hb).1)
   have hhd : [([1, UInt8.ofNat kd, UInt8.ofNat (dp / 2 ^ 8), UInt8.ofNat dp] : List UInt8) ++ B, lk, lv].flatten = mW kd dp lk lv B := by unfold mW; rw [if_pos wG]; simp
   rw [hhd] at H
   refine WL.nil ⟨c5, ?_⟩
   refine WP.as rfl rfl rfl (WP.done ?_)
   exact ⟨v44, (by repeat (first | with_reducible exact bM.refl _ _ | refine bM.dD rfl ?_)), ⟨rfl, trivial⟩, rfl, (show St X w _ [] [aP.hU w.heap.size v44 5 1 (mW kd dp lk lv B).length (kc (mW kd dp lk lv B))] [fun w => aN w b1 35 (fT kd dp lk lv B sl), fB sl sb] from by exact H.uB [2, 5])⟩
  ·
   try simp only [bW] at aCC
   have PI : ¬ kd = 1 := by omega
   have hhd : ([1, UInt8.ofNat kd, UInt8.ofNat (dp / 2 ^ 8), UInt8.ofNat dp] : List UInt8) ++ B = mW kd dp lk lv B := by unfold mW; rw [if_neg PI, List.append_nil]
   rw [hhd] at H
   replace H := H.freeze (i := 1) rfl
   refine WE.skip ?_
   exact ⟨v32, (by repeat (first | with_reducible exact bM.refl _ _ | refine bM.dD rfl ?_)), ⟨rfl, trivial⟩, rfl, (show St X w _ [] [aP.hU w.heap.size v32 5 1 (mW kd dp lk lv B).length (kc (mW kd dp lk lv B))] [fun w => aN w b1 35 (fT kd dp lk lv B sl), fB sl sb] from H.uB [0, 1])⟩
 ·
  intro g_ γ wT hI
  try dsimp only at hI
  replace H := hI
  refine WE.seq (WE.aA (WL.pv (PV.fieldAddr rfl nH rfl) rfl ?_))
  refine WL.aY rfl u5 rfl rfl (aN.aF (H.p 0 rfl) (aK.r (aK.r (aK.r (aK.r (aK.all _) rfl) rfl) rfl) rfl) (by simp [aI, aQ, *])) ?_
  refine WL.pv (PV.dR (by exact (H.p 1 rfl : (fB sl sb) _)) oU rfl) rfl ?_
  refine WL.mv rfl rfl (WL.nil (WE.block ?_))
  refine WE.loop (α := Nat × Value) (rg [(5, 1), (7, 1), (48, 8)]) (fun p => [(48, .int .i64 (p.1 : Int)), (5, p.2)]) (fun p wl => p.1 ≤ sb.length ∧ St X w wl [] [aP.hU w.heap.size p.2 5 1 (encI kd dp lk lv B sb (p.1)).length (kc (encI kd dp lk lv B sb (p.1)))] [fun w => aN w b1 35 (fT kd dp lk lv B sl), fB sl sb]) (fun p => sb.length - p.1) (0, g_) ⟨rfl, rfl, trivial⟩ ⟨Nat.zero_le _, H.conv (L' := [aP.hU w.heap.size g_ 5 1 (encI kd dp lk lv B sb (0)).length (kc (encI kd dp lk lv B sb (0)))]) (by show _ = _; unfold encI; rw [List.take_zero]; simp)⟩ ?_
  intro ⟨i, g⟩ γ0 G2 hI
  try dsimp only at hI
  obtain ⟨hi, H⟩ := hI
  refine WE.aA (WL.pv (PV.lss rfl rfl rfl) rfl (WL.nil (WE.seq ?_)))
  refine WE.cond rfl (fun I6 => ?_) (fun I6 => ?_)
  ·
   try simp only [bW] at I6
   have hlt : i < sb.length := by omega
   have hsi := hp.sl _ (List.getElem_mem hlt)
   have hes := BE (kd := kd) (dp := dp) (lk := lk) (lv := lv) (B := B) hlt
   have hel := yK hp i (by omega)
   have V8 : (if kd = 1 then 100 else 36) ≤ 100 := by split <;> omega
   refine WE.skip (WE.seq (WE.block (WE.aA ?_)))
   refine WL.pv (PV.eA rfl (by exact (H.p 1 rfl : (fB sl sb) _)) oU c9 rfl rfl (by omega) (by omega)) rfl ?_
   refine WL.bE rfl fO rfl rfl ((fB.rd (by exact (H.p 1 rfl : (fB sl sb) _)) hp.sl i hlt)) (cK c9 (by simp only [aS, aX, aB, Tr.aT, bR, bL, aD]; omega)) ?_
   refine WL.alloc H rfl k6 rfl ?_
   intro b7 D4 H
   refine WL.aW H 0 rfl rfl rfl (new := kc sb[i]) rfl (cK c9 (by simp only [aS, aX, aB, Tr.aT, bR, bL, aD]; omega)) (bG _) (Laid.at (Laid.all (by simp only [aS, aX, aB, Tr.aT, bR, bL, aD]; omega)) rfl) rfl ?_
   intro KG H
   refine WL.nil (WE.dY (WL.mv rfl rfl ?_))
   refine WL.pv (PV.iE rfl oL (by rw [gO]; rfl) rfl) rfl ?_
   refine WL.append (m := sb[i].length) H 1 iD (by decide) rfl rfl rfl (bJ.bZ (H.l 0 rfl) hsi) (bG _) (by omega) (by decide) rfl ?_
   intro v54 PD H
   replace H := H.forget 0
   replace H := H.conv (L' := [aP.hU w.heap.size v54 5 1 (encI kd dp lk lv B sb (i + 1)).length (kc (encI kd dp lk lv B sb (i + 1)))]) (by rw [hes, List.length_append, iO]; rfl)
   refine WL.as rfl rfl (WL.nil (WE.dY (WL.pv (PV.eq (v' := .int .i64 ((i + 1 : Nat) : Int)) (PV.bT rfl rfl rfl (by omega) (by omega)) rfl) rfl (WL.mv rfl rfl (WL.nil ?_)))))
   exact ⟨(i + 1, v54), (by repeat (first | with_reducible exact bM.refl _ _ | refine bM.dD rfl ?_ | refine bM.bY rfl ?_ | refine bM.bV rfl ?_)), ⟨rfl, rfl, trivial⟩, rfl, ⟨by dsimp only; omega, H⟩, (by dsimp only; omega)⟩
  ·
   try simp only [bW] at I6
   have tO : i = sb.length := by omega
   refine WE.exit (WE.aA (WL.mv rfl rfl (WL.as rfl rfl (WL.as rfl rfl (WL.nil (WE.ret ⟨[_, _], _, .nil _, ⟨rfl, rfl, trivial⟩, ?_⟩))))))
   subst tO
   rw [F0] at H
   replace H := H.freeze (i := 0) rfl
   exact ⟨g, rfl, H.aL, H.gF ((H.bK 0 rfl).imp fun _ h => bJ.dJ h)⟩
theorem PV.aHy {P : Program} {σ : Env} {o : Oper} {t e : TypeId} {x : Operand} {a : Addr} {n m c : Nat} (h : o.op = .sliceToArrayPointer t x) (ht : eV P t = some (n, e)) (hx : ev σ x = .slice (some a) m c) (hm : n ≤ m) : PV P σ o (.pointer (some a)) := fun w => by
 have h1 : ¬ m < n := by omega
 simp [execOp, h, hx, Instr.arrayAt, run_underlying (eR ht), h1]
theorem dA.pre {w : World} {a : Addr} {l m : List Value} (h : dA w a (l ++ m)) : dA w a l := fun j v hj => h j v (by rw [List.getElem?_append_left (List.getElem?_eq_some_iff.1 hj).1]; exact hj)
theorem dA.aBJ {w : World} {a : Addr} {l : List UInt8} (h : dA w a (kc l)) (n : Nat) : dA w a (kc (l.take n)) := by
 have e : kc l = kc (l.take n) ++ kc (l.drop n) := by rw [← iO, List.take_append_drop]
 rw [e] at h
 exact dA.pre h
theorem aIh {d : Nat} (h : d ≤ 256) : (UInt8.ofNat (d / 2 ^ 8)).toNat = d / 256 := by rw [UInt8.toNat_ofNat']; omega
theorem aIg (d : Nat) : (UInt8.ofNat d).toNat = d % 256 := by rw [UInt8.toNat_ofNat']
theorem aEz {d : Nat} (h : d ≤ 256) : IntKind.i64.wrap ((BitVec.ofInt IntKind.i64.bits ((d / 256 * 256 : Nat) : Int) ||| BitVec.ofInt IntKind.i64.bits ((d % 256 : Nat) : Int)).toNat : Int) = (d : Int) := by
 have : ∀ d : Fin 257, IntKind.i64.wrap ((BitVec.ofInt IntKind.i64.bits ((d.val / 256 * 256 : Nat) : Int) ||| BitVec.ofInt IntKind.i64.bits ((d.val % 256 : Nat) : Int)).toNat : Int) = (d.val : Int) := by decide +kernel
 exact this ⟨d, by omega⟩
theorem C1 : ∀ (l : List (List UInt8)), (∀ s ∈ l, s.length = 32) → l.flatten.length = 32 * l.length
 | [], _ => rfl
 | s :: l, h => by
  rw [List.flatten_cons, List.length_append, h s (by simp), C1 l fun x hx => h x (List.mem_cons_of_mem _ hx), List.length_cons]; omega
theorem BG {sb : List (List UInt8)} {i : Nat} (h : i < sb.length) : (sb.drop i).flatten = sb[i] ++ (sb.drop (i + 1)).flatten := by rw [List.drop_eq_getElem_cons h]; rfl
theorem xN {X : Nat → Prop} {w : World} {br : Nat} {s : Value} {l : List UInt8} (hX : cY X w) (eY : aN w br 277 ([s, .bool false])) (bU : aJ (fun c_ => X c_ ∨ c_ = br) (bJ s l) w) (hl : 32 ≤ l.length) (hle : l.length ≤ 1000000) :
  bC prog 167 [.pointer (some ⟨br, 0, none⟩)].toArray w fun v w' => ∃ s', v = .agg (kc (l.take 32)).toArray ∧ Out (· = br) w w' ∧ aN w' br 277 [s', .bool false] ∧ aJ (fun c => X c ∨ c = br) (bJ s' (l.drop 32)) w' := by
 refine bC.aH (N := 28) func167 rfl rfl (by simp) ?_
 have H := (St.dG (b := br) (t := 277) (l := [s, .bool false]) hX eY).add (cC bU)
 have aK8 : (l.take 32).length = 32 := by rw [List.length_take]; omega
 obtain ⟨sa, sc, rfl⟩ := bJ.some (bU.here) (by omega)
 refine WE.aA ?_
 refine WL.alloc H rfl aIc rfl ?_
 intro b2 w1 H
 refine WL.nil (WE.seq (WE.aA (WL.mv rfl rfl (WL.pv (PV.nilCheck rfl rfl) rfl (WL.pv (PV.fieldAddr rfl qN rfl) rfl (WL.aY rfl eU rfl rfl (aN.aF (H.o 0 rfl) aK.hd rfl) ?_))))))
 refine WL.pv (PV.dR (by exact (H.p 0 rfl : (bJ _ l) _)) eM rfl) rfl ?_
 refine WL.pv (PV.lss rfl rfl rfl) rfl (WL.nil ?_)
 refine WE.bD rfl (by simp; omega) ?_
 refine WE.skip (WE.aA (WL.mv rfl rfl (WL.pv (PV.nilCheck rfl rfl) rfl (WL.pv (PV.fieldAddr rfl qN rfl) rfl (WL.aY rfl eU rfl rfl (aN.aF (H.o 0 rfl) aK.hd rfl) (WL.pv (PV.aHy rfl ZQ rfl hl) rfl ?_))))))
 refine WL.bE rfl DE rfl rfl ((dA.aBJ (bJ.whole (H.p 0 rfl)) 32)) (cK vN (by simp only [aS, aX, aB, aD]; omega)) ?_
 refine WL.aW H 0 rfl rfl rfl (new := kc (l.take 32)) rfl (cK vN (by simp only [aS, aX, aB, aD]; omega)) (bG _) (Laid.at (Laid.all (by simp only [aS, aX, aB, aD]; omega)) rfl) rfl ?_
 intro w2 H
 refine WL.nil (WE.aA (WL.mv rfl rfl (WL.mv rfl rfl (WL.pv (PV.nilCheck rfl rfl) rfl (WL.pv (PV.fieldAddr rfl qN rfl) rfl (WL.aY rfl eU rfl rfl (aN.aF (H.o 0 rfl) aK.hd rfl) (WL.pv (PV.qZ rfl (H.p 0 rfl) eM gO rfl rfl (by omega) (by omega)) rfl ?_)))))))
 refine WL.pv (PV.nilCheck rfl rfl) rfl (WL.pv (PV.fieldAddr rfl qN rfl) rfl ?_)
 refine WL.lH H 0 rfl rfl rfl (new := [jJ (.slice (some sa) l.length sc) 1 32 l.length]) rfl (by exact B0) (bA _ rfl) (Laid.at Laid.head rfl) rfl ?_
 intro w3 H
 refine WL.nil (WE.aA ?_)
 refine WL.bE rfl DE rfl rfl (aN.aF (H.l 0 rfl) (aK.all _) rfl) (cK vN (by simp only [aS, aX, aB, aD]; omega)) ?_
 refine WL.aW H 0 rfl rfl rfl (new := kc (l.take 32)) rfl (cK vN (by simp only [aS, aX, aB, aD]; omega)) (bG _) (Laid.at (Laid.all rfl) rfl) rfl ?_
 intro w4 H
 refine WL.nil (WE.ret ⟨[_], _, .nil _, ⟨⟨_, rfl, aU DE (aN.aF (H.l 0 rfl) (aK.all _) rfl) (cK vN (by simp only [aS, aX, aB, aD]; omega))⟩, trivial⟩, ?_⟩)
 refine ⟨_, rfl, H.cR, H.o 0 rfl, (H.fV (H.bK 0 rfl)).imp fun _ h => ?_⟩
 have h_ := bJ.sub h hl (Nat.le_refl _)
 rw [List.take_of_length_le (by rw [List.length_drop]; omega)] at h_
 exact h_
theorem aAi {X : Nat → Prop} {w : World} {s : Value} {kd dp : Nat} {lk lv B : List UInt8} {sb : List (List UInt8)} (hX : cY X w) (bU : aJ X (bJ s (fK kd dp lk lv B sb)) w) (hl : 4 ≤ (fK kd dp lk lv B sb).length) (hle : (fK kd dp lk lv B sb).length ≤ 1000000) (wF : kd = 0 ∨ kd = 1) :
  bC prog 166 [s].toArray w fun v w' => v = .tuple [.int .i64 (kd : Int), .int .i64 0].toArray ∧ Out Nil w w' := by
 refine bC.aH (N := 17) func166 rfl rfl (by simp) ?_
 have H := (St.begin hX).add (cE bU)
 have hkn : (UInt8.ofNat kd).toNat = kd := by rw [UInt8.toNat_ofNat']; omega
 refine WE.aA (WL.as rfl rfl (WL.as rfl rfl (WL.nil (WE.seq (WE.block (WE.aA (WL.mv rfl rfl ?_)))))))
 refine WL.pv (PV.dR (by exact (H.p 0 rfl : (bJ s (fK kd dp lk lv B sb)) _)) eM rfl) rfl ?_
 refine WL.pv (PV.lss rfl rfl rfl) rfl (WL.as rfl rfl (WL.nil ?_))
 refine WE.bD rfl (by simp; omega) ?_
 refine WE.aA (WL.mv rfl rfl (WL.pv (PV.eA rfl (H.p 0 rfl) eM gO rfl rfl (by omega) (by omega)) rfl ?_))
 refine WL.aY rfl u3 rfl rfl ((show dA _ _ [.int .u8 1] from bJ.rd (by exact (H.p 0 rfl : (bJ s (fK kd dp lk lv B sb)) _)) 0 (by omega))) ?_
 refine WL.pv (PV.neq rfl rfl rfl) rfl (WL.as rfl rfl (WL.nil ?_))
 refine WE.bD rfl rfl ?_
 refine WE.skip (WE.aA (WL.mv rfl rfl (WL.pv (PV.eA rfl (H.p 0 rfl) eM gO rfl rfl (by omega) (by omega)) rfl ?_)))
 refine WL.aY rfl u3 rfl rfl ((show dA _ _ [.int .u8 ((UInt8.ofNat kd).toNat : Int)] from bJ.rd (by exact (H.p 0 rfl : (bJ s (fK kd dp lk lv B sb)) _)) 1 (by omega))) ?_
 refine WL.pv (PV.eq (v' := .int .i64 (kd : Int)) (PV.lM (a := ((UInt8.ofNat kd).toNat : Int)) rfl mC sZ rfl (by omega) (by omega)) (by congr 1; omega)) rfl ?_
 refine WL.as rfl rfl (WL.as rfl rfl (WL.nil (WE.ret ⟨[_, _], _, .nil _, ⟨rfl, rfl, trivial⟩, ?_⟩)))
 exact ⟨rfl, H.aL⟩
theorem VZ {X : Nat → Prop} {w : World} {s : Value} {kd dp : Nat} {lk lv B : List UInt8} {sb : List (List UInt8)} (hX : cY X w) (bU : aJ X (bJ s (fK kd dp lk lv B sb)) w) (hp : jC kd dp lk lv B sb) :
  bC prog 126 [s].toArray w fun v w' => ∃ sl, v = .tuple [.agg (fT kd dp lk lv B sl).toArray, .int .i64 0].toArray ∧ Out Nil w w' ∧ aJ X (fB sl sb) w' := by
 refine bC.aH (N := 104) func126 rfl rfl (by simp) ?_
 have H := (St.begin hX).add (cE bU)
 have wF := hp.kd
 have DQ := hp.N8
 have mN := hp.uJ
 have hlv := hp.lvl
 have pU := hp.bl
 have pP := hp.PL
 have CM : (List.replicate 32 (0 : UInt8)).length = 32 := List.length_replicate
 have hEl := FZ hp
 have FC := C1 sb hp.sl
 have hKl : (if kd = 1 then lk ++ lv else []).length = if kd = 1 then 64 else 0 := by split <;> simp [mN, hlv]
 have hEd : (fK kd dp lk lv B sb).drop 4 = (B ++ ((if kd = 1 then lk ++ lv else []) ++ sb.flatten)) := by show ((([1, UInt8.ofNat kd, UInt8.ofNat (dp / 2 ^ 8), UInt8.ofNat dp] ++ B) ++ (if kd = 1 then lk ++ lv else [])) ++ sb.flatten).drop 4 = _; rw [List.append_assoc, List.append_assoc]; rfl
 have hRl : (B ++ ((if kd = 1 then lk ++ lv else []) ++ sb.flatten)).length = 32 + ((if kd = 1 then 64 else 0) + 32 * sb.length) := by rw [List.length_append, List.length_append, pU, hKl, FC]
 have hle1 : (if kd = 1 then 100 else 36) ≤ 100 ∧ 36 ≤ (if kd = 1 then 100 else 36) := by split <;> omega
 have hle2 : (if kd = 1 then 64 else 0) ≤ 64 := by split <;> omega
 refine WE.aA ?_
 refine WL.alloc H rfl DW rfl ?_
 intro b2 w1 H
 obtain ⟨z2, hz2⟩ : ∃ z2 : List Value, z2 = [.int .i64 0] ++ ([.int .i64 0] ++ ((kc (List.replicate 32 0) ++ kc (List.replicate 32 0)) ++ (kc (List.replicate 32 0) ++ [.slice none 0 0]))) := ⟨_, rfl⟩
 have aKS : z2.length = 99 := by rw [hz2]; rfl
 rw [← hz2] at H
 refine WL.as rfl rfl (WL.nil (WE.seq (WE.aA (WL.mv rfl rfl ?_))))
 refine WL.pv (PV.dR (by exact (H.p 0 rfl : (bJ s (fK kd dp lk lv B sb)) _)) eM rfl) rfl ?_
 refine WL.pv (PV.lss rfl rfl rfl) rfl (WL.nil ?_)
 refine WE.bD rfl (by simp; omega) ?_
 refine WE.skip (WE.aA (WL.mv rfl rfl ?_))
 refine WL.call aGx rfl (aAi (kd := kd) (dp := dp) (lk := lk) (lv := lv) (B := B) (sb := sb) H.aR (by exact (H.bK 0 rfl : aJ _ (bJ s (fK kd dp lk lv B sb)) _)) (by omega) (by omega) wF) ?_
 rintro _ w2 ⟨rfl, hO⟩
 replace H := H.out hO
 refine WL.mv rfl rfl (WL.pv (PV.extract rfl rfl rfl) rfl (WL.pv (PV.extract rfl rfl rfl) rfl (WL.as rfl rfl (WL.as rfl rfl (WL.nil (WE.seq (WE.aA ?_)))))))
 refine WL.mv rfl rfl (WL.pv (PV.neq rfl rfl rfl) rfl (WL.nil ?_))
 refine WE.bD rfl rfl ?_
 refine WE.skip ?_
 refine WE.cut (α := Unit) (rg [(3, 1), (22, 7)]) (fun _ => []) (fun _ wl => St X w wl [] [aP.blk b2 35 z2] [bJ s (fK kd dp lk lv B sb)]) ?_ ?_
 ·
  refine WE.aA (WL.mv rfl rfl (WL.pv (PV.neq rfl rfl rfl) rfl (WL.mv rfl rfl ?_)))
  refine WL.split (t := 24) rfl (fun SL => ?_) (fun SL => ?_)
  ·
   refine WL.known (t := 23) (c := true) rfl SL ?_
   try simp only [bW] at SL
   refine WL.mv rfl rfl (WL.pv (PV.neq rfl rfl rfl) rfl (WL.pv (PV.dP rfl rfl rfl) rfl (WL.nil ?_)))
   refine WE.bD rfl (by simp; omega) ?_
   refine WE.skip ?_
   exact ⟨(), (by repeat (first | with_reducible exact bM.refl _ _ | refine bM.dD rfl ?_)), trivial, rfl, H⟩
  ·
   refine WL.known (t := 23) (c := false) rfl SL ?_
   try simp only [bW] at SL
   refine WL.off rfl (WL.off rfl (WL.pv (PV.dF rfl rfl rfl) rfl (WL.nil (WE.jB rfl (WE.skip ?_)))))
   exact ⟨(), (by repeat (first | with_reducible exact bM.refl _ _ | refine bM.dD rfl ?_)), trivial, rfl, H⟩
 ·
  intro _ γ w3 hI
  try dsimp only at hI
  replace H := hI
  refine WE.aA (WL.mv rfl rfl ?_)
  refine WL.pv (PV.eq (v' := jJ s 1 4 (fK kd dp lk lv B sb).length) (PV.qZ rfl (by exact (H.p 0 rfl : (bJ s (fK kd dp lk lv B sb)) _)) eM gO rfl rfl (by omega) (by omega)) rfl) rfl ?_
  replace H := H.add (show aJ _ (bJ (jJ s 1 4 (fK kd dp lk lv B sb).length) (B ++ ((if kd = 1 then lk ++ lv else []) ++ sb.flatten))) _ from ((by exact (H.bK 0 rfl : aJ _ (bJ s (fK kd dp lk lv B sb)) _)) : aJ _ (bJ s (fK kd dp lk lv B sb)) _).imp fun _ h => by have h_ := bJ.sub h (show 4 ≤ (fK kd dp lk lv B sb).length by omega) (Nat.le_refl _); rw [List.take_of_length_le (by rw [List.length_drop]; exact Nat.le_refl _), hEd] at h_; exact h_)
  have aAL : (jJ s 1 4 (fK kd dp lk lv B sb).length).oneCell' = true := cN.fX (H.p 0 rfl : bJ _ (B ++ ((if kd = 1 then lk ++ lv else []) ++ sb.flatten)) _)
  obtain ⟨s4, hs4⟩ : ∃ s4, s4 = jJ s 1 4 (fK kd dp lk lv B sb).length := ⟨_, rfl⟩
  rw [← hs4] at H aAL ⊢
  refine WL.pv (PV.dM rfl aEs aDK (Fl.cons rfl (cells_one aAL) (by simp only [aS, aX, aB, aD]) Laid.head Fl.nil)) rfl ?_
  refine WL.box (l := [s4, .bool false]) H rfl rfl rfl ?_
  intro JP w4 H
  refine WL.as rfl rfl (WL.nil (WE.aA (WL.mv rfl rfl (WL.pv (PV.makeFunc rfl) rfl (WL.as rfl rfl (WL.nil ?_))))))
  refine WE.bH (.take 0 (.take 1 (.take 2 (.take 3 (.take 4 (.take 5 (.take 6 (.take 7 (.take 8 (.take 9 (.take 10 (.take 11 (.jO 12 (.take 13 (.aG 14 (.aG 15 .done))) 14 (.aG 12 (.take 13 (.aG 15 .done)))))))))))))))) mixed (by kernel_rfl) ?_
  replace H := H.out (Out.drew _)
  refine WP.mv rfl rfl rfl (WP.mv rfl rfl rfl ?_)
  refine WP.aC rfl rfl (PV.eA rfl (by exact (H.p 1 rfl : (bJ s (fK kd dp lk lv B sb)) _)) eM gO rfl rfl (by omega) (by omega)) ?_
  refine WP.aM rfl rfl (RV.aV rfl u3 rfl) ((show dA _ _ [.int .u8 ((UInt8.ofNat (dp / 2 ^ 8)).toNat : Int)] from bJ.rd (by exact (H.p 1 rfl : (bJ s (fK kd dp lk lv B sb)) _)) 2 (by omega))) ?_
  refine WP.aC rfl rfl (PV.eq (v' := .int .i64 ((dp / 256 : Nat) : Int)) (PV.lM (a := ((UInt8.ofNat (dp / 2 ^ 8)).toNat : Int)) rfl mC sZ rfl (by omega) (by have := (UInt8.ofNat (dp / 2 ^ 8)).toNat_lt; omega)) (by rw [aIh DQ])) ?_
  refine WP.aC rfl rfl (PV.eq (v' := .int .i64 ((dp / 256 * 256 : Nat) : Int)) (PV.W8 rfl rfl rfl (by omega)) (by rw [show IntKind.i64.wrap _ = _ from wrap64_in (by simp [IntKind.bits]; omega) (by simp [IntKind.bits]; omega)] <;> ((congr 1; done)))) ?_
  refine WP.mv rfl rfl rfl ?_
  refine WP.aC rfl rfl (PV.eA rfl (by exact (H.p 1 rfl : (bJ s (fK kd dp lk lv B sb)) _)) eM gO rfl rfl (by omega) (by omega)) ?_
  refine WP.aM rfl rfl (RV.aV rfl u3 rfl) ((show dA _ _ [.int .u8 ((UInt8.ofNat dp).toNat : Int)] from bJ.rd (by exact (H.p 1 rfl : (bJ s (fK kd dp lk lv B sb)) _)) 3 (by omega))) ?_
  refine WP.aC rfl rfl (PV.eq (v' := .int .i64 ((dp % 256 : Nat) : Int)) (PV.lM (a := ((UInt8.ofNat dp).toNat : Int)) rfl mC sZ rfl (by omega) (by have := (UInt8.ofNat dp).toNat_lt; omega)) (by rw [aIg])) ?_
  refine WP.aC rfl rfl (PV.eq (v' := .int .i64 (dp : Int)) (PV.orw rfl rfl rfl) (congrArg (Value.int .i64) (aEz DQ))) ?_
  refine WP.mv rfl rfl rfl ?_
  refine WP.join (α := Nat × Value) (.aG 15 .done) [8, 47, 48] (fun g_ => [(47, .agg (kc B).toArray), (8, .pointer (some ⟨g_.1, 0, none⟩)), (48, .agg (fT kd dp (List.replicate 32 0) (List.replicate 32 0) B (.slice none 0 0)).toArray)]) (fun g_ wl => St X w wl [] [aP.blk g_.1 35 ([.int .i64 0] ++ ([.int .i64 0] ++ ((kc (List.replicate 32 0) ++ kc (List.replicate 32 0)) ++ (kc (List.replicate 32 0) ++ [.slice none 0 0])))), aP.blk JP 277 [g_.2, .bool false], aP.blk b2 35 z2] [bJ g_.2 ((if kd = 1 then lk ++ lv else []) ++ sb.flatten), bJ s (fK kd dp lk lv B sb)]) ?_ ?_
  ·
   intro jn_
   refine WP.jO rfl rfl ?_ ?_ 
   ·
    refine WL.rD FU rfl rfl (by exact xN (br := JP) (l := (B ++ ((if kd = 1 then lk ++ lv else []) ++ sb.flatten))) H.aR (H.l 0 rfl) (by exact (H.gM 0 rfl 0 rfl : aJ _ (bJ s4 (B ++ ((if kd = 1 then lk ++ lv else []) ++ sb.flatten))) _)) (by omega) (by omega)) ?_
    rintro _ w5 ⟨W9, rfl, hO, hB, hR⟩
    have LD : (B ++ ((if kd = 1 then lk ++ lv else []) ++ sb.flatten)).take 32 = B := List.take_left' pU
    have hdk : (B ++ ((if kd = 1 then lk ++ lv else []) ++ sb.flatten)).drop 32 = (if kd = 1 then lk ++ lv else []) ++ sb.flatten := List.drop_left' pU
    rw [LD]
    rw [hdk] at hR
    replace H := H.mZ 0 rfl hO hB hR
    refine WL.nil ⟨(fa (fun _ _ => ((show dA _ _ [.int .u8 ((UInt8.ofNat dp).toNat : Int)] from bJ.rd (by exact (H.p 2 rfl : (bJ s (fK kd dp lk lv B sb)) _)) 3 (by omega)))) (fa (fun _ _ => ((show dA _ _ [.int .u8 ((UInt8.ofNat (dp / 2 ^ 8)).toNat : Int)] from bJ.rd (by exact (H.p 2 rfl : (bJ s (fK kd dp lk lv B sb)) _)) 2 (by omega)))) c5)), ?_⟩
    refine WP.aC rfl rfl (PV.dM rfl aBZ DW (Fl.cons rfl rfl (by simp only [aS, aX, aB, aD]) (Laid.left (Laid.all (by simp only [aS, aX, aB, aD]))) (Fl.cons rfl rfl (by simp only [aS, aX, aB, aD]) (Laid.right (Laid.left (Laid.all (by simp only [aS, aX, aB, aD]))) (by simp only [aS, aX, aB, aD])) (Fl.cons rfl rfl (by simp only [aS, aX, aB, aD]; omega) (Laid.right (Laid.right (Laid.right (Laid.left (Laid.all (by simp only [aS, aX, aB, aD]; omega))) rfl) rfl) (by simp only [aS, aX, aB, aD])) Fl.nil)))) ?_
    refine WP.aG rfl ?_
    refine WL.alloc H rfl DW rfl ?_
    intro b8 w6 H
    refine WL.nil ⟨(fa (fun _ _ => ((show dA _ _ [.int .u8 ((UInt8.ofNat dp).toNat : Int)] from bJ.rd (by exact (H.p 2 rfl : (bJ s (fK kd dp lk lv B sb)) _)) 3 (by omega)))) (fa (fun _ _ => ((show dA _ _ [.int .u8 ((UInt8.ofNat (dp / 2 ^ 8)).toNat : Int)] from bJ.rd (by exact (H.p 2 rfl : (bJ s (fK kd dp lk lv B sb)) _)) 2 (by omega)))) c5)), ?_⟩
    exact jn_ _ _ ⟨(b8, W9), (by repeat (first | with_reducible exact bM.refl _ _ | refine bM.dD rfl ?_)), ⟨rfl, rfl, rfl, trivial⟩, (by exact H.uB [0, 2])⟩
   ·
    refine WL.alloc H rfl DW rfl ?_
    intro b8 w7 H
    refine WL.nil ⟨(fa (fun _ _ => ((show dA _ _ [.int .u8 ((UInt8.ofNat dp).toNat : Int)] from bJ.rd (by exact (H.p 1 rfl : (bJ s (fK kd dp lk lv B sb)) _)) 3 (by omega)))) (fa (fun _ _ => ((show dA _ _ [.int .u8 ((UInt8.ofNat (dp / 2 ^ 8)).toNat : Int)] from bJ.rd (by exact (H.p 1 rfl : (bJ s (fK kd dp lk lv B sb)) _)) 2 (by omega)))) c5)), ?_⟩
    refine WP.aG rfl ?_
    refine WL.rD FU rfl rfl (by exact xN (br := JP) (l := (B ++ ((if kd = 1 then lk ++ lv else []) ++ sb.flatten))) H.aR (H.l 1 rfl) (by exact (H.gM 1 rfl 0 rfl : aJ _ (bJ s4 (B ++ ((if kd = 1 then lk ++ lv else []) ++ sb.flatten))) _)) (by omega) (by omega)) ?_
    rintro _ w8 ⟨W9, rfl, hO, hB, hR⟩
    have LD : (B ++ ((if kd = 1 then lk ++ lv else []) ++ sb.flatten)).take 32 = B := List.take_left' pU
    have hdk : (B ++ ((if kd = 1 then lk ++ lv else []) ++ sb.flatten)).drop 32 = (if kd = 1 then lk ++ lv else []) ++ sb.flatten := List.drop_left' pU
    rw [LD]
    rw [hdk] at hR
    replace H := H.mZ 1 rfl hO hB hR
    refine WL.nil ⟨(fa (fun _ _ => ((show dA _ _ [.int .u8 ((UInt8.ofNat dp).toNat : Int)] from bJ.rd (by exact (H.p 2 rfl : (bJ s (fK kd dp lk lv B sb)) _)) 3 (by omega)))) (fa (fun _ _ => ((show dA _ _ [.int .u8 ((UInt8.ofNat (dp / 2 ^ 8)).toNat : Int)] from bJ.rd (by exact (H.p 2 rfl : (bJ s (fK kd dp lk lv B sb)) _)) 2 (by omega)))) c5)), ?_⟩
    refine WP.aC rfl rfl (PV.dM rfl aBZ DW (Fl.cons rfl rfl (by simp only [aS, aX, aB, aD]) (Laid.left (Laid.all (by simp only [aS, aX, aB, aD]))) (Fl.cons rfl rfl (by simp only [aS, aX, aB, aD]) (Laid.right (Laid.left (Laid.all (by simp only [aS, aX, aB, aD]))) (by simp only [aS, aX, aB, aD])) (Fl.cons rfl rfl (by simp only [aS, aX, aB, aD]; omega) (Laid.right (Laid.right (Laid.right (Laid.left (Laid.all (by simp only [aS, aX, aB, aD]; omega))) rfl) rfl) (by simp only [aS, aX, aB, aD])) Fl.nil)))) ?_
    exact jn_ _ _ ⟨(b8, W9), (by repeat (first | with_reducible exact bM.refl _ _ | refine bM.dD rfl ?_)), ⟨rfl, rfl, rfl, trivial⟩, (by exact H.uB [0, 2])⟩
  ·
   intro ⟨b8, W9⟩ γ_ w9 hI
   try dsimp only at hI
   replace H := hI
   refine WP.aG rfl ?_
   refine WL.aW H 0 rfl rfl rfl (new := fT kd dp (List.replicate 32 0) (List.replicate 32 0) B (.slice none 0 0)) rfl (cK k8 (by simp only [aS, aX, aB, aD]; omega)) (sO rfl) (Laid.at (Laid.all (by simp only [aS, aX, aB, aD]; omega)) rfl) rfl ?_
   intro tM H
   refine WL.nil ⟨(fa (nw 15 8) (fa (nw 15 3) c5)), ?_⟩
   refine WP.done ?_
   refine WE.cut (α := Value) (rg [(49, 10)]) (fun g_ => []) (fun g_ wl => St X w wl [] [aP.blk b8 35 (fT kd dp lk lv B (.slice none 0 0)), aP.blk JP 277 [g_, .bool false], aP.blk b2 35 z2] [bJ g_ sb.flatten, bJ s (fK kd dp lk lv B sb)]) ?_ ?_
   ·
    refine WE.aA (WL.mv rfl rfl (WL.pv (PV.eql rfl rfl rfl) rfl (WL.nil ?_)))
    refine WE.cond rfl (fun nF => ?_) (fun nF => ?_)
    ·
     try simp only [bW] at nF
     have wG : kd = 1 := by omega
     have hKF : (if kd = 1 then lk ++ lv else []) ++ sb.flatten = lk ++ (lv ++ sb.flatten) := by rw [if_pos wG, List.append_assoc]
     rw [hKF] at H
     have aK6 : (lk ++ (lv ++ sb.flatten)).length = 64 + 32 * sb.length := by simp [mN, hlv, FC]; omega
     have aK5 : (lv ++ sb.flatten).length = 32 + 32 * sb.length := by simp [hlv, FC]
     refine WE.aA (WL.mv rfl rfl ?_)
     refine WL.rD FU rfl rfl (xN (br := JP) (l := (lk ++ (lv ++ sb.flatten))) H.aR (H.l 1 rfl) (by exact (H.gM 1 rfl 0 rfl : aJ _ (bJ W9 (lk ++ (lv ++ sb.flatten))) _)) (by omega) (by omega)) ?_
     rintro _ wT ⟨s52, rfl, hO, hB, hR⟩
     have LD : (lk ++ (lv ++ sb.flatten)).take 32 = lk := List.take_left' mN
     have hdk : (lk ++ (lv ++ sb.flatten)).drop 32 = lv ++ sb.flatten := List.drop_left' mN
     rw [LD]
     rw [hdk] at hR
     replace H := H.mZ 1 rfl hO hB hR
     refine WL.pv (PV.fieldAddr rfl pD rfl) rfl (WL.pv (PV.fieldAddr rfl kH rfl) rfl ?_)
     refine WL.aW H 0 rfl rfl rfl (new := kc lk) rfl (cK cL (by simp only [aS, aX, aB, aD]; omega)) (bG _) (Laid.at (Laid.right (Laid.right (Laid.left (Laid.left (Laid.all (by simp only [aS, aX, aB, aD]; omega)))) rfl) rfl) rfl) rfl ?_
     intro G2 H
     replace H := H.conv (L' := [aP.blk b8 35 (fT kd dp lk (List.replicate 32 0) B (.slice none 0 0)), aP.blk JP 277 [s52, .bool false], aP.blk b2 35 z2]) rfl
     refine WL.nil (WE.dY (WL.mv rfl rfl ?_))
     refine WL.rD FU rfl rfl (xN (br := JP) (l := (lv ++ sb.flatten)) H.aR (H.l 1 rfl) (by exact (H.gM 1 rfl 0 rfl : aJ _ (bJ s52 (lv ++ sb.flatten)) _)) (by omega) (by omega)) ?_
     rintro _ D4 ⟨s56, rfl, hO, hB, hR⟩
     have LD : (lv ++ sb.flatten).take 32 = lv := List.take_left' hlv
     have hdk : (lv ++ sb.flatten).drop 32 = sb.flatten := List.drop_left' hlv
     rw [LD]
     rw [hdk] at hR
     replace H := H.mZ 1 rfl hO hB hR
     refine WL.pv (PV.fieldAddr rfl pD rfl) rfl (WL.pv (PV.fieldAddr rfl C7 rfl) rfl ?_)
     refine WL.aW H 0 rfl rfl rfl (new := kc lv) rfl (cK c9 (by simp only [aS, aX, aB, aD]; omega)) (bG _) (Laid.at (Laid.right (Laid.right (Laid.left (Laid.right (Laid.all (by simp only [aS, aX, aB, aD]; omega)) rfl)) rfl) rfl) (by simp [aI, aQ, *])) rfl ?_
     intro KG H
     replace H := H.conv (L' := [aP.blk b8 35 (fT kd dp lk lv B (.slice none 0 0)), aP.blk JP 277 [s56, .bool false], aP.blk b2 35 z2]) rfl
     refine WL.nil ?_
     exact ⟨s56, (by repeat (first | with_reducible exact bM.refl _ _ | refine bM.dD rfl ?_)), trivial, rfl, (show St X w _ [] [aP.blk b8 35 (fT kd dp lk lv B (.slice none 0 0)), aP.blk JP 277 [s56, .bool false], aP.blk b2 35 z2] [bJ s56 sb.flatten, bJ s (fK kd dp lk lv B sb)] from (by exact H.uB [0, 3]))⟩
    ·
     try simp only [bW] at nF
     have PI : kd = 0 := by omega
     have hKF : (if kd = 1 then lk ++ lv else []) ++ sb.flatten = sb.flatten := by rw [if_neg (by omega)]; rfl
     rw [hKF] at H
     obtain ⟨hlz, hvz⟩ := hp.lz PI
     have aEX : lk = List.replicate 32 0 := hlz
     have aEJ : lv = List.replicate 32 0 := hvz
     replace H := H.conv (L' := [aP.blk b8 35 (fT kd dp lk lv B (.slice none 0 0)), aP.blk JP 277 [W9, .bool false], aP.blk b2 35 z2]) (by rw [aEX, aEJ]; rfl)
     refine WE.skip ?_
     exact ⟨W9, (by repeat (first | with_reducible exact bM.refl _ _ | refine bM.dD rfl ?_)), trivial, rfl, (show St X w _ [] [aP.blk b8 35 (fT kd dp lk lv B (.slice none 0 0)), aP.blk JP 277 [W9, .bool false], aP.blk b2 35 z2] [bJ W9 sb.flatten, bJ s (fK kd dp lk lv B sb)] from (by exact H.uB [0, 1]))⟩
   ·
    intro g_ γ PD hI
    try dsimp only at hI
    replace H := hI
    replace H := H.kS 30 32
    refine WE.seq (WE.block ?_)
    refine WE.loop (α := Nat × Value × Value) (rg [(59, 26)]) (fun p => []) (fun p wl => p.1 ≤ sb.length ∧ St X w wl [] [aP.hU w.heap.size p.2.1 30 32 (sb.take (p.1)).length ((sb.take (p.1)).flatMap kc), aP.blk b8 35 (fT kd dp lk lv B p.2.1), aP.blk JP 277 [p.2.2, .bool false], aP.blk b2 35 z2] [bJ p.2.2 (sb.drop (p.1)).flatten, bJ s (fK kd dp lk lv B sb)]) (fun p => sb.length - p.1) (0, .slice none 0 0, g_) trivial ⟨Nat.zero_le _, H⟩ ?_
    intro ⟨i, q, g⟩ γ0 P7 hI
    try dsimp only at hI
    obtain ⟨hi, H⟩ := hI
    refine WE.seq (WE.aA (WL.mv rfl rfl (WL.pv (PV.nilCheck rfl rfl) rfl (WL.pv (PV.fieldAddr rfl qN rfl) rfl (WL.aY rfl eU rfl rfl (aN.aF (H.l 2 rfl) aK.hd rfl) ?_)))))
    refine WL.pv (PV.dR (by exact (H.p 0 rfl : (bJ g (sb.drop i).flatten) _)) eM rfl) rfl ?_
    refine WL.pv (PV.gtr rfl rfl rfl) rfl (WL.mv rfl rfl ?_)
    refine WL.split (t := 65) rfl (fun SI => ?_) (fun SI => ?_)
    ·
     refine WL.known (t := 64) (c := true) rfl SI ?_
     try simp only [bW] at SI
     have hlt : i < sb.length := by rcases Nat.lt_or_ge i sb.length with h_ | h_; exact h_; (have PK : (sb.drop i).flatten.length = 0 := by rw [List.drop_eq_nil_of_le h_]; rfl); omega
     have hsi := hp.sl _ (List.getElem_mem hlt)
     have SN : (sb.drop i).flatten.length = 32 * (sb.length - i) := by rw [C1 _ (fun x hx => hp.sl x (List.mem_of_mem_drop hx)), List.length_drop]
     have htl : (sb.take i).length = i := by rw [List.length_take]; omega
     refine WL.mv rfl rfl (WL.pv (PV.nilCheck rfl rfl) rfl (WL.pv (PV.fieldAddr rfl LN rfl) rfl (WL.aY rfl u4 rfl rfl (aN.aF (H.l 2 rfl) (aK.tl aK.hd rfl) rfl) (WL.pv (PV.not rfl rfl) rfl (WL.pv (PV.dP rfl rfl rfl) rfl (WL.mv rfl rfl (WL.known (t := 72) (c := true) rfl rfl ?_)))))))
     refine WL.pv (PV.fieldAddr rfl nH rfl) rfl ?_
     refine WL.aY rfl u5 rfl rfl (aN.aF (H.l 1 rfl) (aK.r (aK.r (aK.r (aK.r (aK.all _) rfl) rfl) rfl) rfl) (by simp [aI, aQ, *])) ?_
     refine WL.pv (PV.eq (v' := .int .i64 ((sb.take i).length : Int)) (PV.dR (cN.dJ (H.l 0 rfl)) oU rfl) rfl) rfl (WL.pv (PV.leq rfl rfl rfl) rfl (WL.pv (PV.dP rfl rfl rfl) rfl (WL.nil ?_)))
     refine WE.cS rfl (by simp; omega) ?_
     refine WE.skip (WE.block ?_)
     refine WE.draw (.take 0 (.take 1 (.take 2 (.aG 3 (.aG 4 (.aG 5 (.take 6 (.aG 7 .done)))))))) mixed (by kernel_rfl) ?_
     replace H := H.out (Out.drew _)
     refine WP.aC rfl rfl (PV.fieldAddr rfl nH rfl) ?_
     refine WP.aM rfl rfl (RV.aV rfl u5 rfl) (aN.aF (H.l 1 rfl) (aK.r (aK.r (aK.r (aK.r (aK.all _) rfl) rfl) rfl) rfl) (by simp [aI, aQ, *])) ?_
     refine WP.mv rfl rfl rfl (WP.aG rfl ?_)
     refine WL.rD FU rfl rfl (xN (br := JP) (l := (sb.drop i).flatten) H.aR (H.l 2 rfl) (by exact (H.gM 2 rfl 0 rfl : aJ _ (bJ g (sb.drop i).flatten) _)) (by omega) (by omega)) ?_
     rintro _ P6 ⟨s81, rfl, hO, hB, hR⟩
     have LD : (sb.drop i).flatten.take 32 = sb[i] := by rw [BG hlt]; exact List.take_left' hsi
     have hdk : (sb.drop i).flatten.drop 32 = (sb.drop (i + 1)).flatten := by rw [BG hlt]; exact List.drop_left' hsi
     rw [LD]
     rw [hdk] at hR
     replace H := H.mZ 2 rfl hO hB hR
     refine WL.nil ⟨(fa (fun _ _ => (aN.aF (H.l 1 rfl) (aK.r (aK.r (aK.r (aK.r (aK.all _) rfl) rfl) rfl) rfl) (by simp [aI, aQ, *]))) c5), ?_⟩
     refine WP.aG rfl ?_
     refine WL.bB (l0 := (kc (List.replicate 32 0))) H rfl EA (by decide) rfl (Fl.cons rfl rfl (by simp only [aS, aX, aB, aD]; omega) (Laid.all (by simp only [aS, aX, aB, aD]; omega)) Fl.nil) rfl ?_
     intro b82 P5 H
     refine WL.nil ⟨(fa (fun _ _ => (aN.aF (H.l 2 rfl) (aK.r (aK.r (aK.r (aK.r (aK.all _) rfl) rfl) rfl) rfl) (by simp [aI, aQ, *]))) c5), ?_⟩
     refine WP.aG rfl ?_
     refine WL.append (m := 1) H 1 EA (by decide) rfl rfl rfl (cN.bZ (n := 1) (H.l 0 rfl) (by rw [aI, hsi]; simp [aI])) (bG _) (by omega) (by decide) rfl ?_
     intro v83 w19 H
     replace H := H.forget 0
     refine WL.nil ⟨(fa (nw 5 1) c5), ?_⟩
     refine WP.aC rfl rfl (PV.fieldAddr rfl nH rfl) (WP.aG rfl ?_)
     refine WL.aW H 1 rfl rfl rfl (new := _) (cells_one (jE (H.l 0 rfl))) (by exact aBK) (eE (jE (H.l 0 rfl))) (Laid.at (Laid.right (Laid.right (Laid.right (Laid.right (Laid.all (by simp only [aS, aX, aB, aD])) rfl) rfl) rfl) rfl) (by simp [aI, aQ, *])) rfl ?_
     intro w20 H
     replace H := H.conv (L' := [aP.hU w.heap.size v83 30 32 (sb.take (i + 1)).length ((sb.take (i + 1)).flatMap kc), aP.blk b8 35 (fT kd dp lk lv B v83), aP.blk JP 277 [s81, .bool false], aP.blk b2 35 z2]) (by rw [List.take_succ_eq_append_getElem hlt, List.length_append, List.flatMap_append, List.flatMap_singleton]; rfl)
     refine WL.nil ⟨(fa (nw 7 1) c5), ?_⟩
     refine WP.done ?_
     exact ⟨(i + 1, v83, s81), (by repeat (first | with_reducible exact bM.refl _ _ | refine bM.dD rfl ?_ | refine bM.bY rfl ?_ | refine bM.bV rfl ?_)), trivial, rfl, ⟨by dsimp only; omega, (show St X w _ [] [aP.hU w.heap.size v83 30 32 (sb.take (i + 1)).length ((sb.take (i + 1)).flatMap kc), aP.blk b8 35 (fT kd dp lk lv B v83), aP.blk JP 277 [s81, .bool false], aP.blk b2 35 z2] [bJ s81 (sb.drop (i + 1)).flatten, bJ s (fK kd dp lk lv B sb)] from (by exact H.uB [0, 2]))⟩, (by dsimp only; omega)⟩
    ·
     refine WL.known (t := 64) (c := false) rfl SI ?_
     try simp only [bW] at SI
     have tO : i = sb.length := by rcases Nat.lt_or_ge i sb.length with h_ | h_; (have PK : (sb.drop i).flatten.length = 32 * (sb.length - i) := by rw [C1 _ (fun x hx => hp.sl x (List.mem_of_mem_drop hx)), List.length_drop]); omega; omega
     subst tO
     rw [List.take_length, List.drop_length] at H
     have hoq := jE (H.l 0 rfl)
     replace H := H.freeze (i := 0) rfl
     replace H := H.add (show aJ _ (fB q sb) _ from (H.bK 0 rfl).imp fun _ h => cN.dJ h)
     replace H := H.add (show aJ _ (bJ g []) _ from (H.bK 2 rfl).imp fun _ h => h)
     refine WL.off rfl (WL.off rfl (WL.off rfl (WL.off rfl (WL.off rfl (WL.pv (PV.dF rfl rfl rfl) rfl (WL.mv rfl rfl (WL.off rfl ?_)))))))
     refine WL.off rfl (WL.off rfl (WL.off rfl (WL.pv (PV.dF rfl rfl rfl) rfl (WL.nil (WE.jB rfl (WE.exit (WE.seq ?_)))))))
     refine WE.aA (WL.mv rfl rfl (WL.pv (PV.nilCheck rfl rfl) rfl (WL.pv (PV.fieldAddr rfl LN rfl) rfl (WL.aY rfl u4 rfl rfl (aN.aF (H.l 1 rfl) (aK.tl aK.hd rfl) rfl) (WL.mv rfl rfl (WL.known (t := 89) (c := false) rfl rfl (WL.mv rfl rfl ?_)))))))
     refine WL.pv (PV.nilCheck rfl rfl) rfl (WL.pv (PV.fieldAddr rfl qN rfl) rfl (WL.aY rfl eU rfl rfl (aN.aF (H.l 1 rfl) aK.hd rfl) ?_))
     refine WL.pv (PV.dR (by exact (H.p 0 rfl : (bJ g []) _)) eM rfl) rfl ?_
     refine WL.pv (PV.gtr rfl rfl rfl) rfl (WL.pv (PV.dF rfl rfl rfl) rfl (WL.mv rfl rfl (WL.known (t := 97) (c := false) rfl rfl ?_)))
     refine WL.bE rfl nJ rfl rfl (aN.aF (H.l 0 rfl) (aK.all _) rfl) (cK k8 (by simp only [aS, aX, aB, aD]; omega)) ?_
     refine WL.call ZA rfl (tK (kd := kd) (dp := dp) (lk := lk) (lv := lv) (B := B) (sl := q) (sb := sb) H.aR (by exact (H.bK 1 rfl : aJ _ (fB q sb) _)) hp) ?_
     rintro _ w21 ⟨rfl, hO⟩
     replace H := H.out hO
     refine WL.pv (PV.neq rfl rfl rfl) rfl (WL.pv (PV.dF rfl rfl rfl) rfl (WL.nil ?_))
     refine WE.bD rfl rfl ?_
     refine WE.skip (WE.aA ?_)
     refine WL.bE rfl nJ rfl rfl (aN.aF (H.l 0 rfl) (aK.all _) rfl) (cK k8 (by simp only [aS, aX, aB, aD]; omega)) ?_
     refine WL.aW H 2 rfl rfl rfl (new := fT kd dp lk lv B q) rfl (cK k8 (by simp only [aS, aX, aB, aD]; omega)) (sO hoq) (Laid.at (Laid.all (by simp only [aS, aX, aB, aD]; omega)) rfl) rfl ?_
     intro w22 H
     refine WL.as rfl rfl (WL.nil (WE.ret ⟨[_, _], _, .nil _, ⟨⟨_, rfl, aU nJ (aN.aF (H.l 2 rfl) (aK.all _) rfl) (cK k8 (by simp only [aS, aX, aB, aD]; omega))⟩, rfl, trivial⟩, ?_⟩))
     exact ⟨q, rfl, H.aL, H.gF (by exact (H.bK 1 rfl : aJ _ (fB q sb) _))⟩
theorem rG {n : Nat} (h : n < 4294967296) : IntKind.u64.wrap ((BitVec.ofInt IntKind.u64.bits (n : Int) &&& BitVec.ofInt IntKind.u64.bits 4294967295).toNat : Int) = (n : Int) := by
 have e : (BitVec.ofInt IntKind.u64.bits (n : Int) &&& BitVec.ofInt IntKind.u64.bits 4294967295).toNat = n := by
  show (BitVec.ofInt 64 (n : Int) &&& 4294967295#64).toNat = _
  rw [BitVec.ofInt_natCast, BitVec.toNat_and]
  simp only [BitVec.toNat_ofNat]
  rw [Nat.mod_eq_of_lt (show n < 2 ^ 64 by omega), Nat.mod_eq_of_lt (show 4294967295 < 2 ^ 64 by decide), show 4294967295 = 2 ^ 32 - 1 by decide, Nat.and_two_pow_sub_one_of_lt_two_pow h]
 rw [e, oP]; congr 1; omega
def rep (n : Nat) (e : List UInt8) (c : Nat) : List (List UInt8) := List.replicate c e ++ List.replicate (n - c) (List.replicate 32 0)
theorem lC (c : Nat) {e : List UInt8} (he : e.length = 32) : ((List.replicate c e).flatMap kc).length = c * 32 := by
 rw [List.flatMap_replicate, List.length_flatten, List.map_replicate, List.sum_replicate_nat, aI, he]
theorem KV (n : Nat) {e : List UInt8} (he : e.length = 32) {c : Nat} (hc : c ≤ n) : ((rep n e c).flatMap kc).length = n * 32 := by
 unfold rep
 rw [List.flatMap_append, List.length_append, lC c he, lC (n - c) (by rw [List.length_replicate]), ← Nat.add_mul]
 congr 1; omega
theorem QZ (n : Nat) (e : List UInt8) : (rep n e 0).flatMap kc = jM n (kc (List.replicate 32 0)) := by
 have e0 : kc (List.replicate 32 0) = List.replicate 32 (.int .u8 0) := by rfl
 unfold rep
 rw [List.replicate_zero, List.nil_append, Nat.sub_zero, List.flatMap_replicate, e0, List.flatten_replicate_replicate, wO _ _ _ (by decide)]
theorem Q0 (n : Nat) (e : List UInt8) : rep n e n = List.replicate n e := by unfold rep; rw [Nat.sub_self]; simp
theorem EJ {n c m : Nat} {e : List UInt8} (he : e.length = 32) (h : c + m ≤ n) : Laid ((rep n e c).flatMap kc) (c * 32) ((List.replicate m e).flatMap kc) ((rep n e (c + m)).flatMap kc) := by
 have e1 : rep n e c = List.replicate c e ++ (List.replicate m (List.replicate 32 0) ++ List.replicate (n - (c + m)) (List.replicate 32 0)) := by
  unfold rep
  rw [List.replicate_append_replicate, show m + (n - (c + m)) = n - c by omega]
 have e2 : rep n e (c + m) = List.replicate c e ++ (List.replicate m e ++ List.replicate (n - (c + m)) (List.replicate 32 0)) := by
  unfold rep
  rw [← List.append_assoc, List.replicate_append_replicate]
 rw [e1, e2, List.flatMap_append, List.flatMap_append, List.flatMap_append, List.flatMap_append]
 refine Laid.right (Laid.left (Laid.all ?_)) (by rw [lC c he]; rfl)
 rw [lC m he, lC m (by rw [List.length_replicate])]
theorem D7 {e : List UInt8} (he : e.length = 32) (c q : Nat) : ((List.replicate c e).flatMap kc).take (q * 32) = (List.replicate (min q c) e).flatMap kc := by
 rcases Nat.lt_or_ge q c with h | h
 ·
  have e1 : List.replicate c e = List.replicate q e ++ List.replicate (c - q) e := by rw [List.replicate_append_replicate]; congr 1; omega
  rw [Nat.min_eq_left (by omega), e1, List.flatMap_append, List.take_left' (lC q he)]
 ·
  rw [Nat.min_eq_right h, List.take_of_length_le (by rw [lC c he]; omega)]
theorem MW {e : List UInt8} (he : e.length = 32) (n : Nat) : (kc e).take (min 1 n * 32) = (List.replicate (min 1 n) e).flatMap kc := by
 have h := D7 he 1 (min 1 n)
 have e1 : (List.replicate 1 e).flatMap kc = kc e := by simp
 rw [e1, show min (min 1 n) 1 = min 1 n by omega] at h; exact h
theorem XO (l : List (List UInt8)) : eN (l.flatMap kc) := fun v hv => by
 obtain ⟨x, _, hx⟩ := List.mem_flatMap.1 hv
 exact bG x v hx
theorem Z7 {X : Nat → Prop} {w : World} {n : Nat} (hX : cY X w) (hn : n < 4294967296) :
  bC prog 222 [.int .u64 1, .int .u64 (n : Int)].toArray w fun v w' => v = .tuple [.int .u64 0, .int .u64 (n : Int)].toArray ∧ Out Nil w w' := by
 refine bC.aH (N := 51) func222 rfl rfl (by simp) ?_
 have H := St.begin hX
 have hdz : n / 2 ^ 32 = 0 := Nat.div_eq_of_lt hn
 refine WE.aA (WL.as rfl rfl (WL.as rfl rfl (WL.nil (WE.aA (WL.mv rfl rfl (WL.pv (PV.eq (v' := .int .u64 1) (PV.JT rfl rfl rfl) rfl) rfl (WL.as rfl rfl ?_)))))))
 refine WL.nil (WE.aA (WL.mv rfl rfl (WL.pv (PV.eq (v' := .int .u64 0) (PV.B3 (m := 1) (n := 32) rfl rfl rfl (by decide)) rfl) rfl (WL.as rfl rfl (WL.nil (WE.aA (WL.mv rfl rfl ?_)))))))
 refine WL.pv (PV.eq (v' := .int .u64 (n : Int)) (PV.JT rfl rfl rfl) (congrArg (Value.int .u64) (rG hn))) rfl (WL.as rfl rfl (WL.nil (WE.aA (WL.mv rfl rfl ?_))))
 refine WL.pv (PV.eq (v' := .int .u64 0) (PV.B3 (m := n) (n := 32) rfl rfl rfl (by decide)) (by rw [hdz]; rfl)) rfl ?_
 refine WL.as rfl rfl (WL.nil (WE.aA (WL.mv rfl rfl (WL.mv rfl rfl (WL.pv (PV.IJ (m := 1) (n := n) (q := n) rfl rfl rfl (by omega) (by omega)) rfl (WL.as rfl rfl (WL.nil ?_)))))))
 refine WE.aA (WL.mv rfl rfl (WL.mv rfl rfl (WL.pv (PV.IJ (m := 0) (n := n) (q := 0) rfl rfl rfl (by omega) (by omega)) rfl (WL.mv rfl rfl ?_))))
 refine WL.pv (PV.eq (v' := .int .u64 0) (PV.B3 (m := n) (n := 32) rfl rfl rfl (by decide)) (by rw [hdz]; rfl)) rfl ?_
 refine WL.pv (PV.eq (v' := .int .u64 0) (PV.JV rfl rfl rfl) rfl) rfl (WL.as rfl rfl (WL.nil (WE.aA (WL.mv rfl rfl (WL.pv (PV.eq (v' := .int .u64 0) (PV.JT rfl rfl rfl) rfl) rfl (WL.as rfl rfl (WL.nil ?_)))))))
 refine WE.aA (WL.mv rfl rfl (WL.pv (PV.eq (v' := .int .u64 0) (PV.B3 (m := 0) (n := 32) rfl rfl rfl (by decide)) rfl) rfl (WL.as rfl rfl (WL.nil (WE.aA (WL.mv rfl rfl (WL.mv rfl rfl ?_)))))))
 refine WL.mv rfl rfl (WL.pv (PV.IJ (m := 1) (n := 0) (q := 0) rfl rfl rfl (by omega) (by omega)) rfl (WL.pv (PV.eq (v' := .int .u64 0) (PV.JV rfl rfl rfl) rfl) rfl (WL.as rfl rfl (WL.nil (WE.aA (WL.mv rfl rfl (WL.mv rfl rfl ?_)))))))
 refine WL.pv (PV.IJ (m := 0) (n := 0) (q := 0) rfl rfl rfl (by omega) (by omega)) rfl (WL.mv rfl rfl (WL.pv (PV.eq (v' := .int .u64 0) (PV.JV rfl rfl rfl) rfl) rfl (WL.mv rfl rfl (WL.pv (PV.eq (v' := .int .u64 0) (PV.B3 (m := 0) (n := 32) rfl rfl rfl (by decide)) rfl) rfl (WL.pv (PV.eq (v' := .int .u64 0) (PV.JV rfl rfl rfl) rfl) rfl (WL.as rfl rfl (WL.nil ?_)))))))
 refine WE.aA (WL.mv rfl rfl (WL.mv rfl rfl (WL.pv (PV.IJ (m := 1) (n := n) (q := n) rfl rfl rfl (by omega) (by omega)) rfl (WL.as rfl rfl (WL.nil (WE.ret ⟨[_, _], _, .nil _, ⟨rfl, rfl, trivial⟩, ?_⟩))))))
 exact ⟨rfl, H.aL⟩
theorem aHW {X : Nat → Prop} {w : World} {n : Nat} (hX : cY X w) (hn : n < 4294967296) :
  bC prog 218 [.int .u64 1, .int .u64 (n : Int)].toArray w fun v w' => v = .tuple [.int .u64 0, .int .u64 (n : Int)].toArray ∧ Out Nil w w' := by
 refine bC.aH (N := 30) func218 rfl rfl (by simp) ?_
 have H := St.begin hX
 refine WE.aA (WL.as rfl rfl (WL.as rfl rfl (WL.nil (WE.seq (WE.jB rfl (WE.skip (WE.aA ?_)))))))
 refine WL.mv rfl rfl (WL.mv rfl rfl ?_)
 refine WL.call aF9 rfl (Z7 (n := n) H.aR  (by assumption)) ?_
 rintro _ w1 ⟨rfl, hO⟩
 replace H := H.out hO
 refine WL.mv rfl rfl (WL.pv (PV.extract rfl rfl rfl) rfl (WL.pv (PV.extract rfl rfl rfl) rfl (WL.as rfl rfl (WL.as rfl rfl (WL.nil (WE.aA (WL.mv rfl rfl ?_)))))))
 refine WL.mv rfl rfl (WL.as rfl rfl (WL.as rfl rfl (WL.nil (WE.ret ⟨[_, _], _, .nil _, ⟨rfl, rfl, trivial⟩, ?_⟩))))
 exact ⟨rfl, H.aL⟩
theorem VG {X : Nat → Prop} {w : World} {s : Value} {e : List UInt8} {n : Nat} (hX : cY X w) (bU : aJ X (fB s [e]) w) (he : e.length = 32) (hn : n ≤ 256) :
  bC prog 211 [s, .int .i64 (n : Int)].toArray w fun v w' => ∃ b, v = .slice (some ⟨b, 0, none⟩) n n ∧ Out Nil w w' ∧ w.heap.size ≤ b ∧ aN w' b 30 ((List.replicate n e).flatMap kc) := by
 refine bC.aH (N := 48) func211 rfl rfl (by simp) ?_
 have H := (St.begin hX).add (cE bU)
 refine WE.aA (WL.as rfl rfl (WL.nil (WE.seq (WE.aA (WL.mv rfl rfl (WL.pv (PV.lss rfl rfl rfl) rfl (WL.nil ?_)))))))
 refine WE.bD rfl (by simp) ?_
 refine WE.skip (WE.aA (WL.mv rfl rfl ?_))
 refine WL.pv (PV.dR (by exact (H.p 0 rfl : (fB s [e]) _)) oU rfl) rfl ?_
 refine WL.pv (PV.BJ (n := 1) rfl sZ zR rfl rfl (by omega)) rfl (WL.mv rfl rfl (WL.pv (PV.BJ (n := n) rfl sZ zR rfl rfl (by omega)) rfl ?_))
 refine WL.call aGb rfl (aHW (n := n) H.aR  (by omega)) ?_
 rintro _ w1 ⟨rfl, hO⟩
 replace H := H.out hO
 refine WL.mv rfl rfl (WL.pv (PV.extract rfl rfl rfl) rfl (WL.pv (PV.extract rfl rfl rfl) rfl (WL.as rfl rfl (WL.as rfl rfl (WL.nil (WE.seq (WE.aA ?_)))))))
 refine WL.mv rfl rfl (WL.pv (PV.gtr rfl rfl rfl) rfl (WL.mv rfl rfl (WL.known (t := 23) (c := false) rfl rfl (WL.mv rfl rfl (WL.pv (PV.gtr rfl rfl rfl) rfl (WL.pv (PV.dF rfl rfl rfl) rfl (WL.nil ?_)))))))
 refine WE.bD rfl (by simp; omega) ?_
 refine WE.skip (WE.aA (WL.mv rfl rfl (WL.pv (PV.lM rfl zR sZ rfl (by omega) (by omega)) rfl ?_)))
 refine WL.makeSlice (n := n) H rfl EA rfl (by omega) (by omega) rfl ?_
 intro b30 w3 H
 replace H := H.conv (L' := [aP.blk b30 30 ((rep n e (0)).flatMap kc)]) (by rw [QZ])
 have I5 : 0 ≤ n := Nat.zero_le _
 refine WL.as rfl rfl (WL.nil (WE.aA (WL.mv rfl rfl (WL.mv rfl rfl ?_))))
 refine WL.LX (sz := 32) (m := 1) (cs := kc e) (l' := (rep n e (0 + min 1 n)).flatMap kc) H 0 oU c9 rfl rfl rfl (show cN _ s 32 1 (kc e) from by have h_ := (by exact (H.p 0 rfl : (fB s [e]) _)); unfold fB at h_; simpa using h_) (p9 (bG _) _) (by have h_ := EJ (n := n) (c := 0) (m := min 1 n) he (by omega); rw [MW he]; rwa [Nat.zero_mul] at h_) rfl ?_
 intro w7 H
 refine WL.as rfl rfl (WL.nil (WE.seq (WE.block ?_)))
 refine WE.loop (α := Nat) (rg [(8, 1), (34, 13)]) (fun c => [(8, .int .i64 (c : Int))]) (fun c wl => (c ≤ n ∧ (c = 0 → n = 0)) ∧ St X w wl [] [aP.blk b30 30 ((rep n e (c)).flatMap kc)] [fB s [e]]) (fun c => n - c) (min 1 n) ⟨rfl, trivial⟩ ⟨⟨by omega, by omega⟩, H.conv (by simp)⟩ ?_
 intro c γ0 w8 hI
 try dsimp only at hI
 obtain ⟨⟨I5, hz⟩, H⟩ := hI
 refine WE.seq (WE.aA (WL.mv rfl rfl (WL.mv rfl rfl (WL.pv (PV.A0 oU rfl) rfl (WL.pv (PV.lss rfl rfl rfl) rfl (WL.nil ?_))))))
 refine WE.cond rfl (fun I7 => ?_) (fun I7 => ?_)
 ·
  try simp only [bW] at I7
  have qC : c < n := by omega
  have hc0 : 0 < c := by rcases Nat.eq_zero_or_pos c with h_ | h_; (have := hz h_; omega); exact h_
  have hlz : c + min c (n - c) ≤ n := by omega
  refine WE.skip (WE.block ?_)
  refine WE.draw (.take 0 (.take 1 (.take 2 (.take 3 (.take 4 (.take 5 (.take 6 (.aG 7 (.take 8 (.take 9 .done)))))))))) mixed (by kernel_rfl) ?_
  replace H := H.out (Out.drew _)
  refine WP.mv rfl rfl rfl (WP.mv rfl rfl rfl (WP.mv rfl rfl rfl ?_))
  refine WP.aC rfl rfl (PV.eq (v' := .slice (some ⟨b30, c * 32, none⟩) (n - c) (n - c)) (PV.qZ rfl (cN.bZ (n := n) (H.l 0 rfl) (KV n he I5)) oU c9 rfl rfl (by omega) (by omega)) (by simp only [jJ, Int.toNat_natCast]; rw [if_neg (by omega)]; simp [Addr.add]; omega)) ?_
  refine WP.mv rfl rfl rfl (WP.mv rfl rfl rfl ?_)
  refine WP.aC rfl rfl (PV.eq (v' := .slice (some ⟨b30, 0, none⟩) c n) (PV.WU rfl (cN.bZ (n := n) (H.l 0 rfl) (KV n he I5)) oU c9 rfl rfl (by omega) (by omega)) (by simp only [jJ, Int.toNat_natCast]; rw [if_neg (by omega)]; simp [Addr.add])) ?_
  refine WP.aG rfl ?_
  refine WL.LX (sz := 32) (m := c) (cs := (List.replicate c e).flatMap kc) (l' := (rep n e (c + min c (n - c))).flatMap kc) H 0 oU c9 rfl rfl rfl (cN.nY (by have h_ := dA.sub (aN.rd (H.l 0 rfl)) (o := 0) (l := (List.replicate c e).flatMap kc) (by unfold rep; rw [List.flatMap_append]; exact aK.l (aK.all _)); exact h_) (lC c he) (by omega)) (p9 (XO _) _) (by rw [D7 he, Nat.min_eq_left (show min c (n - c) ≤ c by omega)]; exact EJ he hlz) rfl ?_
  intro tM H
  refine WL.nil ⟨c5, ?_⟩
  refine WP.aC rfl rfl (PV.eq (v' := .int .i64 ((c + min c (n - c) : Nat) : Int)) (PV.bT rfl rfl rfl (by omega) (by omega)) (by congr 1)) ?_
  refine WP.as rfl rfl rfl (WP.done ?_)
  exact ⟨(c + min c (n - c)), (by repeat (first | with_reducible exact bM.refl _ _ | refine bM.dD rfl ?_ | refine bM.bY rfl ?_ | refine bM.bV rfl ?_)), ⟨rfl, trivial⟩, rfl, ⟨⟨by omega, by omega⟩, H⟩, (by omega)⟩
 ·
  try simp only [bW] at I7
  have hce : c = n := by omega
  refine WE.exit (WE.aA (WL.mv rfl rfl (WL.as rfl rfl (WL.nil (WE.ret ⟨[_], _, .nil _, ⟨rfl, trivial⟩, ?_⟩)))))
  subst hce
  rw [Q0] at H
  exact ⟨b30, rfl, H.aL, H.kF _ (List.mem_of_getElem? (i := 0) rfl) _ rfl, H.l 0 rfl⟩
theorem jC.lt {kd dp : Nat} {lk lv B : List UInt8} {sb : List (List UInt8)} (h : jC kd dp lk lv B sb) : ∀ d ∈ bitsOf B 256, d < dp := by
 intro d hd
 have hl := h.last
 have hp := vW B 256
 by_cases h0 : dp = 0
 ·
  rw [if_pos h0] at hl
  rw [List.getLast?_eq_none_iff.1 hl] at hd
  cases hd
 ·
  rw [if_neg h0] at hl
  obtain ⟨ys, hy⟩ := List.getLast?_eq_some_iff.1 hl
  rw [hy] at hd hp
  rcases List.mem_append.1 hd with hd | hd
  ·
   have := (List.pairwise_append.1 hp).2.2 d hd (dp - 1) (by simp)
   omega
  ·
   have := List.mem_singleton.1 hd
   omega
theorem yE : ∀ (ds : List Nat) (sb out : List (List UInt8)) (d : Nat) (s : List UInt8), ds.length = sb.length → mX out (ds ++ [d]) (sb ++ [s]) = (mX out ds sb).set d s
 | [], [], out, d, s, _ => rfl
 | [], _ :: _, _, _, _, h => by cases h
 | _ :: _, [], _, _, _, h => by cases h
 | x :: ds, y :: sb, out, d, s, h => by
  show mX (out.set x y) (ds ++ [d]) (sb ++ [s]) = (mX (out.set x y) ds sb).set d s
  exact yE ds sb _ d s (by simpa using h)
theorem uQ : ∀ (ds : List Nat) (sb out : List (List UInt8)) (x : List UInt8), x ∈ mX out ds sb → x ∈ out ∨ x ∈ sb
 | [], sb, out, x, h => .inl (by cases sb <;> exact h)
 | d :: ds, [], out, x, h => .inl h
 | d :: ds, s :: sb, out, x, h => by
  rcases uQ ds sb (out.set d s) x h with h | h
  ·
   rcases List.mem_or_eq_of_mem_set h with h | h
   ·
    exact .inl h
   ·
    exact .inr (by rw [h]; simp)
  ·
   exact .inr (List.mem_cons_of_mem _ h)
def gG (bits : Int) (dp : Nat) (B : List UInt8) (sb : List (List UInt8)) : List (List UInt8) := mX (List.replicate dp (lL bits)) (bitsOf B 256) sb
theorem tH (bits : Int) (dp : Nat) (B : List UInt8) (sb : List (List UInt8)) : (gG bits dp B sb).length = dp := by unfold gG; rw [uR, List.length_replicate]
theorem yI {bits : Int} {dp : Nat} {B : List UInt8} {sb : List (List UInt8)} (h : ∀ s ∈ sb, s.length = 32) : ∀ s ∈ gG bits dp B sb, s.length = 32 := fun s hs => by
 rcases uQ _ _ _ _ hs with hs | hs
 ·
  rw [(List.mem_replicate.1 hs).2]; exact cA _ _
 ·
  exact h s hs
def yH (bits : Int) (dp : Nat) (B : List UInt8) (sb : List (List UInt8)) (i : Nat) : List (List UInt8) := mX (List.replicate dp (lL bits)) ((bitsOf B 256).take i) (sb.take i)
theorem FX (bits : Int) (dp : Nat) (B : List UInt8) (sb : List (List UInt8)) (i : Nat) : (yH bits dp B sb i).length = dp := by unfold yH; rw [uR, List.length_replicate]
theorem TT {bits : Int} {dp : Nat} {B : List UInt8} {sb : List (List UInt8)} (h : ∀ s ∈ sb, s.length = 32) (i : Nat) : ∀ s ∈ yH bits dp B sb i, (kc s).length = 32 := fun s hs => by
 rw [aI]
 rcases uQ _ _ _ _ hs with hs | hs
 ·
  rw [(List.mem_replicate.1 hs).2]; exact cA _ _
 ·
  exact h s (List.mem_of_mem_take hs)
theorem N5 {bits : Int} {dp : Nat} {B : List UInt8} {sb : List (List UInt8)} {i : Nat} (h1 : i < (bitsOf B 256).length) (h2 : i < sb.length) : (yH bits dp B sb i).set (bitsOf B 256)[i] sb[i] = yH bits dp B sb (i + 1) := by
 unfold yH
 rw [List.take_succ_eq_append_getElem h1, List.take_succ_eq_append_getElem h2, yE _ _ _ _ _ (by rw [List.length_take, List.length_take]; omega)]
theorem TU {bits : Int} {dp : Nat} {B : List UInt8} {sb : List (List UInt8)} (h : sb.length = (bitsOf B 256).length) : yH bits dp B sb (bitsOf B 256).length = gG bits dp B sb := by
 unfold yH gG
 rw [List.take_length, ← h, List.take_length]
theorem aB9 {v : Value} {l : List Nat} {w : World} (h : kK v (l.map xS) w) (i : Nat) (hi : i < l.length) : dA w (jN v (i * 1)) [.int .i64 (l[i] : Int)] := by
 have h2 := kK.rd h i (by rw [List.length_map]; exact hi)
 rw [List.getElem_map] at h2
 exact h2
def eS (kd : Nat) (lk lv : List UInt8) : List UInt8 := if kd = 1 then 0 :: (lk ++ lv) else [3]
theorem VV {X : Nat → Prop} {w : World} {bh bc : Nat} {bits n0 : Int} {kd dp : Nat} {lk lv B : List UInt8} {sl : Value} {sb : List (List UInt8)} (hX : cY X w) (eY : aN w bc 213 ([.int .i64 n0])) (bU : aJ (fun c_ => X c_ ∨ c_ = bc) (fQ bh bc bits) w) (dI : aJ (fun c_ => X c_ ∨ c_ = bc) (fB sl sb) w) (fU : aJ (fun c_ => X c_ ∨ c_ = bc) (aZ) w) (bS : 0 ≤ bits ∧ bits ≤ 256) (hp : jC kd dp lk lv B sb) :
  bC prog 207 [.pointer (some ⟨bh, 0, none⟩), .agg (fT kd dp lk lv B sl).toArray].toArray w fun v w' => ∃ (m : Int) (s : Value), v = .tuple [s, .int .i64 0].toArray ∧ Out (· = bc) w w' ∧ aN w' bc 213 [.int .i64 m] ∧ aJ (fun c => X c ∨ c = bc) (fB s (gG bits dp B sb)) w' := by
 refine bC.aH (N := 40) func207 rfl rfl (by simp) ?_
 have H := (((St.dG (b := bc) (t := 213) (l := [.int .i64 n0]) hX eY).add (cC fU)).add (cC dI)).add (cC bU)
 have wF := hp.kd
 have DQ := hp.N8
 have mN := hp.uJ
 have hlv := hp.lvl
 have pU := hp.bl
 have pP := hp.PL
 have I5 := hp.gH
 have vS : (fT kd dp lk lv B sl).length = 99 := gQ hp.uJ hp.lvl hp.bl
 have hs1 : sl.oneCell' = true := cN.fX (dI.here)
 refine WE.aA ?_
 refine WL.box (l := fT kd dp lk lv B sl) H rfl (by rfl) rfl ?_
 intro b3 w1 H
 refine WL.as rfl rfl (WL.as rfl rfl (WL.nil (WE.seq (WE.aA ?_))))
 refine WL.bE rfl nJ rfl rfl (by exact aN.aF (H.l 0 rfl) (aK.all _) (by rfl)) (cK k8 (by simp only [aS, aX, aB, aD]; omega)) ?_
 refine WL.call ZA rfl (tK (kd := kd) (dp := dp) (lk := lk) (lv := lv) (B := B) (sl := sl) (sb := sb) H.aR (by exact (H.bK 1 rfl : aJ _ (fB sl sb) _)) hp) ?_
 rintro _ w2 ⟨rfl, hO⟩
 replace H := H.out hO
 refine WL.as rfl rfl (WL.nil (WE.aA (WL.mv rfl rfl (WL.pv (PV.neq rfl rfl rfl) rfl (WL.nil ?_)))))
 refine WE.bD rfl rfl ?_
 refine WE.skip ?_
 refine WE.bH (.take 0 (.take 3 (.take 4 (.aG 1 (.aG 2 (.aG 5 (.take 6 .done))))))) mixed (by kernel_rfl) ?_
 replace H := H.out (Out.drew _)
 refine WP.mv rfl rfl rfl (WP.aC rfl rfl (PV.fieldAddr rfl rW rfl) ?_)
 refine WP.aM rfl rfl (RV.aV rfl pR rfl) (by exact aN.aF (H.l 0 rfl) (aK.r (aK.l (aK.all _)) (by with_reducible rfl)) (by rfl)) ?_
 refine WP.aG rfl ?_
 refine WL.call N4 rfl (vM (bits := bits) H.aR (H.o 0 rfl) (by exact (H.aO 0 rfl 0 rfl : aJ _ (fQ bh bc bits) _)) (by exact (H.aO 0 rfl 2 rfl : aJ _ (aZ) _)) bS) ?_
 rintro _ w3 ⟨aED, rfl, hO, hB⟩
 replace H := H.fA 0 rfl hO hB
 refine WL.nil ⟨(fa (fun _ _ => (by exact aN.aF (H.l 0 rfl) (aK.r (aK.l (aK.all _)) (by with_reducible rfl)) (by rfl))) c5), ?_⟩
 refine WP.aG rfl ?_
 refine WL.bB (l0 := (kc (List.replicate 32 0))) H rfl EA (by decide) (by rfl) (Fl.cons rfl (by rfl) (by rfl) (Laid.all (by rfl)) Fl.nil) rfl ?_
 intro b17 w4 H
 replace H := H.freeze (i := 0) rfl
 replace H := H.add (show aJ _ (fB (.slice (some ⟨b17, 0, none⟩) 1 1) [lL bits]) _ from (H.bK 0 rfl).imp fun _ h => (cN.bZ (n := 1) h (by rw [aI]; exact cA _ _) : cN _ (.slice (some ⟨b17, 0, none⟩) 1 1) 32 1 _))
 refine WL.nil ⟨(fa (fun _ _ => (by exact aN.aF (H.l 0 rfl) (aK.r (aK.l (aK.all _)) (by with_reducible rfl)) (by rfl))) c5), ?_⟩
 refine WP.aG rfl ?_
 refine WL.call aGg rfl (VG (s := (.slice (some ⟨b17, 0, none⟩) 1 1)) (e := lL bits) (n := dp) H.aR (by exact (H.bK 0 rfl : aJ _ (fB (.slice (some ⟨b17, 0, none⟩) 1 1) [lL bits]) _)) (cA _ _) hp.N8) ?_
 rintro _ w5 ⟨ZM, rfl, hO, hge, hB⟩
 replace H := H.push hO (aP.blk ZM 30 _) hB (fun c hc => by cases hc; exact hge)
 refine WL.nil ⟨(fa (nw 5 4) c5), ?_⟩
 refine WP.as rfl rfl rfl (WP.done (WE.seq (WE.aA (WL.pv (PV.fieldAddr rfl qE rfl) rfl ?_))))
 refine WL.bE rfl DE rfl rfl (by exact aN.aF (H.l 1 rfl) (aK.r (aK.r (aK.r (aK.l (aK.all _)) (by with_reducible rfl)) (by with_reducible rfl)) (by with_reducible rfl)) (by simp [aI, aQ, *])) (cK vN (by simp only [aS, aX, aB, aD]; omega)) ?_
 refine WL.call aGf rfl (aAl (B := B) H.aR hp.bl) ?_
 rintro v23 w6 ⟨hO, hR⟩
 replace H := (H.out hO).add hR
 refine WL.pv (PV.dR (by exact (H.p 0 rfl : (kK v23 ((bitsOf B 256).map xS)) _)) EC rfl) rfl ?_
 refine WL.mv rfl rfl (WL.nil (WE.block ?_))
 refine WE.loop (α := Nat) [8, 9, 25, 26, 27, 28, 29, 30, 31, 32, 33, 34, 35, 36, 37, 38] (fun i => [(25, .int .i64 (i : Int))]) (fun i wl => i ≤ (bitsOf B 256).length ∧ St X w wl [aP.blk bc 213 [.int .i64 aED]] [aP.blk ZM 30 ((yH bits dp B sb (i)).flatMap kc), aP.blk b3 35 (fT kd dp lk lv B sl)] [kK v23 ((bitsOf B 256).map xS), fB sl sb]) (fun i => (bitsOf B 256).length - i) 0 ⟨rfl, trivial⟩ ⟨Nat.zero_le _, (show St X w _ [aP.blk bc 213 [.int .i64 aED]] [aP.blk ZM 30 ((yH bits dp B sb (0)).flatMap kc), aP.blk b3 35 (fT kd dp lk lv B sl)] [kK v23 ((bitsOf B 256).map xS), fB sl sb] from by exact H.uB [0, 4])⟩ ?_
 intro i γ0 w7 hI
 try dsimp only at hI
 obtain ⟨hi, H⟩ := hI
 refine WE.aA (WL.pv (PV.lss rfl rfl rfl) rfl (WL.nil (WE.seq ?_)))
 refine WE.cond rfl (fun SY => ?_) (fun SY => ?_)
 ·
  try simp only [bW] at SY
  have hlt : i < (bitsOf B 256).length := by (rw [List.length_map] at SY; omega)
  have x7 : i < sb.length := by omega
  have hsi := hp.sl _ (List.getElem_mem x7)
  have SN := hp.lt _ (List.getElem_mem hlt)
  have hel := FX bits dp B sb i
  refine WE.skip (WE.seq (WE.block (WE.aA (WL.mv rfl rfl ?_))))
  refine WL.pv (PV.eA rfl (by exact (H.p 0 rfl : (kK v23 ((bitsOf B 256).map xS)) _)) EC sz3 rfl rfl (by omega) (by rw [List.length_map]; omega)) rfl ?_
  refine WL.aY rfl pR rfl rfl ((aB9 (by exact (H.p 0 rfl : (kK v23 ((bitsOf B 256).map xS)) _)) i hlt)) ?_
  refine WL.as rfl rfl (WL.as rfl rfl (WL.nil (WE.dY (WL.mv rfl rfl (WL.mv rfl rfl (WL.pv (PV.fieldAddr rfl nH rfl) rfl ?_))))))
  refine WL.aY rfl u5 rfl rfl (by exact aN.aF (H.l 1 rfl) (aK.r (aK.r (aK.r (aK.r (aK.all _) (by with_reducible rfl)) (by with_reducible rfl)) (by with_reducible rfl)) (by with_reducible rfl)) (by simp [aI, aQ, *])) ?_
  refine WL.mv rfl rfl ?_
  refine WL.pv (PV.eA rfl (by exact (H.p 1 rfl : (fB sl sb) _)) oU c9 rfl rfl (by omega) (by omega)) rfl ?_
  refine WL.bE rfl fO rfl rfl ((fB.rd (by exact (H.p 1 rfl : (fB sl sb) _)) hp.sl i x7)) (cK c9 (by simp only [aS, aX, aB, aD]; omega)) ?_
  refine WL.pv (PV.eq (v' := .pointer (some ⟨ZM, (bitsOf B 256)[i] * 32, none⟩)) (PV.sY rfl oU c9 rfl rfl (by omega) (by omega)) (by simp)) rfl ?_
  refine WL.aW H 0 rfl rfl rfl (new := kc sb[i]) rfl (cK c9 (by simp only [aS, aX, aB, aD]; omega)) (by exact bG _) (by have h_ := oE (C := kc) (yH bits dp B sb i) (TT hp.sl i) [] (i := (bitsOf B 256)[i]) (x := sb[i]) (by rw [FX]; exact SN) (by rw [aI]; exact hsi) rfl; rw [List.append_nil, List.append_nil] at h_; exact h_) rfl ?_
  intro w8 H
  refine WL.nil (WE.dY ?_)
  refine WL.pv (PV.eq (v' := .int .i64 ((i + 1 : Nat) : Int)) (PV.bT rfl rfl rfl (by omega) (by omega)) (by rfl)) rfl ?_
  refine WL.mv rfl rfl (WL.nil ?_)
  exact ⟨i + 1, (by repeat (first | with_reducible exact bM.refl _ _ | refine bM.dD rfl ?_ | refine bM.bY rfl ?_ | refine bM.bV rfl ?_)), ⟨rfl, trivial⟩, rfl, ⟨by omega, H.conv (by rw [← N5 hlt x7]; rfl)⟩, (by omega)⟩
 ·
  try simp only [bW] at SY
  have tO : i = (bitsOf B 256).length := by (rw [List.length_map] at SY; omega)
  refine WE.exit (WE.aA (WL.mv rfl rfl (WL.as rfl rfl (WL.as rfl rfl (WL.nil (WE.ret ⟨[_, _], _, .nil _, ⟨rfl, rfl, trivial⟩, ?_⟩))))))
  subst tO
  rw [TU hp.gH] at H
  replace H := H.freeze (i := 0) rfl
  refine ⟨_, _, rfl, H.cR, H.o 0 rfl, (H.fV (H.bK 0 rfl)).imp fun _ h => ?_⟩
  have h_ := cN.bZ (n := dp) h (by rw [dB _ (fun k hk => by rw [aI]; exact yI hp.sl k hk), tH])
  unfold fB; rw [tH]; exact h_
theorem N1 {X : Nat → Prop} {w : World} {kd dp : Nat} {lk lv B : List UInt8} {sl : Value} (hX : cY X w) (mN : lk.length = 32) (hlv : lv.length = 32) (pU : B.length = 32) (hs1 : sl.oneCell' = true) :
  bC prog 214 [.agg (fT kd dp lk lv B sl).toArray].toArray w fun v w' => Out Nil w w' ∧ aJ X (bJ v (eS kd lk lv)) w' := by
 refine bC.aH (N := 10) func214 rfl rfl (by simp) ?_
 have H := St.begin hX
 have vS : (fT kd dp lk lv B sl).length = 99 := gQ mN hlv pU
 refine WE.aA ?_
 refine WL.box (l := fT kd dp lk lv B sl) H rfl rfl rfl ?_
 intro b1 w1 H
 refine WL.as rfl rfl (WL.nil (WE.seq (WE.aA (WL.pv (PV.fieldAddr rfl nI rfl) rfl (WL.aY rfl pR rfl rfl (aN.aF (H.l 0 rfl) (aK.l (aK.all _)) rfl) (WL.pv (PV.eql rfl rfl rfl) rfl (WL.nil ?_)))))))
 refine WE.cond rfl (fun uO => ?_) (fun uO => ?_)
 ·
  try simp only [bW] at uO
  have wG : kd = 1 := by omega
  have he : eS kd lk lv = 0 :: (lk ++ lv) := if_pos wG
  refine WE.aA (WL.pv (PV.fieldAddr rfl pD rfl) rfl ?_)
  refine WL.bE rfl GN rfl rfl (aN.aF (H.l 0 rfl) (aK.r (aK.r (aK.l (aK.all _)) rfl) rfl) rfl) (cK wX (by simp only [aS, aX, aB, aD]; omega)) ?_
  refine WL.call aA3 rfl (VN (k := lk) (l := lv) H.aR mN hlv) ?_
  rintro v8 w2 ⟨hO, hR⟩
  replace H := (H.out hO).add hR
  refine WL.as rfl rfl (WL.nil (WE.ret ⟨[_], _, .nil _, ⟨rfl, trivial⟩, ?_⟩))
  exact ⟨H.aL, by rw [he]; exact H.gF (H.bK 0 rfl)⟩
 ·
  try simp only [bW] at uO
  have PI : ¬ kd = 1 := by omega
  have he : eS kd lk lv = [3] := if_neg PI
  refine WE.skip (WE.aA ?_)
  refine WL.call aFX rfl (MJ H.aR) ?_
  rintro v9 w3 ⟨hO, hR⟩
  replace H := (H.out hO).add hR
  refine WL.as rfl rfl (WL.nil (WE.ret ⟨[_], _, .nil _, ⟨rfl, trivial⟩, ?_⟩))
  exact ⟨H.aL, by rw [he]; exact H.gF (H.bK 0 rfl)⟩
def aBS (C : Nat → Prop) (w : World) (l : Nat) (W : World) (S : World → Prop) : EPost
 | .normal, _, _, W' => aBw C w l W W' ∧ S W'
 | _, _, _, _ => False
theorem WE.aBW {P : Program} {N : Nat} {σ : Env} {ds : List Deferred} {w : World} {g : Operand} {ps : List Tmp} {assign body : Code} {Q : EPost}
  {gf : FuncId} {gfn : Func} {fs cs : List Value} {n : Nat} {V : Nat → List Value → World → Prop} {C : Nat → Prop} (S : Nat → World → Prop)
  (hg : ev σ g = .func (.func gf) fs.toArray cs.toArray) (hb : Body P gf gfn) (hC : ∀ b, C b → b < w.heap.size)
  (R6 : ∀ W0, Out Nil w W0 → VA P gf fs cs n V (fun b => C b ∨ (w.heap.size ≤ b ∧ b < W0.heap.size)) W0) (hV : ∀ i xs W, V i xs W → xs.length = ps.length)
  (start : ∀ W1, Out Nil w W1 → w.heap.size + 2 ≤ W1.heap.size → W1.heap[w.heap.size]? = some (.deferred (some [])) → S 0 W1)
  (calm : ∀ i W W', S i W → Out (· = w.heap.size + 1) W W' → S i W')
  (round : ∀ (i : Nat) (xs : List Value) (W : World), i < n → S i W → V i xs W → w.heap.size + 2 ≤ W.heap.size →
   WE (some (w.heap.size + 1)) P N assign (fun e σ1 ds1 W' => e = .normal ∧ ds1 = [] ∧ Out Nil W W' ∧ ∀ Wb, Out (· = w.heap.size + 1) W' Wb → WE (some (w.heap.size + 1)) P N body (aBS C w (w.heap.size + 1) Wb (S (i + 1))) σ1 [] Wb) (uA N σ ps xs) [] W)
  (done : ∀ W', S n W' → Q .normal σ ({ target := .collected w.heap.size, args := #[] } :: ds) W') :
  WE none P N (.rangeFunc g ps.toArray assign body) Q σ ds w := fun a ha => by
 refine wpIn_rangeFunc ?_
 intro fn _
 obtain ⟨rec, kE⟩ : ∃ rec : LoopState → Option Code → Loop, rec = fun st pe => { state := st, pending := pe, fn, tmps := a.tmps, params := ps.toArray, assign, body, defers := w.heap.size } := ⟨_, rfl⟩
 obtain ⟨W1, FI⟩ : ∃ W1, (w.alloc (.deferred (some []))).alloc (.loop (rec .ready none)) = W1 := ⟨_, rfl⟩
 have DT : Out Nil w W1 := by rw [← FI]; exact (Out.alloc _ _).trans (Out.alloc _ _)
 have hsz : W1.heap.size = w.heap.size + 2 := by rw [← FI]; simp
 have hL1 : W1.heap[w.heap.size + 1]? = some (.loop (rec .ready none)) := by
  rw [← FI]; have := World.alloc_heap_new (w.alloc (.deferred (some []))) (.loop (rec .ready none)); rwa [World.size_alloc] at this
 have hK1 : W1.heap[w.heap.size]? = some (.deferred (some [])) := by
  rw [← FI]; exact (Below.heap_alloc _ _ _ (by simp)).trans (World.alloc_heap_new w _)
 refine ⟨w.heap.size + 1, [{ target := .collected w.heap.size, args := #[] }], W1, { target := .fn (.func gf) cs.toArray, args := (fs ++ [Value.func (.yield (w.heap.size + 1)) #[] #[]]).toArray }, W1, gf,
  (fs ++ [Value.func (.yield (w.heap.size + 1)) #[] #[]] ++ cs).toArray, W1, ?_, ?_, ?_, ?_, (fun h => (by cases h)), ?_⟩
 ·
  rw [← FI, kE]; exact run_enterLoop_outer _ _ _ _ _
 ·
  have e : a.eval g = .func (.func gf) fs.toArray cs.toArray := by rw [ha.eval]; exact hg
  simp only [resolve, e]
  simp [Deferred.ofValue]
  rfl
 ·
  intro _ _; trivial
 ·
  have := fW hb (fs ++ [Value.func (.yield (w.heap.size + 1)) #[] #[]] ++ cs).toArray W1
  simp only [invoke, List.append_toArray]
  exact this
 obtain ⟨B, hB⟩ : ∃ B : World → Prop, B = fun W => W.os = w.os ∧ W.tape = w.tape ∧ W.output = w.output ∧ w.heap.size + 2 ≤ W.heap.size ∧ ∀ b, b < w.heap.size → ¬ C b → W.heap[b]? = w.heap[b]? := ⟨_, rfl⟩
 have hBo : ∀ M W W', B W → Out M W W' → (∀ b, b < w.heap.size → ¬ M b) → B W' := fun M W W' h ho hM => by
  rw [hB] at h ⊢
  obtain ⟨h1, h2, h3, h4, h5⟩ := h
  exact ⟨ho.os.trans h1, ho.tape.trans h2, ho.output.trans h3, Nat.le_trans h4 ho.size, fun b hb hc => (ho.block b (by omega) (hM b hb)).trans (h5 b hb hc)⟩
 have zU : B W1 := by rw [hB]; exact ⟨DT.os, DT.tape, DT.output, by omega, fun b hb _ => DT.block b hb id⟩
 have x8 := R6 W1 DT (.func (.yield (w.heap.size + 1)) #[] #[]) (fun i W => S i W ∧ W.heap[w.heap.size + 1]? = some (.loop (rec .ready none)) ∧ B W)
  (fun _ => False)
  ⟨start W1 DT (by omega) hK1, hL1, zU⟩
  (by
   rintro i W W' ⟨h1, h2, h3⟩ ho
   have h4 : w.heap.size + 2 ≤ W.heap.size := by rw [hB] at h3; exact h3.2.2.2.1
   exact ⟨calm i W W' h1 (ho.mono fun _ _ h => h.elim), (ho.block _ (by omega) id).trans h2, hBo _ W W' h3 ho (fun _ _ h => h)⟩)
  (fun _ _ h _ => h)
  (by
   rintro i xs W W2 hi ⟨hS0, hl0, hB0⟩ hout IZ
   have h40 : w.heap.size + 2 ≤ W.heap.size := by rw [hB] at hB0; exact hB0.2.2.2.1
   have hS2 := calm i W W2 hS0 (hout.mono fun _ _ h => h.elim)
   have hl : W2.heap[w.heap.size + 1]? = some (.loop (rec .ready none)) := (hout.block _ (by omega) id).trans hl0
   have tT := hBo _ W W2 hB0 hout (fun _ _ h => h)
   have h42 : w.heap.size + 2 ≤ W2.heap.size := by rw [hB] at tT; exact tT.2.2.2.1
   have hv : V i xs W2 := IZ.here
   have hlt := (Array.getElem?_eq_some_iff.1 hl).1
   refine .inr ⟨w.heap.size + 1, fn, (ps.toArray.zip xs.toArray).foldl (fun tmps (p : Tmp × Value) => tmps.setIfInBounds p.1 p.2) a.tmps, assign, body, rfl, ?_, ?_⟩
   ·
    have := run_yield (P := P) (args := xs.toArray) hl (by rw [kE]; simpa using hV i xs W2 hv)
    rw [this, kE]
   ·
    refine roundIn_of_wpIn trivial ?_
    have ez : ((ps.toArray.zip xs.toArray).foldl (fun tmps (p : Tmp × Value) => tmps.setIfInBounds p.1 p.2) a.tmps) = ((ps.zip xs).foldl (fun tmps (p : Tmp × Value) => tmps.setIfInBounds p.1 p.2) a.tmps) := by
     rw [← Array.foldl_toList]; simp
    show Code.wpIn _ _ _ _ _ { tmps := ((ps.toArray.zip xs.toArray).foldl (fun tmps (p : Tmp × Value) => tmps.setIfInBounds p.1 p.2) a.tmps), defers := [] } _
    rw [ez]
    have aIO := round i xs W2 hi hS2 hv h42
    have hh := aIO _ (mL.uA ps xs σ [] { tmps := a.tmps, defers := [] } ⟨ha.size, ha.env, rfl⟩)
    refine wpIn_mono (F := FW (some (w.heap.size + 1))) hh ?_
    rintro e a1 W3 ⟨hs1, rfl, DR, hO3, FH⟩
    have hl3 : W3.heap[w.heap.size + 1]? = some (.loop (rec .ready none)) := (hO3.block _ (by omega) id).trans hl
    have hlt3 := (Array.getElem?_eq_some_iff.1 hl3).1
    have hB3 := hBo _ W2 W3 tT hO3 (fun _ _ h => h)
    obtain ⟨Wb, tQ⟩ : ∃ Wb, W3.putObj (w.heap.size + 1) (.loop { rec .ready none with state := .busy }) = Wb := ⟨_, rfl⟩
    have NP : Out (· = w.heap.size + 1) W3 Wb := by rw [← tQ]; exact fM _
    have FA : Wb.heap[w.heap.size + 1]? = some (.loop { rec .ready none with state := .busy }) := by rw [← tQ]; exact World.putObj_heap_same hlt3
    have hBb := hBo _ W3 Wb hB3 NP (fun b hb h => by omega)
    refine ⟨_, run_beginRound hl3 (by rw [kE]), ?_⟩
    rw [tQ]
    have hbd := FH Wb NP a1 ⟨hs1, rfl, DR⟩
    refine wpIn_mono (F := FW (some (w.heap.size + 1))) hbd ?_
    rintro e a4 W4 ⟨hs4, hq⟩
    cases e with
    | normal =>
     obtain ⟨hk, hS4⟩ := hq
     have V9 : W4.heap[w.heap.size + 1]? = some (.loop { rec .ready none with state := .busy }) := hk.loop.trans FA
     have I3 := (Array.getElem?_eq_some_iff.1 V9).1
     have ho5 : Out (· = w.heap.size + 1) W4 (W4.putObj (w.heap.size + 1) (.loop (rec .ready none))) := fM _
     have hB4 : B W4 := by
      rw [hB] at hBb ⊢
      obtain ⟨h1, h2, h3, h4, h5⟩ := hBb
      exact ⟨hk.os.trans h1, hk.tape.trans h2, hk.output.trans h3, hk.size, fun b hb hc => (hk.old b hb hc).trans (h5 b hb hc)⟩
     have hB5 := hBo _ W4 _ hB4 ho5 (fun b hb h => by omega)
     refine ⟨_, W4.putObj (w.heap.size + 1) (.loop (rec .ready none)), ?_, _, rfl, ?_, .inl ⟨rfl, calm _ _ _ hS4 ho5, World.putObj_heap_same I3, hB5⟩⟩
     ·
      have := run_endRound (P := P) none V9
      rw [kE] at this ⊢
      exact this
     ·
      rw [hB] at hB5
      obtain ⟨h1, h2, h3, h4, h5⟩ := hB5
      refine ⟨h1.trans DT.os.symm, h2.trans DT.tape.symm, h3.trans DT.output.symm, by omega, fun b hb => hb.elim, fun b hb hc _ => ?_⟩
      rcases Nat.lt_or_ge b w.heap.size with E9 | hge
      ·
       exact (h5 b E9 fun h => hc (.inl h)).trans (DT.block b E9 id).symm
      ·
       exact absurd (show C b ∨ (w.heap.size ≤ b ∧ b < W1.heap.size) from .inr ⟨hge, hb⟩) hc
    | ret => exact hq.elim
    | exit id => exact hq.elim
    | goto t => exact hq.elim
    | panic c => exact hq.elim
    | outgrown => exact hq.elim)
  (.inr ⟨_, _, _, rfl⟩)
 refine CallsIn.mono (F := FW none) (n := 0) x8 ?_
 rintro e W2 ⟨v, rfl, _, ⟨hS, hl, _⟩ | h⟩
 ·
  refine ⟨none, _, by have := run_endLoop (P := P) hl (by rw [kE]; simp); rw [kE] at this; exact this, ?_⟩
  have hd := done _ (calm _ _ _ hS (fM (W := W2) (l := w.heap.size + 1) (.loop { rec .ready none with state := .exhausted })))
  refine ⟨ha.size, ?_⟩
  rw [kE] at hd
  have e1 : gL { a with defers := [{ target := .collected w.heap.size, args := #[] }] ++ a.defers } = σ := ha.env
  show Q .normal (gL _) _ _
  rw [e1]
  simp only [ha.defers, List.singleton_append]
  exact hd
 ·
  exact h.elim
def aHu (ds : List (List UInt8)) (j : Nat) (xs : List Value) (_ : World) : Prop := ∃ h : ds.length - 1 - j < ds.length, xs = [.int .i64 ((ds.length - 1 - j : Nat) : Int), .agg (kc ds[ds.length - 1 - j]).toArray]
theorem G0 {X : Nat → Prop} {w : World} {s : Value} {ds : List (List UInt8)} (hX : cY X w) (bU : aJ X (fB s ds) w) :
  bC prog 215 [s].toArray w fun r w' => ∃ b1, r = .func (.func 220) [].toArray [.pointer (some ⟨b1, 0, none⟩)].toArray ∧ Out Nil w w' ∧ aJ X (fun w => dA w ⟨b1, 0, none⟩ [s]) w' := by
 refine bC.aH (N := 4) func215 rfl rfl (by simp) ?_
 have H := (St.begin hX).add (cE bU)
 refine WE.aA ?_
 refine WL.box (l := [s]) H rfl (cN.cells (H.p 0 rfl)) rfl ?_
 intro b1 w1 H
 refine WL.as rfl rfl (WL.nil (WE.aA (WL.pv (PV.makeFunc rfl) rfl (WL.as rfl rfl (WL.nil (WE.ret ⟨[_], _, .nil _, ⟨rfl, trivial⟩, ?_⟩))))))
 replace H := H.freeze (i := 0) rfl
 exact ⟨_, rfl, H.aL, H.gF ((H.bK 0 rfl).imp fun _ h => h.rd)⟩
theorem OO {C : Nat → Prop} {w : World} {b1 : Nat} {s : Value} {ds : List (List UInt8)} (hC : ∀ b, C b → b < w.heap.size) (bU : aJ C (fun w => dA w ⟨b1, 0, none⟩ [s]) w) (dI : aJ C (fB s ds) w) (uM : ∀ d ∈ ds, d.length = 32) (hlen : ds.length ≤ 1000000) : VA prog 220 [] [.pointer (some ⟨b1, 0, none⟩)] (ds.length) (aHu ds) C w := by
 intro f J Jx hJ0 j3 NO iH hf
 show bC prog 220 ([f, .pointer (some ⟨b1, 0, none⟩)] : List Value).toArray w _
 refine bC.aH (N := 19) func220 rfl rfl (by simp) ?_
 have H := ((St.begin (X := C) hC).add (cE dI)).add (cE bU)
 refine WE.aA (WL.aY rfl u5 rfl rfl (H.p 0 rfl) (WL.pv (PV.dR (H.p 1 rfl : fB s ds _) oU rfl) rfl ?_))
 refine WL.pv (PV.eq (v' := .int .i64 (((ds.length - 0 : Nat) : Int) - 1)) (PV.gC rfl rfl rfl (by omega) (by omega)) rfl) rfl ?_
 refine WL.as rfl rfl (WL.nil (WE.block ?_))
 refine WE.loop (α := Nat) (rg [(3, 1), (7, 12)]) (fun j => [(3, .int .i64 (((ds.length - j : Nat) : Int) - 1))]) (fun j wl => j ≤ ds.length ∧ J j wl ∧ St C wl wl [] [] [fun w => dA w ⟨b1, 0, none⟩ [s], fB s ds]) (fun j => ds.length - j) 0 ⟨rfl, trivial⟩ ⟨Nat.zero_le _, hJ0, H⟩ ?_
 intro j γ0 w1 hI
 try dsimp only at hI
 obtain ⟨hj, hJ, H⟩ := hI
 have CN : ∃ HI, HI = w1 := ⟨_, rfl⟩
 obtain ⟨HI, CN⟩ := CN
 rw [← CN] at hJ H ⊢
 clear CN
 refine WE.seq (WE.aA (WL.mv rfl rfl (WL.pv (PV.geq rfl rfl rfl) rfl (WL.nil ?_))))
 refine WE.cond rfl (fun lT => ?_) (fun lT => ?_)
 ·
  try simp only [bW] at lT
  have hlt : j < ds.length := by omega
  have hkj := uM _ (List.getElem_mem (show ds.length - 1 - j < ds.length by omega))
  have PJ : ((ds.length - j : Nat) : Int) - 1 = ((ds.length - 1 - j : Nat) : Int) := by omega
  rw [PJ]
  refine WE.skip (WE.seq (WE.block (WE.aA (WL.mv rfl rfl (WL.mv rfl rfl (WL.aY rfl u5 rfl rfl (H.p 0 rfl) (WL.mv rfl rfl ?_)))))))
  refine WL.pv (PV.eA rfl (H.p 1 rfl : fB s ds _) oU c9 rfl rfl (by omega) (by omega)) rfl ?_
  refine WL.bE rfl fO rfl rfl (fB.rd (H.p 1 rfl) uM (ds.length - 1 - j) (by omega)) (cK c9 (by simp only [aS, aX, aB, aD]; omega)) ?_
  refine WL.iW rfl rfl (iH j _ HI _ (by omega) hJ H.aL (aJ.pure ⟨by omega, rfl⟩)) ?_
  rintro _ w2 ⟨hk, ⟨rfl, hJ⟩ | ⟨rfl, hJ⟩⟩
  ·
   replace H := St.JU (Ps := [fun w => dA w ⟨b1, 0, none⟩ [s], fB s ds]) hC hk (fun _ h => h.elim) (by intro p hp; simp at hp; rcases hp with rfl | rfl <;> assumption)
   refine WL.pv (PV.not rfl rfl) rfl (WL.nil (WE.jB rfl (WE.skip (WE.dY (WL.mv rfl rfl ?_)))))
   refine WL.pv (PV.eq (v' := .int .i64 (((ds.length - (j + 1) : Nat) : Int) - 1)) (PV.gC rfl rfl rfl (by omega) (by omega)) (by congr 1; omega)) rfl ?_
   refine WL.as rfl rfl (WL.nil ?_)
   exact ⟨j + 1, (by repeat (first | with_reducible exact bM.refl _ _ | refine bM.dD rfl ?_ | refine bM.bY rfl ?_ | refine bM.bV rfl ?_)), ⟨rfl, trivial⟩, rfl, ⟨by omega, hJ, H⟩, (by omega)⟩
  ·
   refine WL.pv (PV.not rfl rfl) rfl (WL.nil (WE.lN rfl (WE.ret ?_)))
   refine ⟨[], _, .nil _, trivial, ?_⟩
   exact ⟨rfl, .inr hJ⟩
 ·
  try simp only [bW] at lT
  have hj_ : j = ds.length := by omega
  refine WE.exit ?_
  refine ⟨[], _, .nil _, trivial, ?_⟩
  subst hj_
  exact ⟨rfl, .inl (j3 _ _ _ hJ H.aL)⟩
def fF (bits : Int) (k : List UInt8) (ds : List (List UInt8)) (e : List UInt8) : Nat → List UInt8
 | 0 => e
 | j + 1 => sD bits k (ds.length - 1 - j) (ds.getD (ds.length - 1 - j) []) (fF bits k ds e j)
theorem L6 {bits : Int} {k : List UInt8} {ds : List (List UInt8)} {e : List UInt8} : ∀ j, j ≤ ds.length → upD bits k ds (ds.length - j) (fF bits k ds e j) = upD bits k ds ds.length e
 | 0, _ => rfl
 | j + 1, h => by
  rw [← L6 j (by omega), show ds.length - j = (ds.length - 1 - j) + 1 by omega, show ds.length - (j + 1) = ds.length - 1 - j by omega]
  rfl
theorem UL {bits : Int} {k : List UInt8} {ds : List (List UInt8)} {e : List UInt8} : fF bits k ds e ds.length = upD bits k ds ds.length e := by
 have h := L6 (bits := bits) (k := k) (e := e) ds.length (Nat.le_refl _)
 rw [Nat.sub_self] at h
 exact h
theorem MZ (bits : Int) (k : List UInt8) (d : Nat) (s b : List UInt8) : (sD bits k d s b).length = 32 := by
 unfold sD vD
 split <;> exact cA _ _
theorem oJ {bits : Int} {k : List UInt8} {ds : List (List UInt8)} {e : List UInt8} (he : e.length = 32) : ∀ j, (fF bits k ds e j).length = 32
 | 0 => he
 | j + 1 => MZ _ _ _ _ _
def aIf (L7 : Nat → List UInt8) (i : Nat) (xs : List Value) (_ : World) : Prop := ∃ s, xs = [s, .agg (kc (L7 i)).toArray]
def PG (b : Nat) (x y : List UInt8) : List UInt8 := if b = 0 then y else x
def PE (b : Nat) (x y : List UInt8) : List UInt8 := if b = 0 then x else y
theorem XJ {b : Nat} {x y : List UInt8} (hx : x.length = 32) (hy : y.length = 32) : (PG b x y).length = 32 := by unfold PG; split <;> assumption
theorem XI {b : Nat} {x y : List UInt8} (hx : x.length = 32) (hy : y.length = 32) : (PE b x y).length = 32 := by unfold PE; split <;> assumption
theorem XH {b : Nat} {x y : List UInt8} (hb : b < 2) (hx : x.length = 32) (hy : y.length = 32) : Laid (kc x ++ kc x) (b * 32) (kc y) (kc (PG b x y) ++ kc (PE b x y)) := by
 unfold PG PE
 rcases Nat.lt_or_ge b 1 with h | h
 ·
  have h0 : b = 0 := by omega
  subst h0
  rw [if_pos rfl, if_pos rfl]
  exact Laid.left (Laid.all (by rw [aI, aI, hx, hy]))
 ·
  have h1 : b = 1 := by omega
  subst h1
  rw [if_neg (by decide), if_neg (by decide)]
  exact Laid.right (Laid.all (by rw [aI, aI, hx, hy])) (by rw [aI, hx])
theorem WY {bits : Int} {k : List UInt8} {d : Nat} {s b : List UInt8} : sD bits k d s b = vD bits (PG (bI k d) s b) (PE (bI k d) s b) := by
 unfold sD PG PE
 split <;> rfl
theorem z7.one {f : Value} (h : z7 f) : f.oneCell' = true := by
 rcases h with ⟨g, a, b, rfl⟩ | ⟨l, a, b, rfl⟩ <;> rfl
theorem uG : ∀ (es : List aP) (ns : List Nat), es.map aP.fp = ns.map (fun n => (· = n)) → ns.Nodup → es.Pairwise aP.rK
 | [], _, _, _ => .nil
 | e :: es, [], h, _ => by simp at h
 | e :: es, n :: ns, h, hn => by
  injection h with h1 h2
  have hn' := List.nodup_cons.1 hn
  refine List.pairwise_cons.2 ⟨fun e' he' x hx => ?_, uG es ns h2 hn'.2⟩
  have hx1 : x = n := by have h3 := hx.1; rw [h1] at h3; exact h3
  obtain ⟨n', V8, hn2⟩ : ∃ n', n' ∈ ns ∧ e'.fp = (· = n') := by
   have h4 : e'.fp ∈ es.map aP.fp := List.mem_map_of_mem he'
   rw [h2] at h4
   obtain ⟨n', h5, h6⟩ := List.mem_map.1 h4
   exact ⟨n', h5, h6.symm⟩
  have hx2 : x = n' := by have h3 := hx.2; rw [hn2] at h3; exact h3
  exact hn'.1 (by rw [← hx1, hx2]; exact V8)
theorem St.HU {C C' : Nat → Prop} {w w1 W : World} {O1 L1 : List aP} {Ps : List (World → Prop)} (H1 : St C w w1 O1 L1 Ps) (ho : vL C' w1 W) (hC' : ∀ b, C' b → YY C O1 L1 b) (O : List aP) (hO : ∀ e ∈ O, e.ok W) (hd : O.Pairwise aP.rK)
  (hY : ∀ e ∈ O, ∀ b, b < w1.heap.size → e.fp b → YY C O1 L1 b) : St C W W O [] Ps := by
 refine St.start (fun b hb => Nat.lt_of_lt_of_le (H1.AA b hb) (Nat.le_trans H1.size ho.size)) hO hd fun p hp w'' hw => (H1.iZ p hp) w'' fun b hb hn => ?_
 refine (hw b (Nat.lt_of_lt_of_le hb ho.size) fun h => ?_).trans (ho.old b hb fun hc => hn (hC' b hc))
 rcases h with h | ⟨e, he, h⟩ | ⟨_, h, _⟩
 ·
  exact hn (.inl h)
 ·
  exact hn (hY e he b hb h)
 ·
  cases h
def CW (C : Nat → Prop) (bc b6 b7 : Nat) : Nat → Prop := fun b => C b ∨ b = bc ∨ b = b6 ∨ b = b7
structure rH (C : Nat → Prop) (w w1 : World) (bc b6 b7 : Nat) (J : (Nat → Prop) → Nat → World → Prop) (L7 : Nat → List UInt8) (T : Nat → Prop) (i : Nat) (W : World) : Prop where
 j : J T i W
 tb : ∀ b, b = bc ∨ (w.heap.size ≤ b ∧ b < w1.heap.size + 2) → T b
 tl : ∀ b, T b → b = bc ∨ w.heap.size ≤ b
 IF : vL (CW C bc b6 b7) w1 W
 sz : w1.heap.size + 2 ≤ W.heap.size
 d : W.heap[w1.heap.size]? = some (.deferred (some []))
 c : ∃ m : Int, aN W bc 213 [.int .i64 m]
 s : ∃ s : Value, s.oneCell' = true ∧ aN W b6 41 [s]
 e : aN W b7 30 (kc (L7 i))
section
variable {C : Nat → Prop} {w w1 W W' Wl : World} {bc b6 b7 : Nat} {J : (Nat → Prop) → Nat → World → Prop} {L7 : Nat → List UInt8} {T T' : Nat → Prop} {i : Nat} {lc l7 l6 : List Value} {Ps : List (World → Prop)}
theorem rH.step (j3 : ∀ T T' i W W', J T i W → Out T W W' → (∀ b, T b → T' b) → (∀ b, T' b → T b ∨ (W.heap.size ≤ b ∧ b < W'.heap.size)) → J T' i W') (h : rH C w w1 bc b6 b7 J L7 T i W)
  (hl : bc < w1.heap.size ∧ b6 < w1.heap.size ∧ b7 < w1.heap.size) (h0 : w.heap.size ≤ w1.heap.size) (ho : Out (· = w1.heap.size + 1) W W') (h1 : ∀ b, T b → T' b) (h2 : ∀ b, T' b → T b ∨ (W.heap.size ≤ b ∧ b < W'.heap.size)) : rH C w w1 bc b6 b7 J L7 T' i W' where
 j := j3 T T' i W W' h.j (ho.mono fun b _ hb => h.tb b (.inr (by have hb' : b = w1.heap.size + 1 := hb; omega))) h1 h2
 tb := fun b hb => h1 b (h.tb b hb)
 tl := fun b hb => by
  rcases h2 b hb with h3 | h3
  ·
   exact h.tl b h3
  ·
   have := h.sz; exact .inr (by omega)
 IF := ⟨ho.os.trans h.IF.os, ho.tape.trans h.IF.tape, ho.output.trans h.IF.output, Nat.le_trans h.IF.size ho.size, fun b hb hc => (ho.block b (Nat.lt_of_lt_of_le hb h.IF.size) (fun hh => by have hh' : b = w1.heap.size + 1 := hh; omega)).trans (h.IF.old b hb hc)⟩
 sz := Nat.le_trans h.sz ho.size
 d := (ho.block _ (by have := h.sz; omega) (fun hh => by have hh' : w1.heap.size = w1.heap.size + 1 := hh; omega)).trans h.d
 c := by
  obtain ⟨m, hm⟩ := h.c
  exact ⟨m, hm.of_eq (ho.block _ hm.lt (fun hh => by have hh' : bc = w1.heap.size + 1 := hh; omega))⟩
 s := by
  obtain ⟨s, hs, hm⟩ := h.s
  exact ⟨s, hs, hm.of_eq (ho.block _ hm.lt (fun hh => by have hh' : b6 = w1.heap.size + 1 := hh; omega))⟩
 e := h.e.of_eq (ho.block _ h.e.lt (fun hh => by have hh' : b7 = w1.heap.size + 1 := hh; omega))
theorem rH.kept (H1 : St C w w1 [aP.blk bc 213 lc] [aP.blk b7 30 l7, aP.blk b6 41 l6] Ps) (h : rH C w w1 bc b6 b7 J L7 T i W) (hk : Kept T C w W W') : vL (CW C bc b6 b7) w1 W' := by
 have hl := hk.blk (w1.heap.size + 1) (h.tb _ (.inr (by have := H1.size; omega)))
 refine ⟨hk.os.trans H1.os.symm, hk.tape.trans H1.tape.symm, hk.output.trans H1.output.symm, by omega, fun b hb hc => ?_⟩
 rcases Nat.lt_or_ge b w.heap.size with hlt | hge
 ·
  refine (hk.old b hlt (fun h3 => hc (.inl h3)) (fun ht => ?_)).trans (H1.old b hlt fun e he h3 => ?_).symm
  ·
   rcases h.tl b ht with h4 | h4
   ·
    exact hc (.inr (.inl h4))
   ·
    omega
  ·
   rw [List.mem_singleton.1 he] at h3
   exact hc (.inr (.inl h3))
 ·
  exact (hk.blk b (h.tb b (.inr (by omega)))).2.trans (h.IF.old b hb hc)
theorem tW (H1 : St C w w1 [aP.blk bc 213 lc] [aP.blk b7 30 l7, aP.blk b6 41 l6] Ps) : bc < w1.heap.size ∧ b6 < w1.heap.size ∧ b7 < w1.heap.size :=
 ⟨(H1.o 0 (e := aP.blk bc 213 lc) rfl).lt, (H1.l 1 (e := aP.blk b6 41 l6) rfl).lt, (H1.l 0 (e := aP.blk b7 30 l7) rfl).lt⟩
theorem l4 (H1 : St C w w1 [aP.blk bc 213 lc] [aP.blk b7 30 l7, aP.blk b6 41 l6] Ps) : ∀ b, CW C bc b6 b7 b → YY C [aP.blk bc 213 lc] [aP.blk b7 30 l7, aP.blk b6 41 l6] b := fun b hb => by
 rcases hb with h | h | h | h
 ·
  exact .inl h
 ·
  exact .inr (.inl ⟨_, List.mem_cons_self, h⟩)
 ·
  exact .inr (.inr ⟨aP.blk b6 41 l6, by simp, h⟩)
 ·
  exact .inr (.inr ⟨aP.blk b7 30 l7, by simp, h⟩)
theorem D2 (H1 : St C w w1 [aP.blk bc 213 lc] [aP.blk b7 30 l7, aP.blk b6 41 l6] Ps) (ho : vL (CW C bc b6 b7) w1 W) {m : Int} {e : List UInt8} {s : Value} {x : List Value} {b9 : Nat} (hc : aN W bc 213 [.int .i64 m]) (he : aN W b7 30 (kc e)) (hs : aN W b6 41 [s])
  (hl : w1.heap.size + 1 < W.heap.size ∧ W.heap[w1.heap.size + 1]? = Wl.heap[w1.heap.size + 1]?) (hd : W.heap[w1.heap.size]? = some (.deferred (some []))) (h9 : aN W b9 30 x) (hge : w1.heap.size + 2 ≤ b9) :
  St C W W [aP.blk bc 213 [.int .i64 m], aP.blk b7 30 (kc e), aP.blk b6 41 [s], aP.sn (· = w1.heap.size + 1) Wl, aP.obj w1.heap.size (.deferred (some [])), aP.blk b9 30 x] [] Ps := by
 have hlt := tW H1
 have aIZ := H1.uI _ (List.mem_of_getElem? (i := 0) rfl) bc rfl
 have aIY := H1.kF _ (List.mem_of_getElem? (i := 0) rfl) b7 rfl
 have aIX := H1.kF _ (List.mem_of_getElem? (i := 1) rfl) b6 rfl
 have aIW : b7 ≠ b6 := fun h => e8 H1.iM (i := 0) (j := 1) (by decide) rfl rfl b7 ⟨rfl, h⟩
 refine St.HU H1 ho (l4 H1) _ ?_ (uG _ [bc, b7, b6, w1.heap.size + 1, w1.heap.size, b9] rfl (by simp; omega)) ?_
 ·
  intro x hx
  simp only [List.mem_cons, List.not_mem_nil, or_false] at hx
  rcases hx with rfl | rfl | rfl | rfl | rfl | rfl
  ·
   exact hc
  ·
   exact he
  ·
   exact hs
  ·
   intro b hb
   have hb' : b = w1.heap.size + 1 := hb
   rw [hb']; exact hl
  ·
   exact hd
  ·
   exact h9
 ·
  intro x hx b hb hf
  simp only [List.mem_cons, List.not_mem_nil, or_false] at hx
  rcases hx with rfl | rfl | rfl | rfl | rfl | rfl
  ·
   exact l4 H1 b (.inr (.inl hf))
  ·
   exact l4 H1 b (.inr (.inr (.inr hf)))
  ·
   exact l4 H1 b (.inr (.inr (.inl hf)))
  ·
   have FE : b = w1.heap.size + 1 := hf
   omega
  ·
   have FE : b = w1.heap.size := hf
   omega
  ·
   have FE : b = b9 := hf
   omega
theorem WJ {i : Nat} (H1 : St C w w1 [aP.blk bc 213 lc] [aP.blk b7 30 l7, aP.blk b6 41 l6] Ps) {Wb W4 : World} (hb : rH C w w1 bc b6 b7 J L7 T i Wb) (ho : vL (CW C bc b6 b7) w1 W') (j3 : ∀ T T' i W W', J T i W → Out T W W' → (∀ b, T b → T' b) → (∀ b, T' b → T b ∨ (W.heap.size ≤ b ∧ b < W'.heap.size)) → J T' i W') (hJ : J T (i + 1) W')
  {m : Int} {e : List UInt8} {s : Value} {x : List Value} {b9 : Nat} {L4 : List aP} {P4 : List (World → Prop)} (H : St C W' W4 [aP.blk bc 213 [.int .i64 m], aP.blk b7 30 (kc e), aP.blk b6 41 [s], aP.sn (· = w1.heap.size + 1) Wb, aP.obj w1.heap.size (.deferred (some [])), aP.blk b9 30 x] L4 P4)
  (hs : s.oneCell' = true) (h9 : T b9) (hge : w1.heap.size + 2 ≤ b9) (he : e = L7 (i + 1)) : aBw (CW C bc b6 b7) w1 (w1.heap.size + 1) Wb W4 ∧ ∃ T, rH C w w1 bc b6 b7 J L7 T (i + 1) W4 := by
 have hlt := tW H1
 have h01 := H1.size
 have hfp : ∀ b, (∃ e_ ∈ [aP.blk bc 213 [.int .i64 m], aP.blk b7 30 (kc e), aP.blk b6 41 [s], aP.sn (· = w1.heap.size + 1) Wb, aP.obj w1.heap.size (.deferred (some [])), aP.blk b9 30 x], e_.fp b) → T b ∧ (b < w1.heap.size → CW C bc b6 b7 b) := by
  rintro b ⟨x', hx, hf⟩
  have g7 := H1.kF _ (List.mem_of_getElem? (i := 0) rfl) b7 rfl
  have g6 := H1.kF _ (List.mem_of_getElem? (i := 1) rfl) b6 rfl
  simp only [List.mem_cons, List.not_mem_nil, or_false] at hx
  rcases hx with rfl | rfl | rfl | rfl | rfl | rfl
  ·
   have FE : b = bc := hf
   exact ⟨hb.tb b (.inl FE), fun _ => .inr (.inl FE)⟩
  ·
   have FE : b = b7 := hf
   exact ⟨hb.tb b (.inr (by omega)), fun _ => .inr (.inr (.inr FE))⟩
  ·
   have FE : b = b6 := hf
   exact ⟨hb.tb b (.inr (by omega)), fun _ => .inr (.inr (.inl FE))⟩
  ·
   have FE : b = w1.heap.size + 1 := hf
   exact ⟨hb.tb b (.inr (by omega)), fun _ => by omega⟩
  ·
   have FE : b = w1.heap.size := hf
   exact ⟨hb.tb b (.inr (by omega)), fun _ => by omega⟩
  ·
   have FE : b = b9 := hf
   exact ⟨FE ▸ h9, fun _ => by omega⟩
 have V9 := H.o 3 (e := aP.sn (· = w1.heap.size + 1) Wb) rfl (w1.heap.size + 1) rfl
 have hold : ∀ b, b < w1.heap.size → ¬ CW C bc b6 b7 b → W4.heap[b]? = w1.heap[b]? := fun b G7 hc =>
  (H.old b (Nat.lt_of_lt_of_le G7 ho.size) (fun e_ PJ hf => hc ((hfp b ⟨e_, PJ, hf⟩).2 G7))).trans (ho.old b G7 hc)
 refine ⟨⟨(H.os.trans ho.os).trans hb.IF.os.symm, (H.tape.trans ho.tape).trans hb.IF.tape.symm, (H.output.trans ho.output).trans hb.IF.output.symm, by omega, fun b G7 hc => (hold b G7 hc).trans (hb.IF.old b G7 hc).symm, V9.2⟩, T, ?_⟩
 exact ⟨j3 T T (i + 1) W' W4 hJ (H.mS.mono fun b _ h => (hfp b h).1) (fun _ h => h) (fun _ h => .inl h), hb.tb, hb.tl,
  ⟨H.os.trans ho.os, H.tape.trans ho.tape, H.output.trans ho.output, Nat.le_trans ho.size H.size, hold⟩, by omega, H.o 4 (e := aP.obj w1.heap.size (.deferred (some []))) rfl, ⟨m, H.o 0 rfl⟩, ⟨s, hs, H.o 2 rfl⟩, by rw [← he]; exact H.o 1 rfl⟩
end
section
variable {C : Nat → Prop} {w w1 W W' W0 W1 : World} {bc b6 b7 : Nat} {J : (Nat → Prop) → Nat → World → Prop} {L7 : Nat → List UInt8} {T : Nat → Prop} {lc l7 l6 : List Value} {Ps : List (World → Prop)}
theorem KF {p : World → Prop} (H1 : St C w w1 [aP.blk bc 213 lc] [aP.blk b7 30 l7, aP.blk b6 41 l6] Ps) (hO : Out Nil w1 W0) (i : Nat) (hp : Ps[i]? = some p) : aJ (fun b => CW C bc b6 b7 b ∨ (w1.heap.size ≤ b ∧ b < W0.heap.size)) p W0 :=
 (H1.bK i hp).out hO (fun _ _ h => h.elim) fun b hb h => by
  rcases h with h | h
  ·
   exact l4 H1 b h
  ·
   omega
theorem WK (H1 : St C w w1 [aP.blk bc 213 lc] [aP.blk b7 30 l7, aP.blk b6 41 l6] Ps) (hO : Out Nil w1 W0) : ∀ b, CW C bc b6 b7 b ∨ (w1.heap.size ≤ b ∧ b < W0.heap.size) → b < W0.heap.size := fun b hb => by
 rcases hb with h | h
 ·
  exact Nat.lt_of_lt_of_le (H1.aR b (l4 H1 b h)) hO.size
 ·
  exact h.2
theorem MT {m : Int} {e : List UInt8} {s : Value} (H1 : St C w w1 [aP.blk bc 213 [.int .i64 m]] [aP.blk b7 30 (kc e), aP.blk b6 41 [s]] Ps) (hst : ∀ T W1, Out (· = bc) w W1 → (∀ b, T b → b = bc ∨ (w.heap.size ≤ b ∧ b < W1.heap.size)) → T bc → J T 0 W1)
  (hO : Out Nil w1 W1) (hsz : w1.heap.size + 2 ≤ W1.heap.size) (hd : W1.heap[w1.heap.size]? = some (.deferred (some []))) (hs : s.oneCell' = true) (he : e = L7 0) : ∃ T, rH C w w1 bc b6 b7 J L7 T 0 W1 := by
 have hlt := tW H1
 refine ⟨fun b => b = bc ∨ (w.heap.size ≤ b ∧ b < w1.heap.size + 2), ?_, fun b hb => hb, fun b hb => hb.imp id fun h => h.1, ?_, hsz, hd, ⟨m, (H1.o 0 (e := aP.blk bc 213 [.int .i64 m]) rfl).of_eq (hO.block _ hlt.1 id)⟩, ⟨s, hs, (H1.l 1 (e := aP.blk b6 41 [s]) rfl).of_eq (hO.block _ hlt.2.1 id)⟩, he ▸ (H1.l 0 (e := aP.blk b7 30 (kc e)) rfl).of_eq (hO.block _ hlt.2.2 id)⟩
 ·
  exact hst _ _ (H1.cR.trans (hO.mono fun _ _ h => h.elim)) (fun b hb => hb.imp id fun h => ⟨h.1, by omega⟩) (.inl rfl)
 ·
  exact ⟨hO.os, hO.tape, hO.output, hO.size, fun b hb _ => hO.block b hb id⟩
theorem AB (H1 : St C w w1 [aP.blk bc 213 lc] [aP.blk b7 30 l7, aP.blk b6 41 l6] Ps) (ho : vL (CW C bc b6 b7) w1 W) {m : Int} {e : List UInt8} {s : Value} (hc : aN W bc 213 [.int .i64 m]) (he : aN W b7 30 (kc e)) (hs : aN W b6 41 [s])
  (hd : W.heap[w1.heap.size]? = some (.deferred (some []))) :
  St C W W [aP.blk bc 213 [.int .i64 m], aP.blk b7 30 (kc e), aP.blk b6 41 [s], aP.obj w1.heap.size (.deferred (some []))] [] Ps := by
 have hlt := tW H1
 have aIZ := H1.uI _ (List.mem_of_getElem? (i := 0) rfl) bc rfl
 have aIY := H1.kF _ (List.mem_of_getElem? (i := 0) rfl) b7 rfl
 have aIX := H1.kF _ (List.mem_of_getElem? (i := 1) rfl) b6 rfl
 have aIW : b7 ≠ b6 := fun h => e8 H1.iM (i := 0) (j := 1) (by decide) rfl rfl b7 ⟨rfl, h⟩
 refine St.HU H1 ho (l4 H1) _ ?_ (uG _ [bc, b7, b6, w1.heap.size] rfl (by simp; omega)) ?_
 ·
  intro x hx
  simp only [List.mem_cons, List.not_mem_nil, or_false] at hx
  rcases hx with rfl | rfl | rfl | rfl
  ·
   exact hc
  ·
   exact he
  ·
   exact hs
  ·
   exact hd
 ·
  intro x hx b hb hf
  simp only [List.mem_cons, List.not_mem_nil, or_false] at hx
  rcases hx with rfl | rfl | rfl | rfl
  ·
   exact l4 H1 b (.inr (.inl hf))
  ·
   exact l4 H1 b (.inr (.inr (.inr hf)))
  ·
   exact l4 H1 b (.inr (.inr (.inl hf)))
  ·
   have FE : b = w1.heap.size := hf
   omega
theorem WI {i : Nat} {Wb W4 : World} (H1 : St C w w1 [aP.blk bc 213 lc] [aP.blk b7 30 l7, aP.blk b6 41 l6] Ps) (hb : rH C w w1 bc b6 b7 J L7 T i Wb) {m : Int} {e : List UInt8} {s : Value} {L4 : List aP} {P4 : List (World → Prop)}
  (H : St C W' W4 [aP.blk bc 213 [.int .i64 m], aP.blk b7 30 (kc e), aP.blk b6 41 [s], aP.set (· = w1.heap.size)] L4 P4) : Out T W' W4 := by
 have hlt := tW H1
 have g7 := H1.kF _ (List.mem_of_getElem? (i := 0) rfl) b7 rfl
 have g6 := H1.kF _ (List.mem_of_getElem? (i := 1) rfl) b6 rfl
 have h01 := H1.size
 refine H.mS.mono fun b _ h => ?_
 obtain ⟨x, hx, hf⟩ := h
 simp only [List.mem_cons, List.not_mem_nil, or_false] at hx
 rcases hx with rfl | rfl | rfl | rfl
 ·
  exact hb.tb b (.inl hf)
 ·
  have FE : b = b7 := hf
  exact hb.tb b (.inr (by omega))
 ·
  have FE : b = b6 := hf
  exact hb.tb b (.inr (by omega))
 ·
  have FE : b = w1.heap.size := hf
  exact hb.tb b (.inr (by omega))
end
theorem MS {C : Nat → Prop} {w : World} {bh bc c1 c2 c3 c4 : Nat} {bits n0 : Int} {kd dp : Nat} {lk lv B k : List UInt8} {sl s : Value} {ds : List (List UInt8)} (hC : ∀ b, C b → b < w.heap.size) (eY : aN w bc 213 ([.int .i64 n0])) (bU : aJ (fun c_ => C c_ ∨ c_ = bc) (fQ bh bc bits) w) (dI : aJ (fun c_ => C c_ ∨ c_ = bc) (fun w => dA w ⟨c1, 0, none⟩ (fT kd dp lk lv B sl)) w) (fU : aJ (fun c_ => C c_ ∨ c_ = bc) (fun w => dA w ⟨c2, 0, none⟩ [.pointer (some ⟨bh, 0, none⟩)]) w) (jY : aJ (fun c_ => C c_ ∨ c_ = bc) (fun w => dA w ⟨c3, 0, none⟩ [s]) w) (o9 : aJ (fun c_ => C c_ ∨ c_ = bc) (fun w => dA w ⟨c4, 0, none⟩ (kc k)) w) (tP : aJ (fun c_ => C c_ ∨ c_ = bc) (fB s ds) w) (DP : aJ (fun c_ => C c_ ∨ c_ = bc) (aZ) w) (bS : 0 ≤ bits ∧ bits ≤ 256) (mN : lk.length = 32) (hlv : lv.length = 32) (pU : B.length = 32) (hsl : sl.oneCell' = true) (hk : k.length = 32) (uM : ∀ d ∈ ds, d.length = 32) (hlen : ds.length ≤ 256) : aHR prog 213 [] [.pointer (some ⟨c1, 0, none⟩), .pointer (some ⟨c2, 0, none⟩), .pointer (some ⟨c3, 0, none⟩), .pointer (some ⟨c4, 0, none⟩)] (ds.length + 1) (aIf (fF bits k ds (eB (cX (eS kd lk lv)) bits))) bc 213 C w := by
 intro f J hst j3 iH hf
 show bC prog 213 ([f, .pointer (some ⟨c1, 0, none⟩), .pointer (some ⟨c2, 0, none⟩), .pointer (some ⟨c3, 0, none⟩), .pointer (some ⟨c4, 0, none⟩)] : List Value).toArray w _
 refine bC.aH (N := 45) func213 rfl rfl (by simp) ?_
 have H := (((((((St.dG (X := C) (b := bc) (t := 213) (l := [.int .i64 n0]) hC eY).add (cC DP)).add (cC tP)).add (cC o9)).add (cC jY)).add (cC fU)).add (cC dI)).add (cC bU)
 have vS : (fT kd dp lk lv B sl).length = 99 := gQ mN hlv pU
 have hfo := z7.one hf
 refine WE.aA ?_
 refine WL.box (l := [f]) H rfl (cells_one hfo) rfl ?_
 intro b5 w1 H
 refine WL.nil (WE.aA ?_)
 refine WL.bE rfl nJ rfl rfl (by exact H.p 1 rfl) (cK k8 (by simp only [aS, aX, aB, aD]; omega)) ?_
 refine WL.call aGd rfl (N1 (kd := kd) (dp := dp) (lk := lk) (lv := lv) (B := B) (sl := sl) H.aR mN hlv pU hsl) ?_
 rintro v12 w2 ⟨hO, hR⟩
 have aCj := cN.fX (hR.here)
 replace H := (H.out hO).add hR
 refine WL.alloc H rfl aDI rfl ?_
 intro b6 w3 H
 refine WL.aW H 0 rfl rfl rfl (new := [v12]) (cells_one aCj) (by exact B0) (eE aCj) (Laid.at (Laid.all (by simp only [aS, aX, aB, aD])) rfl) rfl ?_
 intro w4 H
 refine WL.nil (WE.aA ?_)
 refine WL.aY rfl vX rfl rfl (by exact H.p 3 rfl) ?_
 refine WL.aY rfl eU rfl rfl (aN.aF (H.l 0 rfl) (aK.all _) rfl) ?_
 refine WL.call JE rfl (sA (la := eS kd lk lv) (bits := bits) H.aR (H.o 0 rfl) (by exact (H.aO 0 rfl 1 rfl : aJ _ (fQ bh bc bits) _)) (by exact (H.aO 0 rfl 0 rfl : aJ _ (bJ v12 (eS kd lk lv)) _)) (by exact (H.aO 0 rfl 7 rfl : aJ _ (aZ) _)) bS (by unfold eS; split <;> simp [mN, hlv])) ?_
 rintro _ w5 ⟨rfl, hO, hB⟩
 replace H := H.fA 0 rfl hO hB
 refine WL.alloc H rfl k6 rfl ?_
 intro b7 w6 H
 refine WL.aW H 0 rfl rfl rfl (new := kc (eB (cX (eS kd lk lv)) bits)) rfl (by exact c9) (bG _) (Laid.at (Laid.all (by simp only [aS, aX, aB, aD])) rfl) rfl ?_
 intro w7 H
 refine WL.nil (WE.seq (WE.aA ?_))
 refine WL.aY rfl u5 rfl rfl (by exact H.p 4 rfl) ?_
 refine WL.call aGc rfl (G0 (s := s) (ds := ds) H.aR (by exact (H.bK 6 rfl : aJ _ (fB s ds) _))) ?_
 rintro _ w8 ⟨aHr, rfl, hO, hR⟩
 replace H := (H.out hO).add hR
 refine WL.nil (WE.block ?_)
 replace H := H.freeze (i := 2) rfl
 have H1 : St C w w8 [aP.blk bc 213 [.int .i64 (IntKind.i64.wrap (n0 + 1))]] [aP.blk b7 30 (kc (eB (cX (eS kd lk lv)) bits)), aP.blk b6 41 [v12]] _ := H
 have NR := tW H1
 have aFM := H1.size
 have aFG := l4 H1
 have aE7 := H1.kF _ (List.mem_of_getElem? (i := 0) rfl) b7 rfl
 have aE8 := H1.kF _ (List.mem_of_getElem? (i := 1) rfl) b6 rfl
 refine WE.aBW (C := (CW C bc b6 b7)) (fun i W => ∃ T, rH C w w8 bc b6 b7 J (fF bits k ds (eB (cX (eS kd lk lv)) bits)) T i W) rfl aGa (fun b hb => H1.aR b (aFG b hb)) (fun W0 hO => OO (b1 := aHr) (s := s) (ds := ds) (WK H1 hO) (by exact KF H1 hO 1 rfl) (by exact KF H1 hO 8 rfl) uM (by omega)) (fun i xs W h => by obtain ⟨_, rfl⟩ := h; rfl) (fun W1 hO hsz hd => MT H1 hst hO hsz hd aCj rfl) (fun i W W2 hS ho => by obtain ⟨T, h⟩ := hS; exact ⟨T, h.step j3 NR aFM ho (fun _ h => h) (fun _ h => .inl h)⟩) ?_ ?_
 ·
  intro i xs_ Wa_ jI aJl NW aKr
  obtain ⟨Ta_, hWa⟩ := aJl
  obtain ⟨aCq, rfl⟩ := NW
  have hkx : ds[ds.length - 1 - i].length = 32 := uM _ (List.getElem_mem aCq)
  have hbl : ((fF bits k ds (eB (cX (eS kd lk lv)) bits)) i).length = 32 := oJ (cA _ _) i
  have hb2 := dX k (ds.length - 1 - i)
  have hp0 : (PG (bI k (ds.length - 1 - i)) ds[ds.length - 1 - i] ((fF bits k ds (eB (cX (eS kd lk lv)) bits)) i)).length = 32 := XJ hkx hbl
  have hp1 : (PE (bI k (ds.length - 1 - i)) ds[ds.length - 1 - i] ((fF bits k ds (eB (cX (eS kd lk lv)) bits)) i)).length = 32 := XI hkx hbl
  have aKu := hWa.sz
  have H := St.HU H1 hWa.IF aFG [] (fun _ h => by cases h) .nil (fun _ h => by cases h)
  refine WE.aA (WL.as rfl rfl (WL.nil (WE.dY ?_)))
  refine WL.alloc H rfl k6 rfl ?_
  intro b9 w9 H
  refine WL.aW H 0 rfl rfl rfl (new := kc ds[ds.length - 1 - i]) rfl (cK c9 (by simp only [aS, aX, aB, aD]; omega)) (bG _) (Laid.at (Laid.all (by simp only [aS, aX, aB, aD]; omega)) rfl) rfl ?_
  intro tM H
  refine WL.nil ?_
  have aFC := H.aL
  have aFJ : aN tM b9 30 (kc ds[ds.length - 1 - i]) := H.l 0 rfl
  have aE5 := H.kF _ (List.mem_of_getElem? (i := 0) rfl) b9 rfl
  have aAR := aFJ.lt
  refine ⟨rfl, rfl, aFC, ?_⟩
  intro Wb aCn
  have tQ := hWa.step (T' := fun b => Ta_ b ∨ b = b9) j3 NR aFM ((aFC.mono fun _ _ h => h.elim).trans aCn) (fun _ h => .inl h) (fun b h => h.imp id fun e => by subst e; exact ⟨aE5, Nat.lt_of_lt_of_le aAR aCn.size⟩)
  have hB9 : aN Wb b9 30 (kc ds[ds.length - 1 - i]) := aFJ.of_eq (aCn.block _ aAR (fun h => by have h_ : b9 = w8.heap.size + 1 := h; omega))
  obtain ⟨mb_, aFI⟩ := tQ.c
  obtain ⟨sb_, aKZ, aFK⟩ := tQ.s
  have aKt := tQ.sz
  replace H := D2 (Wl := Wb) H1 tQ.IF aFI tQ.e aFK ⟨by omega, rfl⟩ tQ.d hB9 (by omega)
  refine WE.block (WE.seq (WE.aA ?_))
  refine WL.aY rfl aBn rfl rfl (by exact (show aN _ b5 _ [f] from H.p 0 rfl).rd) ?_
  refine WL.aY rfl eU rfl rfl (aN.aF (H.o 2 rfl) (aK.all _) rfl) ?_
  refine WL.bE rfl fO rfl rfl (aN.aF (H.o 1 rfl) (aK.all _) rfl) (cK c9 (by simp only [aS, aX, aB, aD]; omega)) ?_
  refine WL.iW rfl rfl (iH _ i _ Wb Wb (by omega) tQ.j (Out.refl _ _) (aJ.pure ⟨sb_, rfl⟩)) ?_
  rintro _ Wk_ ⟨NS, rfl, aCE⟩
  have YR := tQ.kept H1 NS
  replace H := D2 (W := Wk_) (Wl := Wb) H1 YR (aFI.of_eq (NS.blk bc (tQ.tb _ (.inl rfl))).2) (tQ.e.of_eq (NS.blk b7 (tQ.tb _ (.inr ⟨aE7, by omega⟩))).2) (aFK.of_eq (NS.blk b6 (tQ.tb _ (.inr ⟨aE8, by omega⟩))).2) (NS.blk _ (tQ.tb _ (.inr ⟨by omega, by omega⟩))) ((NS.blk _ (tQ.tb _ (.inr ⟨by omega, by omega⟩))).2.trans tQ.d) (hB9.of_eq (NS.blk b9 (.inr rfl)).2) (by omega)
  refine WL.pv (PV.not rfl rfl) rfl (WL.nil ?_)
  refine WE.bD rfl rfl ?_
  refine WE.skip (WE.aA ?_)
  refine WL.bE rfl fO rfl rfl (aN.aF (H.o 5 rfl) (aK.all _) rfl) (cK c9 (by simp only [aS, aX, aB, aD]; omega)) ?_
  refine WL.bE rfl fO rfl rfl (aN.aF (H.o 5 rfl) (aK.all _) rfl) (cK c9 (by simp only [aS, aX, aB, aD]; omega)) ?_
  refine WL.pv (PV.lP rfl yV c9 PQ (Fl.cons rfl rfl (by simp only [aS, aX, aB, aD]; omega) (Laid.left (Laid.all (by simp only [aS, aX, aB, aD]; omega))) (Fl.cons rfl rfl (by simp only [aS, aX, aB, aD]; omega) (Laid.right (Laid.all (by simp only [aS, aX, aB, aD]; omega)) (by simp only [aS, aX, aB, aD]; omega)) Fl.nil))) rfl ?_
  refine WL.alloc H rfl PQ rfl ?_
  intro u0 PD H
  refine WL.aW H 0 rfl rfl rfl (new := kc ds[ds.length - 1 - i] ++ kc ds[ds.length - 1 - i]) rfl (cK aD3 (by simp only [aS, aX, aB, aD]; omega)) (by exact bN (bG _) (bG _)) (Laid.at (Laid.all (by simp only [aS, aX, aB, aD]; omega)) rfl) rfl ?_
  intro P7 H
  refine WL.nil ?_
  refine WE.bH (.take 0 (.take 1 (.take 3 (.aG 2 (.take 4 (.aG 5 .done)))))) mixed (by kernel_rfl) ?_
  replace H := H.out (Out.drew _)
  refine WP.dN rfl rfl rfl cZ rfl (by exact H.p 7 rfl) (cK cL (by simp only [aS, aX, aB, aD]; omega)) ?_
  refine WP.mv rfl rfl rfl ?_
  refine WP.dN rfl rfl rfl fO rfl (aN.aF (H.o 1 rfl) (aK.all _) rfl) (cK c9 (by simp only [aS, aX, aB, aD]; omega)) ?_
  refine WP.aG rfl ?_
  refine WL.call FR rfl (jZ (k := k) (d := ds.length - 1 - i) H.aR  (by assumption) (by omega)) ?_
  rintro _ P6 ⟨rfl, hO⟩
  replace H := H.out hO
  refine WL.nil ⟨(fa (rk hO) (fa (nw 2 0) c5)), ?_⟩
  refine WP.aC rfl rfl (PV.eq (v' := .pointer (some ⟨u0, (bI k (ds.length - 1 - i)) * 32, none⟩)) (PV.bF rfl yV c9 rfl rfl (by omega) (by omega)) (by simp)) ?_
  refine WP.aG rfl ?_
  refine WL.aW H 0 rfl rfl rfl (new := _) rfl (cK c9 (by simp only [aS, aX, aB, aD]; omega)) (bG _) (XH hb2 hkx hbl) rfl ?_
  intro P5 H
  refine WL.nil ⟨(fa (nw 5 3) (fa (nw 5 0) c5)), ?_⟩
  refine WP.done (WE.aA (WL.pv (PV.bF rfl yV c9 rfl rfl (by omega) (by omega)) rfl ?_))
  refine WL.bE rfl fO rfl rfl (aN.aF (H.l 0 rfl) (aK.l (aK.all _)) rfl) (cK c9 (by simp only [aS, aX, aB, aD]; omega)) ?_
  refine WL.pv (PV.bF rfl yV c9 rfl rfl (by omega) (by omega)) rfl ?_
  refine WL.bE rfl fO rfl rfl (aN.aF (H.l 0 rfl) (aK.r (aK.all _) rfl) (by simp [aI, aQ, *])) (cK c9 (by simp only [aS, aX, aB, aD]; omega)) ?_
  refine WL.call aA4 rfl (VK (k := (PG (bI k (ds.length - 1 - i)) ds[ds.length - 1 - i] ((fF bits k ds (eB (cX (eS kd lk lv)) bits)) i))) (l := (PE (bI k (ds.length - 1 - i)) ds[ds.length - 1 - i] ((fF bits k ds (eB (cX (eS kd lk lv)) bits)) i))) H.aR hp0 hp1) ?_
  rintro v37 w19 ⟨hO, hR⟩
  have aCi := cN.fX (hR.here)
  replace H := (H.out hO).add hR
  refine WL.lH H 2 rfl rfl rfl (new := [v37]) (cells_one aCi) (by exact B0) (eE aCi) (Laid.at (Laid.all (by simp only [aS, aX, aB, aD])) rfl) rfl ?_
  intro w20 H
  refine WL.nil (WE.dY ?_)
  refine WL.aY rfl vX rfl rfl (by exact H.p 6 rfl) ?_
  refine WL.aY rfl eU rfl rfl (aN.aF (H.o 2 rfl) (aK.all _) rfl) ?_
  refine WL.call JE rfl (sA (la := 1 :: ((PG (bI k (ds.length - 1 - i)) ds[ds.length - 1 - i] ((fF bits k ds (eB (cX (eS kd lk lv)) bits)) i)) ++ (PE (bI k (ds.length - 1 - i)) ds[ds.length - 1 - i] ((fF bits k ds (eB (cX (eS kd lk lv)) bits)) i)))) (bits := bits) H.aR (H.o 0 rfl) (by exact (H.aO 0 rfl 4 rfl : aJ _ (fQ bh bc bits) _)) (by exact (H.aO 0 rfl 0 rfl : aJ _ (bJ v37 (1 :: ((PG (bI k (ds.length - 1 - i)) ds[ds.length - 1 - i] ((fF bits k ds (eB (cX (eS kd lk lv)) bits)) i)) ++ (PE (bI k (ds.length - 1 - i)) ds[ds.length - 1 - i] ((fF bits k ds (eB (cX (eS kd lk lv)) bits)) i))))) _)) (by exact (H.aO 0 rfl 10 rfl : aJ _ (aZ) _)) bS (by simp; omega)) ?_
  rintro _ w21 ⟨rfl, hO, hB⟩
  replace H := H.fA 0 rfl hO hB
  refine WL.lH H 1 rfl rfl rfl (new := kc (eB (cX (1 :: ((PG (bI k (ds.length - 1 - i)) ds[ds.length - 1 - i] ((fF bits k ds (eB (cX (eS kd lk lv)) bits)) i)) ++ (PE (bI k (ds.length - 1 - i)) ds[ds.length - 1 - i] ((fF bits k ds (eB (cX (eS kd lk lv)) bits)) i))))) bits)) rfl (by exact c9) (bG _) (Laid.at (Laid.all (by simp only [aS, aX, aB, aD]; omega)) rfl) rfl ?_
  intro w22 H
  refine WL.nil ?_
  exact WJ H1 tQ YR j3 aCE H aCi (.inr rfl) (by omega) (by show vD bits (PG (bI k (ds.length - 1 - i)) ds[ds.length - 1 - i] ((fF bits k ds (eB (cX (eS kd lk lv)) bits)) i)) (PE (bI k (ds.length - 1 - i)) ds[ds.length - 1 - i] ((fF bits k ds (eB (cX (eS kd lk lv)) bits)) i)) = sD bits k (ds.length - 1 - i) (ds.getD (ds.length - 1 - i) []) ((fF bits k ds (eB (cX (eS kd lk lv)) bits)) i); rw [WY, e9 aCq])
 ·
  intro w23 hS_
  obtain ⟨Tz_, rU⟩ := hS_
  obtain ⟨mz_, aFH⟩ := rU.c
  obtain ⟨sz_, aKV, aAZ⟩ := rU.s
  have aKs := rU.sz
  have aLd : ((fF bits k ds (eB (cX (eS kd lk lv)) bits)) ds.length).length = 32 := oJ (cA _ _) _
  replace H := AB H1 rU.IF aFH rU.e aAZ rU.d
  refine WE.dY ?_
  refine WL.aY rfl aBn rfl rfl (by exact (show aN _ b5 _ [f] from H.p 0 rfl).rd) ?_
  refine WL.aY rfl eU rfl rfl (aN.aF (H.o 2 rfl) (aK.all _) rfl) ?_
  refine WL.bE rfl fO rfl rfl (aN.aF (H.o 1 rfl) (aK.all _) rfl) (cK c9 (by simp only [aS, aX, aB, aD]; omega)) ?_
  refine WL.iW rfl rfl (iH _ ds.length _ _ _ (by omega) rU.j (Out.refl _ _) (aJ.pure ⟨sz_, rfl⟩)) ?_
  rintro _ Wk_ ⟨NS, rfl, aCE⟩
  have YR := rU.kept H1 NS
  replace H := AB (W := Wk_) H1 YR (aFH.of_eq (NS.blk bc (rU.tb _ (.inl rfl))).2) (rU.e.of_eq (NS.blk b7 (rU.tb _ (.inr ⟨aE7, by omega⟩))).2) (aAZ.of_eq (NS.blk b6 (rU.tb _ (.inr ⟨aE8, by omega⟩))).2) ((NS.blk _ (rU.tb _ (.inr ⟨by omega, by omega⟩))).2.trans rU.d)
  refine WL.nil ?_
  (obtain ⟨w28, uL, H⟩ := H.WQ 3 rfl)
  refine ⟨[], _, (uL _ (.nil _)), trivial, ?_⟩
  exact ⟨rfl, ⟨_, H.o 0 rfl⟩, Tz_, j3 Tz_ Tz_ _ _ _ aCE (WI H1 rU H) (fun _ h => h) (fun _ h => .inl h)⟩
def aDT (c1 c2 c3 c4 : Nat) : Value := .func (.func 213) [].toArray [.pointer (some ⟨c1, 0, none⟩), .pointer (some ⟨c2, 0, none⟩), .pointer (some ⟨c3, 0, none⟩), .pointer (some ⟨c4, 0, none⟩)].toArray
theorem aBB {X : Nat → Prop} {w : World} {bh : Nat} {kd dp : Nat} {lk lv B k : List UInt8} {sl s : Value} (hX : cY X w) (mN : lk.length = 32) (hlv : lv.length = 32) (pU : B.length = 32) (hsl : sl.oneCell' = true) (hs : s.oneCell' = true) (hk : k.length = 32) :
  bC prog 208 [.pointer (some ⟨bh, 0, none⟩), .agg (fT kd dp lk lv B sl).toArray, s, .agg (kc k).toArray].toArray w fun v w' => ∃ c1 c2 c3 c4, v = aDT c1 c2 c3 c4 ∧ Out Nil w w' ∧ aJ X (fun w => dA w ⟨c1, 0, none⟩ (fT kd dp lk lv B sl)) w' ∧ aJ X (fun w => dA w ⟨c2, 0, none⟩ [.pointer (some ⟨bh, 0, none⟩)]) w' ∧ aJ X (fun w => dA w ⟨c3, 0, none⟩ [s]) w' ∧ aJ X (fun w => dA w ⟨c4, 0, none⟩ (kc k)) w' := by
 refine bC.aH (N := 10) func208 rfl rfl (by simp) ?_
 have H := St.begin hX
 refine WE.aA ?_
 refine WL.box (l := [.pointer (some ⟨bh, 0, none⟩)]) H rfl (rfl) rfl ?_
 intro b4 w1 H
 refine WL.box (l := fT kd dp lk lv B sl) H rfl rfl rfl ?_
 intro b5 w2 H
 refine WL.box (l := [s]) H rfl (cells_one hs) rfl ?_
 intro b6 w3 H
 refine WL.box (l := kc k) H rfl rfl rfl ?_
 intro b7 w4 H
 refine WL.as rfl rfl (WL.nil (WE.aA (WL.pv (PV.makeFunc rfl) rfl (WL.as rfl rfl (WL.nil (WE.ret ⟨[_], _, .nil _, ⟨rfl, trivial⟩, ?_⟩))))))
 replace H := H.freeze (i := 0) rfl
 replace H := H.freeze (i := 0) rfl
 replace H := H.freeze (i := 0) rfl
 replace H := H.freeze (i := 0) rfl
 exact ⟨_, _, _, _, rfl, H.aL, (H.gF (H.bK 1 rfl)).imp fun _ h => h.rd, (H.gF (H.bK 0 rfl)).imp fun _ h => h.rd, (H.gF (H.bK 2 rfl)).imp fun _ h => h.rd, (H.gF (H.bK 3 rfl)).imp fun _ h => h.rd⟩
theorem ZY {X : Nat → Prop} {w : World} {bh bc : Nat} {bits n0 : Int} {kd dp : Nat} {lk lv B k : List UInt8} {sl : Value} {sb : List (List UInt8)} (hX : cY X w) (eY : aN w bc 213 ([.int .i64 n0])) (bU : aJ (fun c_ => X c_ ∨ c_ = bc) (fQ bh bc bits) w) (dI : aJ (fun c_ => X c_ ∨ c_ = bc) (fB sl sb) w) (fU : aJ (fun c_ => X c_ ∨ c_ = bc) (aZ) w) (bS : 0 ≤ bits ∧ bits ≤ 256) (hp : jC kd dp lk lv B sb) (hk : k.length = 32) :
  bC prog 196 [.pointer (some ⟨bh, 0, none⟩), .agg (fT kd dp lk lv B sl).toArray, .agg (kc k).toArray].toArray w fun v w' => ∃ (m : Int) (s : Value), v = .tuple [s, .int .i64 0].toArray ∧ Out (· = bc) w w' ∧ aN w' bc 213 [.int .i64 m] ∧ aJ (fun c => X c ∨ c = bc) (fB s ((List.range (dp + 1)).map (fF bits k (gG bits dp B sb) (eB (cX (eS kd lk lv)) bits)))) w' := by
 refine bC.aH (N := 34) func196 rfl rfl (by simp) ?_
 have H := (((St.dG (b := bc) (t := 213) (l := [.int .i64 n0]) hX eY).add (cC fU)).add (cC dI)).add (cC bU)
 have wF := hp.kd
 have DQ := hp.N8
 have mN := hp.uJ
 have hlv := hp.lvl
 have pU := hp.bl
 have pP := hp.PL
 have vS : (fT kd dp lk lv B sl).length = 99 := gQ hp.uJ hp.lvl hp.bl
 have hs1 : sl.oneCell' = true := cN.fX (dI.here)
 have SN := tH bits dp B sb
 have hdk := yI (bits := bits) (dp := dp) (B := B) hp.sl
 refine WE.aA ?_
 refine WL.box (l := fT kd dp lk lv B sl) H rfl (by rfl) rfl ?_
 intro b4 w1 H
 refine WL.box (l := kc k) H rfl (by rfl) rfl ?_
 intro b5 w2 H
 refine WL.as rfl rfl (WL.as rfl rfl (WL.nil (WE.aA (WL.mv rfl rfl ?_))))
 refine WL.bE rfl nJ rfl rfl (by exact aN.aF (H.l 1 rfl) (aK.all _) (by rfl)) (cK k8 (by simp only [aS, aX, aB, aD]; omega)) ?_
 refine WL.call aGi rfl (VV (kd := kd) (dp := dp) (lk := lk) (lv := lv) (B := B) (sl := sl) (sb := sb) (bits := bits) H.aR (H.o 0 rfl) (by exact (H.aO 0 rfl 0 rfl : aJ _ (fQ bh bc bits) _)) (by exact (H.aO 0 rfl 1 rfl : aJ _ (fB sl sb) _)) (by exact (H.aO 0 rfl 2 rfl : aJ _ (aZ) _)) bS hp) ?_
 rintro _ w3 ⟨m16, MX, rfl, hO, hB, hR⟩
 have aKv := cN.fX (hR.here)
 replace H := H.dH 0 rfl hO hB hR
 refine WL.mv rfl rfl (WL.pv (PV.extract rfl rfl rfl) rfl (WL.pv (PV.extract rfl rfl rfl) rfl (WL.as rfl rfl (WL.as rfl rfl (WL.nil (WE.seq (WE.aA ?_)))))))
 refine WL.mv rfl rfl (WL.pv (PV.neq rfl rfl rfl) rfl (WL.nil ?_))
 refine WE.bD rfl rfl ?_
 refine WE.skip (WE.aA ?_)
 refine WL.alloc H rfl aIa rfl ?_
 intro u0 w4 H
 replace H := H.kS 30 32
 refine WL.nil (WE.seq (WE.aA (WL.mv rfl rfl ?_)))
 refine WL.bE rfl nJ rfl rfl (by exact aN.aF (H.l 3 rfl) (aK.all _) (by rfl)) (cK k8 (by simp only [aS, aX, aB, aD]; omega)) ?_
 refine WL.mv rfl rfl ?_
 refine WL.bE rfl cZ rfl rfl (by exact aN.aF (H.l 2 rfl) (aK.all _) (by rfl)) (cK cL (by simp only [aS, aX, aB, aD]; omega)) ?_
 refine WL.call aGh rfl (aBB (kd := kd) (dp := dp) (lk := lk) (lv := lv) (B := B) (k := k) (sl := sl) (s := MX) H.aR  (by assumption) (by assumption) (by assumption) (by assumption) (by assumption) (by assumption)) ?_
 rintro _ w5 ⟨c1_, c2_, c3_, c4_, rfl, hO, NX, G8, hR3, hR4⟩
 replace H := ((((H.out hO).add hR4).add hR3).add G8).add NX
 refine WL.nil (WE.block ?_)
 replace H := (show St X w w5 [aP.blk bc 213 [.int .i64 m16]] [aP.hU w.heap.size (.slice none 0 0) 30 32 (0) (((List.range (0)).map (fF bits k (gG bits dp B sb) (eB (cX (eS kd lk lv)) bits))).flatMap kc), aP.blk u0 33 [(.slice none 0 0)], aP.blk b5 24 (kc k), aP.blk b4 35 (fT kd dp lk lv B sl)] [fun w => dA w ⟨c1_, 0, none⟩ (fT kd dp lk lv B sl), fun w => dA w ⟨c2_, 0, none⟩ [.pointer (some ⟨bh, 0, none⟩)], fun w => dA w ⟨c3_, 0, none⟩ [MX], fun w => dA w ⟨c4_, 0, none⟩ (kc k), fB MX (gG bits dp B sb), fQ bh bc bits, fB sl sb, aZ] from H)
 refine WE.aBV (α := Value) (fun i vv => True) (fun i vv => []) (fun i vv => [aP.hU w.heap.size vv 30 32 (i) (((List.range (i)).map (fF bits k (gG bits dp B sb) (eB (cX (eS kd lk lv)) bits))).flatMap kc), aP.blk u0 33 [vv], aP.blk b5 24 (kc k), aP.blk b4 35 (fT kd dp lk lv B sl)]) (fun i vv => [fun w => dA w ⟨c1_, 0, none⟩ (fT kd dp lk lv B sl), fun w => dA w ⟨c2_, 0, none⟩ [.pointer (some ⟨bh, 0, none⟩)], fun w => dA w ⟨c3_, 0, none⟩ [MX], fun w => dA w ⟨c4_, 0, none⟩ (kc k), fB MX (gG bits dp B sb), fQ bh bc bits, fB sl sb, aZ]) (.slice none 0 0) H rfl aGe (fun W0 hO => MS (ds := (gG bits dp B sb)) (s := MX) (bits := bits) (kd := kd) (dp := dp) (lk := lk) (lv := lv) (B := B) (k := k) (sl := sl) (H.aHn hO) ((H.o 0 (e := aP.blk bc 213 [.int .i64 m16]) rfl).of_eq (hO.block _ (H.o 0 (e := aP.blk bc 213 [.int .i64 m16]) rfl).lt id)) (H.rY hO 5 rfl) (H.rY hO 0 rfl) (H.rY hO 1 rfl) (H.rY hO 2 rfl) (H.rY hO 3 rfl) (H.rY hO 4 rfl) (H.rY hO 7 rfl) bS mN hlv pU hs1 hk hdk (by omega)) (fun i xs W h => by obtain ⟨_, rfl⟩ := h; rfl) ⟨trivial, rfl, rfl, rfl⟩ ?_ ?_
 ·
  intro i vv xs_ l_ d_ oo_ o_ T_ sc_ w6 jI tC NW H
  obtain ⟨sx_, rfl⟩ := NW
  have hbl : ((fF bits k (gG bits dp B sb) (eB (cX (eS kd lk lv)) bits)) i).length = 32 := oJ (cA _ _) i
  refine WE.dY ?_
  refine WL.alloc H rfl k6 rfl ?_
  intro b12 w7 H
  refine WL.aW H 0 rfl rfl rfl (new := kc ((fF bits k (gG bits dp B sb) (eB (cX (eS kd lk lv)) bits)) i)) rfl (cK c9 (by simp only [aS, aX, aB, aD]; omega)) (by exact bG _) (Laid.at (Laid.all (by simp only [aS, aX, aB, aD]; omega)) (by rfl)) rfl ?_
  intro w8 H
  refine WL.nil ?_
  refine ⟨rfl, rfl, _, [aP.blk b12 30 (kc ((fF bits k (gG bits dp B sb) (eB (cX (eS kd lk lv)) bits)) i)), aP.hU w.heap.size vv 30 32 (i) (((List.range (i)).map (fF bits k (gG bits dp B sb) (eB (cX (eS kd lk lv)) bits))).flatMap kc), aP.blk u0 33 [vv], aP.blk b5 24 (kc k), aP.blk b4 35 (fT kd dp lk lv B sl)], _, H, ?_⟩
  intro w9 H
  refine WE.block (WE.dY ?_)
  refine WL.aY rfl u5 rfl rfl (by exact aN.aF (H.l 2 rfl) (aK.all _) (by rfl)) ?_
  refine WL.bE rfl fO rfl rfl (by exact aN.aF (H.l 0 rfl) (aK.all _) (by rfl)) (cK c9 (by simp only [aS, aX, aB, aD]; omega)) ?_
  refine WL.bB (l0 := (kc (List.replicate 32 0))) H rfl EA (by decide) (by rfl) (Fl.cons rfl (by rfl) (by simp only [aS, aX, aB, aD]; omega) (Laid.all (by simp only [aS, aX, aB, aD]; omega)) Fl.nil) rfl ?_
  intro b31 tM H
  refine WL.append (m := 1) H 2 EA (by decide) rfl rfl rfl (cN.bZ (n := 1) (H.l 0 rfl) (by rw [aI, hbl]; simp [aI])) (bG _) (by omega) (by decide) rfl ?_
  intro v32 wT H
  replace H := H.forget 0
  have aEM := jE (H.l 1 rfl)
  refine WL.aW H 2 rfl rfl rfl (new := [v32]) (cells_one aEM) (by exact aBK) (eE aEM) (Laid.at (Laid.all (by simp only [aS, aX, aB, aD])) (by rfl)) rfl ?_
  intro G2 H
  refine WL.nil ?_
  replace H := H.forget 0
  replace H := H.conv (L' := [aP.hU w.heap.size v32 30 32 (i + 1) (((List.range (i + 1)).map (fF bits k (gG bits dp B sb) (eB (cX (eS kd lk lv)) bits))).flatMap kc), aP.blk u0 33 [v32], aP.blk b5 24 (kc k), aP.blk b4 35 (fT kd dp lk lv B sl), aP.obj l_ o_, aP.obj d_ (.deferred (some [])), aP.sn T_ w9]) (by rw [List.range_succ, List.map_append, List.flatMap_append]; simp only [List.map_cons, List.map_nil, List.flatMap_cons, List.flatMap_nil, List.append_nil]; rfl)
  replace H := H.drop (fun p hp => List.mem_cons_of_mem _ hp)
  exact ⟨v32, trivial, H⟩
 ·
  intro vv T3 D4 mc_ tC H
  refine WE.aA ?_
  refine WL.aY rfl u5 rfl rfl (by exact aN.aF (H.l 2 rfl) (aK.all _) (by rfl)) ?_
  refine WL.as rfl rfl (WL.as rfl rfl (WL.nil (WE.ret ?_)))
  (obtain ⟨KG, uL, H⟩ := H.tY 0 rfl)
  refine ⟨[_, _], _, (uL _ (.nil _)), ⟨rfl, rfl, trivial⟩, ?_⟩
  rw [SN] at H
  replace H := H.freeze (i := 0) rfl
  refine ⟨_, vv, rfl, H.cR, H.o 0 rfl, (H.fV (H.bK 0 rfl)).imp fun _ h => ?_⟩
  have h_ := cN.dJ h
  unfold fB; rw [List.length_map, List.length_range]; exact h_
theorem DK {X : Nat → Prop} {w : World} {bh bc : Nat} {bits n0 : Int} {kd dp : Nat} {lk lv B k : List UInt8} {sl : Value} {sb : List (List UInt8)} (hX : cY X w) (eY : aN w bc 213 ([.int .i64 n0])) (bU : aJ (fun c_ => X c_ ∨ c_ = bc) (fQ bh bc bits) w) (dI : aJ (fun c_ => X c_ ∨ c_ = bc) (fB sl sb) w) (fU : aJ (fun c_ => X c_ ∨ c_ = bc) (aZ) w) (bS : 0 ≤ bits ∧ bits ≤ 256) (hp : jC kd dp lk lv B sb) (hk : k.length = 32) :
  bC prog 170 [.pointer (some ⟨bh, 0, none⟩), .agg (fT kd dp lk lv B sl).toArray, .agg (kc k).toArray].toArray w fun v w' => ∃ (m : Int), v = .tuple [.agg (kc (fF bits k (gG bits dp B sb) (eB (cX (eS kd lk lv)) bits) dp)).toArray, .int .i64 0].toArray ∧ Out (· = bc) w w' ∧ aN w' bc 213 [.int .i64 m] := by
 refine bC.aH (N := 27) func170 rfl rfl (by simp) ?_
 have H := (((St.dG (b := bc) (t := 213) (l := [.int .i64 n0]) hX eY).add (cC fU)).add (cC dI)).add (cC bU)
 have wF := hp.kd
 have DQ := hp.N8
 have mN := hp.uJ
 have hlv := hp.lvl
 have pU := hp.bl
 have pP := hp.PL
 have vS : (fT kd dp lk lv B sl).length = 99 := gQ hp.uJ hp.lvl hp.bl
 have hs1 : sl.oneCell' = true := cN.fX (dI.here)
 have SN := tH bits dp B sb
 have hdk := yI (bits := bits) (dp := dp) (B := B) hp.sl
 have hrl : (fF bits k (gG bits dp B sb) (eB (cX (eS kd lk lv)) bits) dp).length = 32 := oJ (cA _ _) _
 refine WE.aA ?_
 refine WL.box (l := fT kd dp lk lv B sl) H rfl rfl rfl ?_
 intro b4 w1 H
 refine WL.box (l := kc k) H rfl rfl rfl ?_
 intro b5 w2 H
 refine WL.alloc H rfl k6 rfl ?_
 intro b6 w3 H
 refine WL.as rfl rfl (WL.nil (WE.aA (WL.mv rfl rfl ?_)))
 refine WL.bE rfl nJ rfl rfl (aN.aF (H.l 2 rfl) (aK.all _) rfl) (cK k8 (by simp only [aS, aX, aB, aD]; omega)) ?_
 refine WL.bE rfl cZ rfl rfl (aN.aF (H.l 1 rfl) (aK.all _) rfl) (cK cL (by simp only [aS, aX, aB, aD]; omega)) ?_
 refine WL.call aGl rfl (ZY (kd := kd) (dp := dp) (lk := lk) (lv := lv) (B := B) (sl := sl) (sb := sb) (bits := bits) (k := k) H.aR (H.o 0 rfl) (by exact (H.aO 0 rfl 0 rfl : aJ _ (fQ bh bc bits) _)) (by exact (H.aO 0 rfl 1 rfl : aJ _ (fB sl sb) _)) (by exact (H.aO 0 rfl 2 rfl : aJ _ (aZ) _)) bS hp hk) ?_
 rintro _ w4 ⟨m14, aBL, rfl, hO, hB, hR⟩
 replace H := H.dH 0 rfl hO hB hR
 refine WL.mv rfl rfl (WL.pv (PV.extract rfl rfl rfl) rfl (WL.pv (PV.extract rfl rfl rfl) rfl (WL.as rfl rfl (WL.as rfl rfl (WL.nil (WE.seq (WE.aA ?_)))))))
 refine WL.mv rfl rfl (WL.pv (PV.neq rfl rfl rfl) rfl (WL.nil ?_))
 refine WE.bD rfl rfl ?_
 refine WE.skip (WE.aA (WL.mv rfl rfl (WL.mv rfl rfl ?_)))
 refine WL.pv (PV.eq (v' := .int .i64 ((dp + 1 : Nat) : Int)) (PV.dR (by exact (H.p 0 rfl : (fB aBL ((List.range (dp + 1)).map (fF bits k (gG bits dp B sb) (eB (cX (eS kd lk lv)) bits)))) _)) oU rfl) (by rw [List.length_map, List.length_range])) rfl ?_
 refine WL.pv (PV.eq (v' := .int .i64 ((dp : Nat) : Int)) (PV.gC rfl rfl rfl (by omega) (by omega)) (by (congr 1; omega))) rfl ?_
 refine WL.pv (PV.eA rfl (by exact (H.p 0 rfl : (fB aBL ((List.range (dp + 1)).map (fF bits k (gG bits dp B sb) (eB (cX (eS kd lk lv)) bits)))) _)) oU c9 rfl rfl (by omega) (by rw [List.length_map, List.length_range]; omega)) rfl ?_
 refine WL.bE rfl fO rfl rfl ((by have h_ := fB.rd (by exact (H.p 0 rfl : (fB aBL ((List.range (dp + 1)).map (fF bits k (gG bits dp B sb) (eB (cX (eS kd lk lv)) bits)))) _)) (fun x hx => by obtain ⟨j, _, rfl⟩ := List.mem_map.1 hx; exact oJ (cA _ _) _) dp (by rw [List.length_map, List.length_range]; omega); rw [List.getElem_map, List.getElem_range] at h_; exact h_)) (cK c9 (by simp only [aS, aX, aB, aD]; omega)) ?_
 refine WL.aW H 0 rfl rfl rfl (new := kc (fF bits k (gG bits dp B sb) (eB (cX (eS kd lk lv)) bits) dp)) rfl (cK c9 (by simp only [aS, aX, aB, aD]; omega)) (bG _) (Laid.at (Laid.all (by simp only [aS, aX, aB, aD]; omega)) rfl) rfl ?_
 intro w5 H
 refine WL.as rfl rfl (WL.nil (WE.ret ⟨[_, _], _, .nil _, ⟨⟨_, rfl, aU fO (aN.aF (H.l 0 rfl) (aK.all _) rfl) (cK c9 (by simp only [aS, aX, aB, aD]; omega))⟩, rfl, trivial⟩, ?_⟩))
 exact ⟨_, rfl, H.cR, H.o 0 rfl⟩
theorem YV {bits : Int} {T : Tr} {k : List UInt8} : eB (cX (eS (pK T k) (T.fin k).key ((T.fin k).vd bits))) bits = (T.fin k).er.nO bits := by
 have h2 : (T.fin k).er.kind ≠ 2 := Tr.qW _ 0 T rfl
 unfold pK
 revert h2
 cases (T.fin k) with
 | nil => intro _; exact congrArg (fun x => eB (cX x) bits) (show eS 0 _ _ = [3] from if_neg (by decide))
 | leaf a q v s => intro _; exact congrArg (fun x => eB (cX x) bits) (show eS 1 _ _ = 0 :: (q ++ nC bits v) from if_pos rfl)
 | inner => intro h; exact absurd rfl h
theorem IA {bits : Int} {T : Tr} {k : List UInt8} (hd : T.dp k 0 ≤ 256) : fF bits k (gG bits (T.dp k 0) (o5 T k (T.dp k 0)) (iY bits T k (T.dp k 0))) (eB (cX (eS (pK T k) (T.fin k).key ((T.fin k).vd bits))) bits) (T.dp k 0) = T.er.nO bits := by
 have e1 : gG bits (T.dp k 0) (o5 T k (T.dp k 0)) (iY bits T k (T.dp k 0)) = (List.range (T.dp k 0)).map fun d => (pX T k d).er.nO bits := by
  unfold gG
  rw [xM hd, TS]
 rw [e1, YV]
 have hl : ((List.range (T.dp k 0)).map fun d => (pX T k d).er.nO bits).length = T.dp k 0 := by simp
 have h := UL (bits := bits) (k := k) (ds := (List.range (T.dp k 0)).map fun d => (pX T k d).er.nO bits) (e := (T.fin k).er.nO bits)
 rw [hl] at h
 rw [h]
 refine D6 (T.dp k 0) (Nat.le_refl _) fun d hd => ?_
 rw [e9 (by rw [hl]; exact hd), List.getElem_map, List.getElem_range]
def yZ (kd dp : Nat) (lk lv k vd : List UInt8) (KW : Bool) : Prop :=
 (KW = true → kd = 1 ∧ lk = k ∧ lv = vd) ∧ (KW = false → kd = 1 → lk ≠ k ∧ dp ≤ fN lk k)
theorem _root_.Go.Sp.aDR : cM prog 168 = some ([.pointer none] ++ ([.slice none 0 0] ++ ([.slice none 0 0, .slice none 0 0, .bool false] ++ ([.slice none 0 0] ++ ([.int .i64 0] ++ ([.int .i64 0] ++ ((kc (List.replicate 32 0) ++ kc (List.replicate 32 0)) ++ (kc (List.replicate 32 0) ++ [.slice none 0 0])))))))) := by kernel_rfl
def JH (bh : Nat) (sr sk sv : Value) (pr : Bool) (se : Value) (pf : List Value) : List Value := [.pointer (some ⟨bh, 0, none⟩)] ++ ([sr] ++ ([sk, sv, .bool pr] ++ ([se] ++ pf)))
def WD : List Value := ([.int .i64 0] ++ ([.int .i64 0] ++ ((kc (List.replicate 32 0) ++ kc (List.replicate 32 0)) ++ (kc (List.replicate 32 0) ++ [.slice none 0 0]))))
theorem WC : WD.length = 99 := by rfl
theorem tV {X : Nat → Prop} {w : World} {c : Bool} {e : Int} (hX : cY X w) :
  bC prog 122 [.bool c, .int .i64 e].toArray w fun v w' => v = .int .i64 (if c = true then e else 0) ∧ Out Nil w w' := by
 refine bC.aH (N := 7) func122 rfl rfl (by simp) ?_
 have H := St.begin hX
 refine WE.aA (WL.as rfl rfl (WL.nil (WE.seq (WE.aA (WL.mv rfl rfl (WL.nil ?_))))))
 refine WE.cond rfl (fun uO => ?_) (fun uO => ?_)
 ·
  try simp only [bW] at uO
  refine WE.aA (WL.mv rfl rfl (WL.as rfl rfl (WL.nil (WE.ret ⟨[_], _, .nil _, ⟨rfl, trivial⟩, ?_⟩))))
  refine ⟨?_, H.aL⟩
  rw [if_pos uO]
  rfl
 ·
  try simp only [bW] at uO
  refine WE.skip (WE.aA (WL.as rfl rfl (WL.nil (WE.ret ⟨[_], _, .nil _, ⟨rfl, trivial⟩, ?_⟩))))
  refine ⟨?_, H.aL⟩
  rw [if_neg (by simp [uO])]
  rfl
theorem aEd {X : Nat → Prop} {w : World} {bk bh : Nat} {sr sk sv se : Value} {pr : Bool} {pf : List Value} {rb : List UInt8} (hX : cY X w) (bU : aJ X (fun w => aN w bk 168 (JH bh sr sk sv pr se pf)) w) (dI : aJ X (bJ sr rb) w) (hr : rb.length = 32) :
  bC prog 121 [.pointer (some ⟨bk, 0, none⟩)].toArray w fun v w' => v = .int .i64 0 ∧ Out Nil w w' := by
 refine bC.aH (N := 10) func121 rfl rfl (by simp) ?_
 have H := ((St.begin hX).add (cE dI)).add (cE bU)
 refine WE.aA (WL.as rfl rfl (WL.nil (WE.aA (WL.mv rfl rfl (WL.pv (PV.nilCheck rfl rfl) rfl (WL.pv (PV.fieldAddr rfl wJ rfl) rfl (WL.aY rfl eU rfl rfl (aN.aF (H.p 0 rfl) (aK.r (aK.l (aK.all _)) rfl) rfl) ?_)))))))
 refine WL.pv (PV.dR (by exact (H.p 1 rfl : (bJ sr rb) _)) eM rfl) rfl ?_
 refine WL.pv (PV.neq rfl rfl rfl) rfl ?_
 refine WL.call BC rfl (tV (c := _) (e := 4) H.aR) ?_
 rintro _ w1 ⟨rfl, hO⟩
 replace H := H.out hO
 refine WL.as rfl rfl (WL.nil (WE.ret ⟨[_], _, .nil _, ⟨rfl, trivial⟩, ?_⟩))
 refine ⟨?_, H.aL⟩
 show Value.int .i64 _ = Value.int .i64 0
 congr 1
 simp [hr]
theorem aEb {X : Nat → Prop} {w : World} {bk bh : Nat} {sr sk sv se : Value} {pr : Bool} {pf : List Value} {k : List UInt8} (hX : cY X w) (bU : aJ X (fun w => aN w bk 168 (JH bh sr sk sv pr se pf)) w) (dI : aJ X (bJ sk k) w) (hk : k.length = 32) :
  bC prog 123 [.pointer (some ⟨bk, 0, none⟩)].toArray w fun v w' => v = .int .i64 0 ∧ Out Nil w w' := by
 refine bC.aH (N := 11) func123 rfl rfl (by simp) ?_
 have H := ((St.begin hX).add (cE dI)).add (cE bU)
 refine WE.aA (WL.as rfl rfl (WL.nil (WE.aA (WL.mv rfl rfl (WL.pv (PV.nilCheck rfl rfl) rfl (WL.pv (PV.fieldAddr rfl k4 rfl) rfl (WL.pv (PV.fieldAddr rfl C6 rfl) rfl ?_)))))))
 refine WL.aY rfl eU rfl rfl (aN.aF (H.p 0 rfl) (aK.r (aK.r (aK.l aK.hd) rfl) rfl) rfl) ?_
 refine WL.pv (PV.dR (by exact (H.p 1 rfl : (bJ sk k) _)) eM rfl) rfl ?_
 refine WL.pv (PV.neq rfl rfl rfl) rfl ?_
 refine WL.call BC rfl (tV (c := _) (e := 2) H.aR) ?_
 rintro _ w1 ⟨rfl, hO⟩
 replace H := H.out hO
 refine WL.as rfl rfl (WL.nil (WE.ret ⟨[_], _, .nil _, ⟨rfl, trivial⟩, ?_⟩))
 refine ⟨?_, H.aL⟩
 show Value.int .i64 _ = Value.int .i64 0
 congr 1
 simp [hk]
theorem aEa {X : Nat → Prop} {w : World} {bk bh : Nat} {sr sk sv se : Value} {pr : Bool} {pf : List Value} {vv : List UInt8} (hX : cY X w) (bU : aJ X (fun w => aN w bk 168 (JH bh sr sk sv pr se pf)) w) (dI : aJ X (bJ sv vv) w) (hv : vv.length ≤ 65535) :
  bC prog 124 [.pointer (some ⟨bk, 0, none⟩)].toArray w fun v w' => v = .int .i64 0 ∧ Out Nil w w' := by
 refine bC.aH (N := 18) func124 rfl rfl (by simp) ?_
 have H := ((St.begin hX).add (cE dI)).add (cE bU)
 refine WE.aA (WL.as rfl rfl (WL.nil (WE.aA (WL.mv rfl rfl (WL.pv (PV.nilCheck rfl rfl) rfl (WL.pv (PV.fieldAddr rfl k4 rfl) rfl (WL.pv (PV.fieldAddr rfl C5 rfl) rfl ?_)))))))
 refine WL.aY rfl u4 rfl rfl (aN.aF (H.p 0 rfl) (aK.r (aK.r (aK.l (aK.tl (aK.tl aK.hd rfl) rfl)) rfl) rfl) rfl) ?_
 refine WL.mv rfl rfl ?_
 refine WL.split (t := 8) rfl (fun FB => ?_) (fun FB => ?_)
 ·
  refine WL.known (t := 7) (c := true) rfl FB ?_
  try simp only [bW] at FB
  refine WL.mv rfl rfl (WL.pv (PV.nilCheck rfl rfl) rfl (WL.pv (PV.fieldAddr rfl k4 rfl) rfl (WL.pv (PV.fieldAddr rfl TG rfl) rfl (WL.aY rfl eU rfl rfl (aN.aF (H.p 0 rfl) (aK.r (aK.r (aK.l (aK.tl aK.hd rfl)) rfl) rfl) rfl) ?_))))
  refine WL.pv (PV.dR (by exact (H.p 1 rfl : (bJ sv vv) _)) eM rfl) rfl ?_
  refine WL.pv (PV.gtr rfl rfl rfl) rfl (WL.pv (PV.dP rfl rfl rfl) rfl ?_)
  refine WL.call BC rfl (tV (c := _) (e := 3) H.aR) ?_
  rintro _ w1 ⟨rfl, hO⟩
  replace H := H.out hO
  refine WL.as rfl rfl (WL.nil (WE.ret ⟨[_], _, .nil _, ⟨rfl, trivial⟩, ?_⟩))
  refine ⟨?_, H.aL⟩
  show Value.int .i64 _ = Value.int .i64 0
  congr 1
  try ((simp; omega))
 ·
  refine WL.known (t := 7) (c := false) rfl FB ?_
  try simp only [bW] at FB
  refine WL.off rfl (WL.off rfl (WL.off rfl (WL.off rfl (WL.off rfl (WL.off rfl (WL.off rfl (WL.pv (PV.dF rfl rfl rfl) rfl ?_)))))))
  refine WL.call BC rfl (tV (c := _) (e := 3) H.aR) ?_
  rintro _ w2 ⟨rfl, hO⟩
  replace H := H.out hO
  refine WL.as rfl rfl (WL.nil (WE.ret ⟨[_], _, .nil _, ⟨rfl, trivial⟩, ?_⟩))
  refine ⟨?_, H.aL⟩
  show Value.int .i64 _ = Value.int .i64 0
  congr 1
  try (first | rfl | (simp; done) | (simp; omega))
theorem aD9 {X : Nat → Prop} {w : World} {bk bh : Nat} {sr sk sv se : Value} {pr : Bool} {kd dp : Nat} {lk lv B : List UInt8} {sb : List (List UInt8)} (hX : cY X w) (eY : aN w bk 168 (JH bh sr sk sv pr se WD)) (bU : aJ (fun c_ => X c_ ∨ c_ = bk) (bJ se (fK kd dp lk lv B sb)) w) (hp : jC kd dp lk lv B sb) :
  bC prog 125 [.pointer (some ⟨bk, 0, none⟩)].toArray w fun v w' => ∃ sl, v = .int .i64 0 ∧ sl.oneCell' = true ∧ Out (· = bk) w w' ∧ aN w' bk 168 (JH bh sr sk sv pr se (fT kd dp lk lv B sl)) ∧ aJ (fun c => X c ∨ c = bk) (fB sl sb) w' := by
 refine bC.aH (N := 15) func125 rfl rfl (by simp) ?_
 have H := (St.dG (b := bk) (t := 168) (l := JH bh sr sk sv pr se WD) hX eY).add (cC bU)
 have mN := hp.uJ
 have hlv := hp.lvl
 have pU := hp.bl
 refine WE.aA (WL.as rfl rfl (WL.nil (WE.aA (WL.mv rfl rfl (WL.mv rfl rfl (WL.pv (PV.nilCheck rfl rfl) rfl (WL.pv (PV.fieldAddr rfl Y1 rfl) rfl ?_)))))))
 refine WL.aY rfl eU rfl rfl (aN.aF (H.o 0 rfl) (aK.r (aK.r (aK.r (aK.l (aK.all _)) rfl) rfl) rfl) rfl) ?_
 refine WL.call aGW rfl (VZ (s := se) (kd := kd) (dp := dp) (lk := lk) (lv := lv) (B := B) (sb := sb) H.aR (by exact (H.bK 0 rfl : aJ _ (bJ se (fK kd dp lk lv B sb)) _)) hp) ?_
 rintro _ w1 ⟨sl, rfl, hO, hR⟩
 have hsl := cN.fX (hR.here)
 replace H := (H.out hO).add hR
 have vS : (fT kd dp lk lv B sl).length = 99 := gQ mN hlv pU
 have hzl := WC
 refine WL.mv rfl rfl (WL.pv (PV.extract rfl rfl rfl) rfl (WL.pv (PV.extract rfl rfl rfl) rfl (WL.pv (PV.nilCheck rfl rfl) rfl (WL.pv (PV.fieldAddr rfl wI rfl) rfl ?_))))
 refine WL.lH H 0 rfl rfl rfl (new := fT kd dp lk lv B sl) rfl (cK k8 (by simp only [aS, aX, aB, aD]; omega)) (sO hsl) (Laid.at (Laid.right (Laid.right (Laid.right (Laid.right (Laid.all (by simp only [aS, aX, aB, aD]; omega)) rfl) rfl) rfl) rfl) rfl) rfl ?_
 intro w2 H
 refine WL.as rfl rfl (WL.nil (WE.aA (WL.mv rfl rfl (WL.as rfl rfl (WL.nil (WE.ret ⟨[_], _, .nil _, ⟨rfl, trivial⟩, ?_⟩))))))
 exact ⟨sl, rfl, hsl, H.cR, H.o 0 rfl, H.fV (by exact (H.bK 0 rfl : aJ _ (fB sl sb) _))⟩
theorem aBt {X : Nat → Prop} {w : World} {kd dp : Nat} {lk lv B k vd : List UInt8} {sl : Value} {pr : Bool} (hX : cY X w) (wF : kd = 0 ∨ kd = 1) (mN : lk.length = 32) (hlv : lv.length = 32) (pU : B.length = 32) (hs1 : sl.oneCell' = true) (hk : k.length = 32) (hvd : vd.length = 32) (x6 : yZ kd dp lk lv k vd pr) :
  bC prog 169 [.agg (fT kd dp lk lv B sl).toArray, .agg (kc k).toArray, .agg (kc vd).toArray, .bool pr].toArray w fun v w' => v = .bool true ∧ Out Nil w w' := by
 refine bC.aH (N := 44) func169 rfl rfl (by simp) ?_
 have H := St.begin hX
 have vS : (fT kd dp lk lv B sl).length = 99 := gQ mN hlv pU
 refine WE.aA ?_
 refine WL.box (l := fT kd dp lk lv B sl) H rfl rfl rfl ?_
 intro b4 w1 H
 refine WL.box (l := kc k) H rfl rfl rfl ?_
 intro b5 w2 H
 refine WL.box (l := kc vd) H rfl rfl rfl ?_
 intro b6 w3 H
 refine WL.as rfl rfl (WL.nil (WE.seq (WE.block (WE.aA (WL.mv rfl rfl (WL.as rfl rfl (WL.nil ?_)))))))
 refine WE.cond rfl (fun uN => ?_) (fun uN => ?_)
 ·
  try simp only [bW] at uN
  obtain ⟨wG, aI6, aI4⟩ := x6.1 uN
  subst aI6
  subst aI4
  refine WE.aA (WL.pv (PV.fieldAddr rfl nI rfl) rfl (WL.aY rfl pR rfl rfl (aN.aF (H.l 2 rfl) (aK.l (aK.all _)) rfl) (WL.pv (PV.eql rfl rfl rfl) rfl (WL.mv rfl rfl ?_))))
  refine WL.known (t := 14) (c := true) rfl (by simp [wG]) ?_
  refine WL.pv (PV.fieldAddr rfl pD rfl) rfl ?_
  refine WL.bE rfl GN rfl rfl (aN.aF (H.l 2 rfl) (aK.r (aK.r (aK.l (aK.all _)) rfl) rfl) rfl) (cK wX (by simp only [aS, aX, aB, aD]; omega)) ?_
  refine WL.bE rfl cZ rfl rfl (aN.aF (H.l 1 rfl) (aK.all _) rfl) (cK cL (by simp only [aS, aX, aB, aD]; omega)) ?_
  refine WL.bE rfl fO rfl rfl (aN.aF (H.l 0 rfl) (aK.all _) rfl) (cK c9 (by simp only [aS, aX, aB, aD]; omega)) ?_
  refine WL.pv (PV.dM rfl XK HG (Fl.cons rfl rfl (by simp only [aS, aX, aB, aD]; omega) (Laid.left (Laid.all (by simp only [aS, aX, aB, aD]; omega))) (Fl.cons rfl rfl (by simp only [aS, aX, aB, aD]; omega) (Laid.right (Laid.all (by simp only [aS, aX, aB, aD]; omega)) (by simp only [aS, aX, aB, aD]; omega)) Fl.nil))) rfl ?_
  refine WL.pv (PV.aHf rfl aHg rfl rfl (DL.struct (n := 3) aHh (VW.cons (eG.agg cZ (cK cL (by simp only [aS, aX, aB, aD]; omega)) (aK.l (aK.all _))) (eG.agg cZ (cK cL (by simp only [aS, aX, aB, aD]; omega)) (aK.l (aK.all _))) (DL.mono (DL.bytes gZ mC gO (by assumption) (by assumption)) (by decide)) (VW.cons (eG.agg fO (cK c9 (by simp only [aS, aX, aB, aD]; omega)) (aK.r (aK.all _) (by simp only [aS, aX, aB, aD]; omega))) (eG.agg fO (cK c9 (by simp only [aS, aX, aB, aD]; omega)) (aK.r (aK.all _) (by simp only [aS, aX, aB, aD]; omega))) (DL.mono (DL.bytes oL mC gO (by assumption) (by assumption)) (by decide)) VW.nil))) (by decide)) rfl ?_
  refine WL.pv (PV.dP rfl rfl rfl) rfl (WL.as rfl rfl (WL.nil (WE.ret ⟨[_], _, .nil _, ⟨rfl, trivial⟩, ?_⟩)))
  refine ⟨?_, H.aL⟩
  show Value.bool _ = Value.bool true
  congr 1
  try ((simp; done))
 ·
  try simp only [bW] at uN
  have hsf := x6.2 uN
  refine WE.aA (WL.pv (PV.fieldAddr rfl nI rfl) rfl (WL.aY rfl pR rfl rfl (aN.aF (H.l 2 rfl) (aK.l (aK.all _)) rfl) (WL.pv (PV.eql rfl rfl rfl) rfl (WL.as rfl rfl (WL.nil ?_)))))
  refine WE.cond rfl (fun JB => ?_) (fun JB => ?_)
  ·
   try simp only [bW] at JB
   have wG : kd = 1 := by omega
   obtain ⟨V8, hc1⟩ := hsf wG
   refine WE.bH (.take 0 (.take 1 (.take 2 (.take 3 (.take 4 (.take 5 (.take 6 (.take 7 (.take 8 (.take 9 (.take 11 (.take 12 (.aG 10 (.take 13 (.take 14 (.take 15 .done)))))))))))))))) mixed (by kernel_rfl) ?_
   replace H := H.out (Out.drew _)
   refine WP.aC rfl rfl (PV.fieldAddr rfl pD rfl) (WP.aC rfl rfl (PV.fieldAddr rfl kH rfl) ?_)
   refine WP.dN rfl rfl rfl cZ rfl (aN.aF (H.l 2 rfl) (aK.r (aK.r (aK.l (aK.l (aK.all _))) rfl) rfl) rfl) (cK cL (by simp only [aS, aX, aB, aD]; omega)) ?_
   refine WP.dN rfl rfl rfl cZ rfl (aN.aF (H.l 1 rfl) (aK.all _) rfl) (cK cL (by simp only [aS, aX, aB, aD]; omega)) ?_
   refine WP.aC rfl rfl (PV.RO rfl gZ mC gO (by kernel_rfl) rfl rfl (by assumption) (by assumption)) (WP.mv rfl rfl rfl ?_)
   refine WP.known (t := 31) (c := true) rfl (by simp [V8]) ?_
   refine WP.aC rfl rfl (PV.fieldAddr rfl pD rfl) (WP.aC rfl rfl (PV.fieldAddr rfl kH rfl) ?_)
   refine WP.dN rfl rfl rfl cZ rfl (aN.aF (H.l 2 rfl) (aK.r (aK.r (aK.l (aK.l (aK.all _))) rfl) rfl) rfl) (cK cL (by simp only [aS, aX, aB, aD]; omega)) ?_
   refine WP.dN rfl rfl rfl cZ rfl (aN.aF (H.l 1 rfl) (aK.all _) rfl) (cK cL (by simp only [aS, aX, aB, aD]; omega)) ?_
   refine WP.aC rfl rfl (PV.fieldAddr rfl rW rfl) (WP.aM rfl rfl (RV.aV rfl pR rfl) (aN.aF (H.l 2 rfl) (aK.r (aK.l (aK.all _)) rfl) rfl) (WP.aG rfl ?_))
   refine WL.call TJ rfl (zB (a := lk) (b := k) H.aR mN hk) ?_
   rintro _ w4 ⟨rfl, hO⟩
   replace H := H.out hO
   refine WL.nil ⟨(fa (rk hO) (fa (nw 10 9) (fa (nw 10 8) (fa (nw 10 3) (fa (nw 10 2) c5))))), ?_⟩
   refine WP.aC rfl rfl (PV.geq rfl rfl rfl) (WP.aC rfl rfl (PV.dP rfl rfl rfl) (WP.as rfl rfl rfl (WP.done (WE.ret ⟨[_], _, .nil _, ⟨rfl, trivial⟩, ?_⟩))))
   refine ⟨?_, H.aL⟩
   (show Value.bool _ = Value.bool true; congr 1; exact decide_eq_true (by omega))
  ·
   try simp only [bW] at JB
   have PI : kd = 0 := by omega
   refine WE.skip (WE.aA (WL.pv (PV.fieldAddr rfl nI rfl) rfl (WL.aY rfl pR rfl rfl (aN.aF (H.l 2 rfl) (aK.l (aK.all _)) rfl) (WL.pv (PV.eql rfl rfl rfl) rfl (WL.as rfl rfl (WL.nil (WE.ret ?_)))))))
   refine ⟨[_], _, .nil _, ⟨rfl, trivial⟩, ?_⟩
   refine ⟨?_, H.aL⟩
   show Value.bool _ = Value.bool true
   congr 1
   try ((simp [PI]; done))
theorem HO {X : Nat → Prop} {w : World} {bk bh bc : Nat} {bits n0 : Int} {sr sk sv se : Value} {pr : Bool} {k vv rb : List UInt8} {kd dp : Nat} {lk lv B : List UInt8} {sl : Value} {sb : List (List UInt8)} (hX : cY X w) (eY : aN w bc 213 ([.int .i64 n0])) (bU : aJ (fun c_ => X c_ ∨ c_ = bc) (fQ bh bc bits) w) (dI : aJ (fun c_ => X c_ ∨ c_ = bc) (fun w => aN w bk 168 (JH bh sr sk sv pr se (fT kd dp lk lv B sl))) w) (fU : aJ (fun c_ => X c_ ∨ c_ = bc) (bJ sk k) w) (jY : aJ (fun c_ => X c_ ∨ c_ = bc) (bJ sv vv) w) (o9 : aJ (fun c_ => X c_ ∨ c_ = bc) (fB sl sb) w) (tP : aJ (fun c_ => X c_ ∨ c_ = bc) (aZ) w) (bS : 0 ≤ bits ∧ bits ≤ 256) (hp : jC kd dp lk lv B sb) (hk : k.length = 32) (hv : vv.length ≤ 65535) (x6 : yZ kd dp lk lv k (nC bits vv) pr) :
  bC prog 128 [.pointer (some ⟨bk, 0, none⟩)].toArray w fun v w' => ∃ m, v = .bool true ∧ Out (· = bc) w w' ∧ aN w' bc 213 [.int .i64 m] := by
 refine bC.aH (N := 38) func128 rfl rfl (by simp) ?_
 have H := ((((((St.dG (b := bc) (t := 213) (l := [.int .i64 n0]) hX eY).add (cC tP)).add (cC o9)).add (cC jY)).add (cC fU)).add (cC dI)).add (cC bU)
 have wF := hp.kd
 have mN := hp.uJ
 have hlv := hp.lvl
 have pU := hp.bl
 have vS : (fT kd dp lk lv B sl).length = 99 := gQ mN hlv pU
 have aEK := fY bits vv
 have hs1 : sl.oneCell' = true := cN.fX (o9.here)
 have CM : (List.replicate 32 (0 : UInt8)).length = 32 := List.length_replicate
 obtain ⟨ka, kcp, rfl⟩ := bJ.some (fU.here) (by omega)
 have aEQ : pr = false → yZ kd dp lk lv k (List.replicate 32 0) pr := fun h => ⟨fun h2 => by (rw [h] at h2; cases h2), x6.2⟩
 refine WE.aA (WL.as rfl rfl (WL.nil (WE.aA ?_)))
 refine WL.alloc H rfl k6 rfl ?_
 intro b3 w1 H
 refine WL.nil (WE.seq (WE.aA (WL.mv rfl rfl (WL.pv (PV.nilCheck rfl rfl) rfl (WL.pv (PV.fieldAddr rfl k4 rfl) rfl (WL.pv (PV.fieldAddr rfl C5 rfl) rfl ?_))))))
 refine WL.aY rfl u4 rfl rfl (aN.aF (H.p 1 rfl) (aK.r (aK.r (aK.l (aK.tl (aK.tl aK.hd rfl) rfl)) rfl) rfl) rfl) ?_
 refine WL.nil ?_
 refine WE.cond rfl (fun lT => ?_) (fun lT => ?_)
 ·
  try simp only [bW] at lT
  refine WE.draw (.take 0 (.take 1 (.take 2 (.take 3 (.take 4 (.take 5 (.take 6 (.take 7 (.take 8 (.aG 9 (.aG 10 (.aG 11 .done)))))))))))) mixed (by kernel_rfl) ?_
  replace H := H.out (Out.drew _)
  refine WP.mv rfl rfl rfl (WP.aC rfl rfl (PV.nilCheck rfl rfl) (WP.aC rfl rfl (PV.fieldAddr rfl LR rfl) (WP.aM rfl rfl (RV.aV rfl vX rfl) (aN.aF (H.p 1 rfl) (aK.l (aK.all _)) rfl) (WP.mv rfl rfl rfl (WP.aC rfl rfl (PV.nilCheck rfl rfl) (WP.aC rfl rfl (PV.fieldAddr rfl k4 rfl) (WP.aC rfl rfl (PV.fieldAddr rfl TG rfl) ?_)))))))
  refine WP.aM rfl rfl (RV.aV rfl eU rfl) (aN.aF (H.p 1 rfl) (aK.r (aK.r (aK.l (aK.tl aK.hd rfl)) rfl) rfl) rfl) ?_
  refine WP.aG rfl ?_
  refine WL.call aBa rfl (MF (la := vv) H.aR (by exact (H.bK 3 rfl : aJ _ (bJ sv vv) _)) (by omega)) ?_
  rintro v18 w2 ⟨hO, hR⟩
  replace H := (H.out hO).add hR
  refine WL.nil ⟨(fa (nw 9 8) (fa (fun _ _ => (aN.aF (H.p 2 rfl) (aK.l (aK.all _)) rfl)) c5)), ?_⟩
  refine WP.aG rfl ?_
  refine WL.call JE rfl (sA (la := 2 :: vv) (bits := bits) H.aR (H.o 0 rfl) (by exact (H.aO 0 rfl 1 rfl : aJ _ (fQ bh bc bits) _)) (by exact (H.aO 0 rfl 0 rfl : aJ _ (bJ v18 (2 :: vv)) _)) (by exact (H.aO 0 rfl 6 rfl : aJ _ (aZ) _)) bS (by simp; omega)) ?_
  rintro _ w3 ⟨rfl, hO, hB⟩
  replace H := H.fA 0 rfl hO hB
  refine WL.nil ⟨(fa (nw 10 8) (fa (nw 10 3) c5)), ?_⟩
  refine WP.aG rfl ?_
  refine WL.aW H 0 rfl rfl rfl (new := kc (nC bits vv)) rfl (by exact c9) (bG _) (Laid.at (Laid.all (by simp only [aS, aX, aB, aD])) rfl) rfl ?_
  intro w4 H
  refine WL.nil ⟨(fa (nw 11 8) (fa (nw 11 3) c5)), ?_⟩
  refine WP.done ?_
  refine WE.bH (.take 0 (.take 1 (.take 2 (.take 3 (.take 4 (.take 5 (.take 6 (.take 7 (.take 8 (.take 11 (.take 12 (.take 13 (.take 14 (.take 15 (.take 16 (.aG 9 (.take 10 (.aG 17 (.take 18 .done))))))))))))))))))) mixed (by kernel_rfl) ?_
  replace H := H.out (Out.drew _)
  refine WP.mv rfl rfl rfl (WP.aC rfl rfl (PV.nilCheck rfl rfl) (WP.aC rfl rfl (PV.fieldAddr rfl wI rfl) ?_))
  refine WP.dN rfl rfl rfl nJ rfl (aN.aF (H.p 2 rfl) (aK.r (aK.r (aK.r (aK.r (aK.all _) rfl) rfl) rfl) rfl) rfl) (cK k8 (by simp only [aS, aX, aB, aD]; omega)) ?_
  refine WP.mv rfl rfl rfl (WP.aC rfl rfl (PV.nilCheck rfl rfl) (WP.aC rfl rfl (PV.fieldAddr rfl k4 rfl) (WP.aC rfl rfl (PV.fieldAddr rfl C6 rfl) ?_)))
  refine WP.aM rfl rfl (RV.aV rfl eU rfl) (aN.aF (H.p 2 rfl) (aK.r (aK.r (aK.l aK.hd) rfl) rfl) rfl) ?_
  refine WP.dN rfl rfl rfl fO rfl (aN.aF (H.l 0 rfl) (aK.all _) rfl) (by exact c9) ?_
  refine WP.mv rfl rfl rfl (WP.aC rfl rfl (PV.nilCheck rfl rfl) (WP.aC rfl rfl (PV.fieldAddr rfl k4 rfl) (WP.aC rfl rfl (PV.fieldAddr rfl C5 rfl) ?_)))
  refine WP.aM rfl rfl (RV.aV rfl u4 rfl) (aN.aF (H.p 2 rfl) (aK.r (aK.r (aK.l (aK.tl (aK.tl aK.hd rfl) rfl)) rfl) rfl) rfl) ?_
  refine WP.aG rfl ?_
  refine WL.pv (PV.vJ (n := 32) rfl gZ (by rw [hk]; rfl)) rfl ?_
  refine WL.nil ⟨(fa (fun _ _ => (aN.aF (H.p 2 rfl) (aK.r (aK.r (aK.l (aK.tl (aK.tl aK.hd rfl) rfl)) rfl) rfl) rfl)) (fa (fun _ _ => (aN.aF (H.l 0 rfl) (aK.all _) rfl)) (fa (nw 9 8) (fa (fun _ _ => (aN.aF (H.p 2 rfl) (aK.r (aK.r (aK.r (aK.r (aK.all _) rfl) rfl) rfl) rfl) rfl)) c5)))), ?_⟩
  refine WP.dN rfl rfl rfl cZ rfl ((bJ.whole (by exact (H.p 3 rfl : (bJ _ k) _)))) (cK cL (by simp only [aS, aX, aB, aD]; omega)) ?_
  refine WP.aG rfl ?_
  refine WL.call aA9 rfl (aBt (kd := kd) (dp := dp) (lk := lk) (lv := lv) (B := B) (k := k) (sl := sl) (pr := pr) H.aR wF mN hlv pU hs1 hk (by with_reducible exact aEK) (by with_reducible exact x6)) ?_
  rintro _ w5 ⟨rfl, hO⟩
  replace H := H.out hO
  refine WL.nil ⟨(fa (nw 17 10) (fa (nw 17 16) (fa (nw 17 11) (fa (nw 17 8) (fa (nw 17 3) c5))))), ?_⟩
  refine WP.as rfl rfl rfl (WP.done (WE.ret ⟨[_], _, .nil _, ⟨rfl, trivial⟩, ?_⟩))
  exact ⟨_, rfl, H.cR, H.o 0 rfl⟩
 ·
  try simp only [bW] at lT
  refine WE.skip ?_
  refine WE.bH (.take 0 (.take 1 (.take 2 (.take 3 (.take 4 (.take 5 (.take 6 (.take 7 (.take 8 (.take 11 (.take 12 (.take 13 (.take 14 (.take 15 (.take 16 (.aG 9 (.take 10 (.aG 17 (.take 18 .done))))))))))))))))))) mixed (by kernel_rfl) ?_
  replace H := H.out (Out.drew _)
  refine WP.mv rfl rfl rfl (WP.aC rfl rfl (PV.nilCheck rfl rfl) (WP.aC rfl rfl (PV.fieldAddr rfl wI rfl) ?_))
  refine WP.dN rfl rfl rfl nJ rfl (aN.aF (H.p 1 rfl) (aK.r (aK.r (aK.r (aK.r (aK.all _) rfl) rfl) rfl) rfl) rfl) (cK k8 (by simp only [aS, aX, aB, aD]; omega)) ?_
  refine WP.mv rfl rfl rfl (WP.aC rfl rfl (PV.nilCheck rfl rfl) (WP.aC rfl rfl (PV.fieldAddr rfl k4 rfl) (WP.aC rfl rfl (PV.fieldAddr rfl C6 rfl) ?_)))
  refine WP.aM rfl rfl (RV.aV rfl eU rfl) (aN.aF (H.p 1 rfl) (aK.r (aK.r (aK.l aK.hd) rfl) rfl) rfl) ?_
  refine WP.dN rfl rfl rfl fO rfl (aN.aF (H.l 0 rfl) (aK.all _) rfl) (by exact c9) ?_
  refine WP.mv rfl rfl rfl (WP.aC rfl rfl (PV.nilCheck rfl rfl) (WP.aC rfl rfl (PV.fieldAddr rfl k4 rfl) (WP.aC rfl rfl (PV.fieldAddr rfl C5 rfl) ?_)))
  refine WP.aM rfl rfl (RV.aV rfl u4 rfl) (aN.aF (H.p 1 rfl) (aK.r (aK.r (aK.l (aK.tl (aK.tl aK.hd rfl) rfl)) rfl) rfl) rfl) ?_
  refine WP.aG rfl ?_
  refine WL.pv (PV.vJ (n := 32) rfl gZ (by rw [hk]; rfl)) rfl ?_
  refine WL.nil ⟨(fa (fun _ _ => (aN.aF (H.p 1 rfl) (aK.r (aK.r (aK.l (aK.tl (aK.tl aK.hd rfl) rfl)) rfl) rfl) rfl)) (fa (fun _ _ => (aN.aF (H.l 0 rfl) (aK.all _) rfl)) (fa (nw 9 8) (fa (fun _ _ => (aN.aF (H.p 1 rfl) (aK.r (aK.r (aK.r (aK.r (aK.all _) rfl) rfl) rfl) rfl) rfl)) c5)))), ?_⟩
  refine WP.dN rfl rfl rfl cZ rfl ((bJ.whole (by exact (H.p 2 rfl : (bJ _ k) _)))) (cK cL (by simp only [aS, aX, aB, aD]; omega)) ?_
  refine WP.aG rfl ?_
  refine WL.call aA9 rfl (aBt (kd := kd) (dp := dp) (lk := lk) (lv := lv) (B := B) (k := k) (sl := sl) (pr := pr) H.aR wF mN hlv pU hs1 hk (by with_reducible exact CM) (by with_reducible exact aEQ lT)) ?_
  rintro _ w6 ⟨rfl, hO⟩
  replace H := H.out hO
  refine WL.nil ⟨(fa (nw 17 10) (fa (nw 17 16) (fa (nw 17 11) (fa (nw 17 8) (fa (nw 17 3) c5))))), ?_⟩
  refine WP.as rfl rfl rfl (WP.done (WE.ret ⟨[_], _, .nil _, ⟨rfl, trivial⟩, ?_⟩))
  exact ⟨_, rfl, H.cR, H.o 0 rfl⟩
theorem X1 {X : Nat → Prop} {w : World} {bk bh bc : Nat} {bits n0 : Int} {sr sk sv se : Value} {pr : Bool} {k vv rb : List UInt8} {kd dp : Nat} {lk lv B : List UInt8} {sl : Value} {sb : List (List UInt8)} (hX : cY X w) (eY : aN w bc 213 ([.int .i64 n0])) (bU : aJ (fun c_ => X c_ ∨ c_ = bc) (fQ bh bc bits) w) (dI : aJ (fun c_ => X c_ ∨ c_ = bc) (fun w => aN w bk 168 (JH bh sr sk sv pr se (fT kd dp lk lv B sl))) w) (fU : aJ (fun c_ => X c_ ∨ c_ = bc) (bJ sk k) w) (jY : aJ (fun c_ => X c_ ∨ c_ = bc) (bJ sr rb) w) (o9 : aJ (fun c_ => X c_ ∨ c_ = bc) (fB sl sb) w) (tP : aJ (fun c_ => X c_ ∨ c_ = bc) (aZ) w) (bS : 0 ≤ bits ∧ bits ≤ 256) (hp : jC kd dp lk lv B sb) (hk : k.length = 32) (hr : rb.length = 32) :
  bC prog 130 [.pointer (some ⟨bk, 0, none⟩)].toArray w fun v w' => ∃ m, v = .bool (decide ((fF bits k (gG bits dp B sb) (eB (cX (eS kd lk lv)) bits) dp) = rb)) ∧ Out (· = bc) w w' ∧ aN w' bc 213 [.int .i64 m] := by
 refine bC.aH (N := 36) func130 rfl rfl (by simp) ?_
 have H := ((((((St.dG (b := bc) (t := 213) (l := [.int .i64 n0]) hX eY).add (cC tP)).add (cC o9)).add (cC jY)).add (cC fU)).add (cC dI)).add (cC bU)
 have wF := hp.kd
 have mN := hp.uJ
 have hlv := hp.lvl
 have pU := hp.bl
 have vS : (fT kd dp lk lv B sl).length = 99 := gQ mN hlv pU
 have aEK := fY bits vv
 have hrl : (fF bits k (gG bits dp B sb) (eB (cX (eS kd lk lv)) bits) dp).length = 32 := oJ (cA _ _) _
 obtain ⟨ka, kcp, rfl⟩ := bJ.some (fU.here) (by omega)
 obtain ⟨ra, rcp, rfl⟩ := bJ.some (jY.here) (by omega)
 refine WE.aA (WL.as rfl rfl (WL.nil ?_))
 refine WE.bH (.take 0 (.take 1 (.take 2 (.take 3 (.take 4 (.take 5 (.take 6 (.take 7 (.take 8 (.take 9 (.take 10 (.take 11 (.take 12 (.jO 13 (.take 14 (.jO 15 (.take 16 (.take 17 (.take 18 (.aG 19 (.aG 20 (.take 21 .done)))))) 19 (.aG 15 (.take 16 (.take 17 (.take 18 (.aG 20 (.take 21 .done)))))))) 19 (.aG 13 (.take 14 (.aG 15 (.take 16 (.take 17 (.take 18 (.aG 20 (.take 21 .done)))))))))))))))))))))) mixed (by kernel_rfl) ?_
 replace H := H.out (Out.drew _)
 refine WP.mv rfl rfl rfl (WP.aC rfl rfl (PV.nilCheck rfl rfl) (WP.aC rfl rfl (PV.fieldAddr rfl LR rfl) (WP.aM rfl rfl (RV.aV rfl vX rfl) (aN.aF (H.p 1 rfl) (aK.l (aK.all _)) rfl) (WP.mv rfl rfl rfl (WP.aC rfl rfl (PV.nilCheck rfl rfl) (WP.aC rfl rfl (PV.fieldAddr rfl wI rfl) ?_))))))
 refine WP.dN rfl rfl rfl nJ rfl (aN.aF (H.p 1 rfl) (aK.r (aK.r (aK.r (aK.r (aK.all _) rfl) rfl) rfl) rfl) rfl) (cK k8 (by simp only [aS, aX, aB, aD]; omega)) ?_
 refine WP.mv rfl rfl rfl (WP.aC rfl rfl (PV.nilCheck rfl rfl) (WP.aC rfl rfl (PV.fieldAddr rfl k4 rfl) (WP.aC rfl rfl (PV.fieldAddr rfl C6 rfl) ?_)))
 refine WP.aM rfl rfl (RV.aV rfl eU rfl) (aN.aF (H.p 1 rfl) (aK.r (aK.r (aK.l aK.hd) rfl) rfl) rfl) ?_
 refine WP.jO rfl rfl ?_ ?_ 
 ·
  refine WL.pv (PV.vJ (n := 32) rfl gZ (by rw [hk]; rfl)) rfl ?_
  refine WL.nil ⟨(fa (nw 13 12) (fa (fun _ _ => (aN.aF (H.p 1 rfl) (aK.r (aK.r (aK.r (aK.r (aK.all _) rfl) rfl) rfl) rfl) rfl)) (fa (fun _ _ => (aN.aF (H.p 1 rfl) (aK.l (aK.all _)) rfl)) c5))), ?_⟩
  refine WP.dN rfl rfl rfl cZ rfl ((bJ.whole (by exact (H.p 2 rfl : (bJ _ k) _)))) (cK cL (by simp only [aS, aX, aB, aD]; omega)) ?_
  refine WP.jO rfl rfl ?_ ?_ 
  ·
   refine WL.call TI rfl (DK (kd := kd) (dp := dp) (lk := lk) (lv := lv) (B := B) (sl := sl) (sb := sb) (bits := bits) (k := k) H.aR (H.o 0 rfl) (by exact (H.aO 0 rfl 0 rfl : aJ _ (fQ bh bc bits) _)) (by exact (H.aO 0 rfl 4 rfl : aJ _ (fB sl sb) _)) (by exact (H.aO 0 rfl 5 rfl : aJ _ (aZ) _)) bS hp hk) ?_
   rintro _ w1 ⟨m21, rfl, hO, hB⟩
   replace H := H.fA 0 rfl hO hB
   refine WL.nil ⟨(fa (nw 15 14) (fa (nw 15 12) (fa (nw 15 7) (fa (nw 15 3) c5)))), ?_⟩
   refine WP.mv rfl rfl rfl (WP.aC rfl rfl (PV.extract rfl rfl rfl) (WP.aC rfl rfl (PV.extract rfl rfl rfl) (WP.aG rfl ?_)))
   refine WL.alloc H rfl k6 rfl ?_
   intro b3 w2 H
   refine WL.nil ⟨(fa (fun _ _ => ((bJ.whole (by exact (H.p 2 rfl : (bJ _ k) _))))) (fa (fun _ _ => (aN.aF (H.p 1 rfl) (aK.r (aK.r (aK.l aK.hd) rfl) rfl) rfl)) (fa (fun _ _ => (aN.aF (H.p 1 rfl) (aK.r (aK.r (aK.r (aK.r (aK.all _) rfl) rfl) rfl) rfl) rfl)) (fa (fun _ _ => (aN.aF (H.p 1 rfl) (aK.l (aK.all _)) rfl)) c5)))), ?_⟩
   refine WP.aG rfl ?_
   refine WL.aW H 0 rfl rfl rfl (new := kc (fF bits k (gG bits dp B sb) (eB (cX (eS kd lk lv)) bits) dp)) rfl (cK c9 (by simp only [aS, aX, aB, aD]; omega)) (bG _) (Laid.at (Laid.all (by simp only [aS, aX, aB, aD]; omega)) rfl) rfl ?_
   intro w3 H
   refine WL.nil ⟨(fa (nw 20 14) (fa (nw 20 12) (fa (nw 20 7) (fa (nw 20 3) c5)))), ?_⟩
   refine WP.as rfl rfl rfl (WP.done ?_)
   refine WE.bH (.take 0 (.take 1 (.take 2 (.take 3 (.take 4 (.take 5 (.take 6 (.take 7 (.aG 8 (.take 9 (.take 10 (.take 11 (.take 12 .done))))))))))))) mixed (by kernel_rfl) ?_
   replace H := H.out (Out.drew _)
   refine WP.mv rfl rfl rfl (WP.aC rfl rfl (PV.eql rfl rfl rfl) (WP.mv rfl rfl rfl ?_))
   refine WP.known (t := 26) (c := true) rfl rfl ?_
   refine WP.dN rfl rfl rfl fO rfl (aN.aF (H.l 0 rfl) (aK.all _) rfl) (cK c9 (by simp only [aS, aX, aB, aD]; omega)) ?_
   refine WP.mv rfl rfl rfl (WP.aC rfl rfl (PV.nilCheck rfl rfl) (WP.aC rfl rfl (PV.fieldAddr rfl wJ rfl) (WP.aM rfl rfl (RV.aV rfl eU rfl) (aN.aF (H.p 1 rfl) (aK.r (aK.l (aK.all _)) rfl) rfl) (WP.aG rfl ?_))))
   refine WL.pv (PV.vJ (n := 32) rfl oL (by rw [hr]; rfl)) rfl ?_
   refine WL.nil ⟨(fa (nw 8 7) (fa (fun _ _ => (aN.aF (H.l 0 rfl) (aK.all _) rfl)) c5)), ?_⟩
   refine WP.dN rfl rfl rfl fO rfl ((bJ.whole (by exact (H.p 3 rfl : (bJ _ rb) _)))) (cK c9 (by simp only [aS, aX, aB, aD]; omega)) ?_
   refine WP.aC rfl rfl (PV.zW rfl oL mC gO (by kernel_rfl) rfl rfl (by assumption) (by assumption)) (WP.aC rfl rfl (PV.dP rfl rfl rfl) (WP.as rfl rfl rfl (WP.done (WE.ret ⟨[_], _, .nil _, ⟨rfl, trivial⟩, ?_⟩))))
   exact ⟨_, rfl, H.cR, H.o 0 rfl⟩
  ·
   refine WL.alloc H rfl k6 rfl ?_
   intro b3 w4 H
   refine WL.nil ⟨(fa (fun _ _ => ((bJ.whole (by exact (H.p 2 rfl : (bJ _ k) _))))) (fa (fun _ _ => (aN.aF (H.p 1 rfl) (aK.r (aK.r (aK.l aK.hd) rfl) rfl) rfl)) (fa (fun _ _ => (aN.aF (H.p 1 rfl) (aK.r (aK.r (aK.r (aK.r (aK.all _) rfl) rfl) rfl) rfl) rfl)) (fa (fun _ _ => (aN.aF (H.p 1 rfl) (aK.l (aK.all _)) rfl)) c5)))), ?_⟩
   refine WP.aG rfl ?_
   refine WL.call TI rfl (DK (kd := kd) (dp := dp) (lk := lk) (lv := lv) (B := B) (sl := sl) (sb := sb) (bits := bits) (k := k) H.aR (H.o 0 rfl) (by exact (H.aO 0 rfl 0 rfl : aJ _ (fQ bh bc bits) _)) (by exact (H.aO 0 rfl 4 rfl : aJ _ (fB sl sb) _)) (by exact (H.aO 0 rfl 5 rfl : aJ _ (aZ) _)) bS hp hk) ?_
   rintro _ w5 ⟨m21, rfl, hO, hB⟩
   replace H := H.fA 0 rfl hO hB
   refine WL.nil ⟨(fa (nw 15 14) (fa (nw 15 12) (fa (nw 15 7) (fa (nw 15 3) c5)))), ?_⟩
   refine WP.mv rfl rfl rfl (WP.aC rfl rfl (PV.extract rfl rfl rfl) (WP.aC rfl rfl (PV.extract rfl rfl rfl) (WP.aG rfl ?_)))
   refine WL.aW H 0 rfl rfl rfl (new := kc (fF bits k (gG bits dp B sb) (eB (cX (eS kd lk lv)) bits) dp)) rfl (cK c9 (by simp only [aS, aX, aB, aD]; omega)) (bG _) (Laid.at (Laid.all (by simp only [aS, aX, aB, aD]; omega)) rfl) rfl ?_
   intro w6 H
   refine WL.nil ⟨(fa (nw 20 14) (fa (nw 20 12) (fa (nw 20 7) (fa (nw 20 3) c5)))), ?_⟩
   refine WP.as rfl rfl rfl (WP.done ?_)
   refine WE.bH (.take 0 (.take 1 (.take 2 (.take 3 (.take 4 (.take 5 (.take 6 (.take 7 (.aG 8 (.take 9 (.take 10 (.take 11 (.take 12 .done))))))))))))) mixed (by kernel_rfl) ?_
   replace H := H.out (Out.drew _)
   refine WP.mv rfl rfl rfl (WP.aC rfl rfl (PV.eql rfl rfl rfl) (WP.mv rfl rfl rfl ?_))
   refine WP.known (t := 26) (c := true) rfl rfl ?_
   refine WP.dN rfl rfl rfl fO rfl (aN.aF (H.l 0 rfl) (aK.all _) rfl) (cK c9 (by simp only [aS, aX, aB, aD]; omega)) ?_
   refine WP.mv rfl rfl rfl (WP.aC rfl rfl (PV.nilCheck rfl rfl) (WP.aC rfl rfl (PV.fieldAddr rfl wJ rfl) (WP.aM rfl rfl (RV.aV rfl eU rfl) (aN.aF (H.p 1 rfl) (aK.r (aK.l (aK.all _)) rfl) rfl) (WP.aG rfl ?_))))
   refine WL.pv (PV.vJ (n := 32) rfl oL (by rw [hr]; rfl)) rfl ?_
   refine WL.nil ⟨(fa (nw 8 7) (fa (fun _ _ => (aN.aF (H.l 0 rfl) (aK.all _) rfl)) c5)), ?_⟩
   refine WP.dN rfl rfl rfl fO rfl ((bJ.whole (by exact (H.p 3 rfl : (bJ _ rb) _)))) (cK c9 (by simp only [aS, aX, aB, aD]; omega)) ?_
   refine WP.aC rfl rfl (PV.zW rfl oL mC gO (by kernel_rfl) rfl rfl (by assumption) (by assumption)) (WP.aC rfl rfl (PV.dP rfl rfl rfl) (WP.as rfl rfl rfl (WP.done (WE.ret ⟨[_], _, .nil _, ⟨rfl, trivial⟩, ?_⟩))))
   exact ⟨_, rfl, H.cR, H.o 0 rfl⟩
 ·
  refine WL.alloc H rfl k6 rfl ?_
  intro b3 w7 H
  refine WL.nil ⟨(fa (fun _ _ => (aN.aF (H.p 1 rfl) (aK.r (aK.r (aK.l aK.hd) rfl) rfl) rfl)) (fa (fun _ _ => (aN.aF (H.p 1 rfl) (aK.r (aK.r (aK.r (aK.r (aK.all _) rfl) rfl) rfl) rfl) rfl)) (fa (fun _ _ => (aN.aF (H.p 1 rfl) (aK.l (aK.all _)) rfl)) c5))), ?_⟩
  refine WP.aG rfl ?_
  refine WL.pv (PV.vJ (n := 32) rfl gZ (by rw [hk]; rfl)) rfl ?_
  refine WL.nil ⟨(fa (nw 13 12) (fa (fun _ _ => (aN.aF (H.p 1 rfl) (aK.r (aK.r (aK.r (aK.r (aK.all _) rfl) rfl) rfl) rfl) rfl)) (fa (fun _ _ => (aN.aF (H.p 1 rfl) (aK.l (aK.all _)) rfl)) c5))), ?_⟩
  refine WP.dN rfl rfl rfl cZ rfl ((bJ.whole (by exact (H.p 2 rfl : (bJ _ k) _)))) (cK cL (by simp only [aS, aX, aB, aD]; omega)) ?_
  refine WP.aG rfl ?_
  refine WL.call TI rfl (DK (kd := kd) (dp := dp) (lk := lk) (lv := lv) (B := B) (sl := sl) (sb := sb) (bits := bits) (k := k) H.aR (H.o 0 rfl) (by exact (H.aO 0 rfl 0 rfl : aJ _ (fQ bh bc bits) _)) (by exact (H.aO 0 rfl 4 rfl : aJ _ (fB sl sb) _)) (by exact (H.aO 0 rfl 5 rfl : aJ _ (aZ) _)) bS hp hk) ?_
  rintro _ w8 ⟨m21, rfl, hO, hB⟩
  replace H := H.fA 0 rfl hO hB
  refine WL.nil ⟨(fa (nw 15 14) (fa (nw 15 12) (fa (nw 15 7) (fa (nw 15 3) c5)))), ?_⟩
  refine WP.mv rfl rfl rfl (WP.aC rfl rfl (PV.extract rfl rfl rfl) (WP.aC rfl rfl (PV.extract rfl rfl rfl) (WP.aG rfl ?_)))
  refine WL.aW H 0 rfl rfl rfl (new := kc (fF bits k (gG bits dp B sb) (eB (cX (eS kd lk lv)) bits) dp)) rfl (cK c9 (by simp only [aS, aX, aB, aD]; omega)) (bG _) (Laid.at (Laid.all (by simp only [aS, aX, aB, aD]; omega)) rfl) rfl ?_
  intro w9 H
  refine WL.nil ⟨(fa (nw 20 14) (fa (nw 20 12) (fa (nw 20 7) (fa (nw 20 3) c5)))), ?_⟩
  refine WP.as rfl rfl rfl (WP.done ?_)
  refine WE.bH (.take 0 (.take 1 (.take 2 (.take 3 (.take 4 (.take 5 (.take 6 (.take 7 (.aG 8 (.take 9 (.take 10 (.take 11 (.take 12 .done))))))))))))) mixed (by kernel_rfl) ?_
  replace H := H.out (Out.drew _)
  refine WP.mv rfl rfl rfl (WP.aC rfl rfl (PV.eql rfl rfl rfl) (WP.mv rfl rfl rfl ?_))
  refine WP.known (t := 26) (c := true) rfl rfl ?_
  refine WP.dN rfl rfl rfl fO rfl (aN.aF (H.l 0 rfl) (aK.all _) rfl) (cK c9 (by simp only [aS, aX, aB, aD]; omega)) ?_
  refine WP.mv rfl rfl rfl (WP.aC rfl rfl (PV.nilCheck rfl rfl) (WP.aC rfl rfl (PV.fieldAddr rfl wJ rfl) (WP.aM rfl rfl (RV.aV rfl eU rfl) (aN.aF (H.p 1 rfl) (aK.r (aK.l (aK.all _)) rfl) rfl) (WP.aG rfl ?_))))
  refine WL.pv (PV.vJ (n := 32) rfl oL (by rw [hr]; rfl)) rfl ?_
  refine WL.nil ⟨(fa (nw 8 7) (fa (fun _ _ => (aN.aF (H.l 0 rfl) (aK.all _) rfl)) c5)), ?_⟩
  refine WP.dN rfl rfl rfl fO rfl ((bJ.whole (by exact (H.p 3 rfl : (bJ _ rb) _)))) (cK c9 (by simp only [aS, aX, aB, aD]; omega)) ?_
  refine WP.aC rfl rfl (PV.zW rfl oL mC gO (by kernel_rfl) rfl rfl (by assumption) (by assumption)) (WP.aC rfl rfl (PV.dP rfl rfl rfl) (WP.as rfl rfl rfl (WP.done (WE.ret ⟨[_], _, .nil _, ⟨rfl, trivial⟩, ?_⟩))))
  exact ⟨_, rfl, H.cR, H.o 0 rfl⟩
theorem aD8 {X : Nat → Prop} {w : World} {bk bh bc : Nat} {bits n0 : Int} {sr sk sv se : Value} {pr : Bool} {k vv rb : List UInt8} {kd dp : Nat} {lk lv B : List UInt8} {sl : Value} {sb : List (List UInt8)} (hX : cY X w) (eY : aN w bc 213 ([.int .i64 n0])) (bU : aJ (fun c_ => X c_ ∨ c_ = bc) (fQ bh bc bits) w) (dI : aJ (fun c_ => X c_ ∨ c_ = bc) (fun w => aN w bk 168 (JH bh sr sk sv pr se (fT kd dp lk lv B sl))) w) (fU : aJ (fun c_ => X c_ ∨ c_ = bc) (bJ sk k) w) (jY : aJ (fun c_ => X c_ ∨ c_ = bc) (bJ sv vv) w) (o9 : aJ (fun c_ => X c_ ∨ c_ = bc) (fB sl sb) w) (tP : aJ (fun c_ => X c_ ∨ c_ = bc) (aZ) w) (bS : 0 ≤ bits ∧ bits ≤ 256) (hp : jC kd dp lk lv B sb) (hk : k.length = 32) (hv : vv.length ≤ 65535) (x6 : yZ kd dp lk lv k (nC bits vv) pr) :
  bC prog 127 [.pointer (some ⟨bk, 0, none⟩)].toArray w fun v w' => ∃ m, v = .int .i64 0 ∧ Out (· = bc) w w' ∧ aN w' bc 213 [.int .i64 m] := by
 refine bC.aH (N := 7) func127 rfl rfl (by simp) ?_
 have H := ((((((St.dG (b := bc) (t := 213) (l := [.int .i64 n0]) hX eY).add (cC tP)).add (cC o9)).add (cC jY)).add (cC fU)).add (cC dI)).add (cC bU)
 refine WE.aA (WL.as rfl rfl (WL.nil (WE.aA (WL.mv rfl rfl ?_))))
 refine WL.call aGU rfl (HO (bk := bk) (bh := bh) (bits := bits) (k := k) (vv := vv) (rb := []) (sr := sr) (sk := sk) (sv := sv) (se := se) (pr := pr) (kd := kd) (dp := dp) (lk := lk) (lv := lv) (B := B) (sl := sl) (sb := sb) H.aR (H.o 0 rfl) (by exact (H.aO 0 rfl 0 rfl : aJ _ (fQ bh bc bits) _)) (by exact (H.aO 0 rfl 1 rfl : aJ _ (fun w => aN w bk 168 (JH bh sr sk sv pr se (fT kd dp lk lv B sl))) _)) (by exact (H.aO 0 rfl 2 rfl : aJ _ (bJ sk k) _)) (by exact (H.aO 0 rfl 3 rfl : aJ _ (bJ sv vv) _)) (by exact (H.aO 0 rfl 4 rfl : aJ _ (fB sl sb) _)) (by exact (H.aO 0 rfl 5 rfl : aJ _ (aZ) _)) bS hp hk hv x6) ?_
 rintro _ w1 ⟨m4, rfl, hO, hB⟩
 replace H := H.fA 0 rfl hO hB
 refine WL.pv (PV.not rfl rfl) rfl ?_
 refine WL.call BC rfl (tV (c := _) (e := 12) H.aR) ?_
 rintro _ w2 ⟨rfl, hO⟩
 replace H := H.out hO
 refine WL.as rfl rfl (WL.nil (WE.ret ⟨[_], _, .nil _, ⟨rfl, trivial⟩, ?_⟩))
 exact ⟨_, rfl, H.cR, H.o 0 rfl⟩
theorem aD7 {X : Nat → Prop} {w : World} {bk bh bc : Nat} {bits n0 : Int} {sr sk sv se : Value} {pr : Bool} {k vv rb : List UInt8} {kd dp : Nat} {lk lv B : List UInt8} {sl : Value} {sb : List (List UInt8)} (hX : cY X w) (eY : aN w bc 213 ([.int .i64 n0])) (bU : aJ (fun c_ => X c_ ∨ c_ = bc) (fQ bh bc bits) w) (dI : aJ (fun c_ => X c_ ∨ c_ = bc) (fun w => aN w bk 168 (JH bh sr sk sv pr se (fT kd dp lk lv B sl))) w) (fU : aJ (fun c_ => X c_ ∨ c_ = bc) (bJ sk k) w) (jY : aJ (fun c_ => X c_ ∨ c_ = bc) (bJ sr rb) w) (o9 : aJ (fun c_ => X c_ ∨ c_ = bc) (fB sl sb) w) (tP : aJ (fun c_ => X c_ ∨ c_ = bc) (aZ) w) (bS : 0 ≤ bits ∧ bits ≤ 256) (hp : jC kd dp lk lv B sb) (hk : k.length = 32) (hr : rb.length = 32) :
  bC prog 129 [.pointer (some ⟨bk, 0, none⟩)].toArray w fun v w' => ∃ m, v = .int .i64 (if (fF bits k (gG bits dp B sb) (eB (cX (eS kd lk lv)) bits) dp) = rb then 0 else 13) ∧ Out (· = bc) w w' ∧ aN w' bc 213 [.int .i64 m] := by
 refine bC.aH (N := 7) func129 rfl rfl (by simp) ?_
 have H := ((((((St.dG (b := bc) (t := 213) (l := [.int .i64 n0]) hX eY).add (cC tP)).add (cC o9)).add (cC jY)).add (cC fU)).add (cC dI)).add (cC bU)
 refine WE.aA (WL.as rfl rfl (WL.nil (WE.aA (WL.mv rfl rfl ?_))))
 refine WL.call aGS rfl (X1 (bk := bk) (bh := bh) (bits := bits) (k := k) (vv := []) (rb := rb) (sr := sr) (sk := sk) (sv := sv) (se := se) (pr := pr) (kd := kd) (dp := dp) (lk := lk) (lv := lv) (B := B) (sl := sl) (sb := sb) H.aR (H.o 0 rfl) (by exact (H.aO 0 rfl 0 rfl : aJ _ (fQ bh bc bits) _)) (by exact (H.aO 0 rfl 1 rfl : aJ _ (fun w => aN w bk 168 (JH bh sr sk sv pr se (fT kd dp lk lv B sl))) _)) (by exact (H.aO 0 rfl 2 rfl : aJ _ (bJ sk k) _)) (by exact (H.aO 0 rfl 3 rfl : aJ _ (bJ sr rb) _)) (by exact (H.aO 0 rfl 4 rfl : aJ _ (fB sl sb) _)) (by exact (H.aO 0 rfl 5 rfl : aJ _ (aZ) _)) bS hp hk hr) ?_
 rintro _ w1 ⟨m4, rfl, hO, hB⟩
 replace H := H.fA 0 rfl hO hB
 refine WL.pv (PV.not rfl rfl) rfl ?_
 refine WL.call BC rfl (tV (c := _) (e := 13) H.aR) ?_
 rintro _ w2 ⟨rfl, hO⟩
 replace H := H.out hO
 refine WL.as rfl rfl (WL.nil (WE.ret ⟨[_], _, .nil _, ⟨rfl, trivial⟩, ?_⟩))
 refine ⟨_, ?_, H.cR, H.o 0 rfl⟩
 show Value.int .i64 _ = Value.int .i64 _
 congr 1
 by_cases h_ : (fF bits k (gG bits dp B sb) (eB (cX (eS kd lk lv)) bits) dp) = rb
 ·
  simp [h_]
 ·
  simp [h_]
open Go.Extern
theorem EK (v x : Value) : Extern.ReflectliteValue.set [v, x].toArray = (do
  let (some (dst, a, fl), some (src, b, _)) := (← Extern.ReflectliteValue.parts v, ← Extern.ReflectliteValue.parts x)
   | unsupported (.noEntry "extern/(internal/reflectlite.Value).Set.zeroValue")
  if fl / Extern.ReflectliteValue.flagAddr % 2 == 0 then unsupported (.noEntry "extern/(internal/reflectlite.Value).Set.unaddressable")
  let val ← loadVar src b
  if ← Extern.Rtype.directlyAssignable dst src then storeVar dst a val
  else if ← Extern.Rtype.implements dst src then
   if (← Extern.Rtype.kind src) == 20 then
    match val with
    | .nilIface => unsupported (.noEntry "extern/reflectlite: a nil value of one interface type handed on as a value of another")
    | _ => storeVar dst a val
   else storeVar dst a (.iface src val)
  else panicString ("reflectlite.Set: value of type " ++ (← Extern.Rtype.spelt src) ++ " is not assignable to type " ++ (← Extern.Rtype.spelt dst))
  pure (.tuple #[])) := rfl
def fD (w : World) : Prop := dA w ⟨0, 0, none⟩ [(.iface 223 (.agg [(.pointer (some ⟨3, 61, none⟩))].toArray))]
theorem meK (h : Value) (w : World) : (Go.method (prog.types.size + Made.depth) 223 (.agg [h].toArray) "Kind").run prog w = .ok (237, h) w := by kernel_rfl
theorem meE (h : Value) (w : World) : (Go.method (prog.types.size + Made.depth) 223 (.agg [h].toArray) "Elem").run prog w = .ok (253, .agg [h].toArray) w := by kernel_rfl
theorem meI (h : Value) (w : World) : (Go.method (prog.types.size + Made.depth) 223 (.agg [h].toArray) "Implements").run prog w = .ok (254, .agg [h].toArray) w := by kernel_rfl
theorem meA (h : Value) (w : World) : (Go.method (prog.types.size + Made.depth) 223 (.agg [h].toArray) "AssignableTo").run prog w = .ok (251, .agg [h].toArray) w := by kernel_rfl
theorem meC (h : Value) (w : World) : (Go.method (prog.types.size + Made.depth) 223 (.agg [h].toArray) "Comparable").run prog w = .ok (252, .agg [h].toArray) w := by kernel_rfl
abbrev rvV (t : TypeId) (fl : Int) (b : Nat) : Value := .agg [.pointer (some ⟨3, t, none⟩), .pointer (some ⟨b, 0, none⟩), .int .u64 fl].toArray
theorem aKc (w : World) : ((Extern.ReflectliteType.relation "AssignableTo" Extern.ReflectliteType.assignableTo) [.agg [(.pointer (some ⟨3, 219, none⟩))].toArray, (.iface 223 (.agg [(.pointer (some ⟨3, 42, none⟩))].toArray))].toArray).run prog w = .ok (.bool false) w := by kernel_rfl
theorem voE (t : Addr) (w : World) : (Extern.ReflectliteValue.unpack (.iface 97 (.pointer (some t)))).run prog w = .ok (.agg [(.pointer (some ⟨3, 97, none⟩)), .pointer (some ⟨w.heap.size, 0, none⟩), .int .u64 150].toArray) (w.alloc (.cells [.pointer (some t)].toArray 97)) := by kernel_rfl
theorem tyE (a : Addr) (w : World) : ((Extern.ReflectliteValue.methodAny (Extern.ReflectliteValue.valueError "reflectlite.Value.Type" 0) (fun t _ _ _ => Extern.ReflectliteType.toType t)) [(.agg [(.pointer (some ⟨3, 97, none⟩)), .pointer (some a), .int .u64 150].toArray)].toArray).run prog w = .ok (.iface 223 (.agg [(.pointer (some ⟨3, 97, none⟩))].toArray)) w := by kernel_rfl
theorem kiE (w : World) : ((Extern.ReflectliteType.abiMethod fun t => do pure (.int .u8 (← Extern.Rtype.kind t))) [(.pointer (some ⟨3, 97, none⟩))].toArray).run prog w = .ok (.int .u8 22) w := by kernel_rfl
theorem kjE (w : World) : ((Extern.ReflectliteType.abiMethod fun t => do pure (.int .u8 (← Extern.Rtype.kind t))) [(.pointer (some ⟨3, 42, none⟩))].toArray).run prog w = .ok (.int .u8 2) w := by kernel_rfl
theorem paE (a : Addr) (w : World) : (Extern.ReflectliteValue.parts (.agg [(.pointer (some ⟨3, 97, none⟩)), .pointer (some a), .int .u64 150].toArray)).run prog w = .ok (some (97, a, 150)) w := by kernel_rfl
theorem niE (a p : Addr) (W : World) (ha : W.cell? a = some (.pointer (some p))) : ((Extern.ReflectliteValue.method (Extern.ReflectliteValue.valueError "reflectlite.Value.IsNil" 0) Extern.ReflectliteValue.isNil) [(.agg [(.pointer (some ⟨3, 97, none⟩)), .pointer (some a), .int .u64 150].toArray)].toArray).run prog W = .ok (.bool false) W := by
 have e : ∀ (z : Sem Value) (f : TypeId → Addr → Nat → Nat → Sem Value) (v : Value), Extern.ReflectliteValue.method z f [v].toArray = (do match ← Extern.ReflectliteValue.parts v with | none => z | some (t, a, fl) => f t a fl (fl % 32)) := fun _ _ _ => rfl
 rw [e]
 simp only [Sem.run_bind, paE, Result.andThen]
 simp [Extern.ReflectliteValue.isNil, loadVar, isAgg, underlying, Tryz.underlying97, ha, Result.andThen]
theorem elE (w : World) : ((Extern.ReflectliteType.method Extern.ReflectliteType.elem) [.agg [(.pointer (some ⟨3, 97, none⟩))].toArray].toArray).run prog w = .ok (.iface 223 (.agg [(.pointer (some ⟨3, 42, none⟩))].toArray)) w := by kernel_rfl
theorem imE (w : World) : ((Extern.ReflectliteType.relation "Implements" Extern.ReflectliteType.implements_) [.agg [(.pointer (some ⟨3, 42, none⟩))].toArray, (.iface 223 (.agg [(.pointer (some ⟨3, 61, none⟩))].toArray))].toArray).run prog w = .ok (.bool true) w := by kernel_rfl
theorem asE (w : World) : ((Extern.ReflectliteType.relation "AssignableTo" Extern.ReflectliteType.assignableTo) [.agg [(.pointer (some ⟨3, 42, none⟩))].toArray, (.iface 223 (.agg [(.pointer (some ⟨3, 42, none⟩))].toArray))].toArray).run prog w = .ok (.bool true) w := by kernel_rfl
theorem toE (c : Int) (w : World) : (Extern.ReflectliteType.typeOf [.iface 42 (.int .i64 c)].toArray).run prog w = .ok (.iface 223 (.agg [(.pointer (some ⟨3, 42, none⟩))].toArray)) w := by kernel_rfl
theorem vwE (c : Int) (w : World) : (Extern.ReflectliteValue.unpack (.iface 42 (.int .i64 c))).run prog w = .ok (.agg [(.pointer (some ⟨3, 42, none⟩)), .pointer (some ⟨w.heap.size, 0, none⟩), .int .u64 130].toArray) (w.alloc (.cells [(.int .i64 c)].toArray 42)) := by kernel_rfl
theorem eoE (w : World) : (Extern.Rtype.elem? 97).run prog w = .ok (some 42) w := by kernel_rfl
theorem mkE (p : Addr) (w : World) : (Extern.ReflectliteValue.mk 42 p Extern.ReflectliteValue.flagAddr).run prog w = .ok (.agg [(.pointer (some ⟨3, 42, none⟩)), .pointer (some p), .int .u64 386].toArray) w := by kernel_rfl
theorem evE (a p : Addr) (W : World) (ha : W.cell? a = some (.pointer (some p))) : ((Extern.ReflectliteValue.method (Extern.ReflectliteValue.valueError "reflectlite.Value.Elem" 0) Extern.ReflectliteValue.elem) [(.agg [(.pointer (some ⟨3, 97, none⟩)), .pointer (some a), .int .u64 150].toArray)].toArray).run prog W = .ok (.agg [(.pointer (some ⟨3, 42, none⟩)), .pointer (some p), .int .u64 386].toArray) W := by
 have e : ∀ (z : Sem Value) (f : TypeId → Addr → Nat → Nat → Sem Value) (v : Value), Extern.ReflectliteValue.method z f [v].toArray = (do match ← Extern.ReflectliteValue.parts v with | none => z | some (t, a, fl) => f t a fl (fl % 32)) := fun _ _ _ => rfl
 rw [e]
 simp only [Sem.run_bind, paE, Result.andThen]
 simp [Extern.ReflectliteValue.elem, loadVar, isAgg, underlying, Tryz.underlying97, ha, Result.andThen, eoE, mkE]
theorem pbE (a : Addr) (w : World) : (Extern.ReflectliteValue.parts (.agg [(.pointer (some ⟨3, 42, none⟩)), .pointer (some a), .int .u64 386].toArray)).run prog w = .ok (some (42, a, 386)) w := by kernel_rfl
theorem pcE (a : Addr) (w : World) : (Extern.ReflectliteValue.parts (.agg [(.pointer (some ⟨3, 42, none⟩)), .pointer (some a), .int .u64 130].toArray)).run prog w = .ok (some (42, a, 130)) w := by kernel_rfl
theorem diE (w : World) : (Extern.Rtype.directlyAssignable 42 42).run prog w = .ok true w := by kernel_rfl
theorem stE (ta b : Addr) (c : Int) (old : Value) (W : World) (hb : W.cell? b = some (.int .i64 c)) (ht : W.cell? ta = some old) (hf : W.frozen? ta = false) :
  (Extern.ReflectliteValue.set [(.agg [(.pointer (some ⟨3, 42, none⟩)), .pointer (some ta), .int .u64 386].toArray), (.agg [(.pointer (some ⟨3, 42, none⟩)), .pointer (some b), .int .u64 130].toArray)].toArray).run prog W = .ok (.tuple #[]) (W.setCell ta (.int .i64 c)) := by
 rw [EK]
 simp only [Sem.run_bind, pbE, pcE, Result.andThen]
 simp [Extern.ReflectliteValue.flagAddr, loadVar, isAgg, underlying, Tryz.underlying42, hb, Result.andThen, diE, storeVar, Value.cells, storeCells, Addr.add]
 rw [run_store prog W ta _ _ rfl]
 simp [ht, hf]
theorem voF (t : Addr) (w : World) : (Extern.ReflectliteValue.unpack (.iface 235 (.pointer (some t)))).run prog w = .ok (.agg [(.pointer (some ⟨3, 235, none⟩)), .pointer (some ⟨w.heap.size, 0, none⟩), .int .u64 150].toArray) (w.alloc (.cells [.pointer (some t)].toArray 235)) := by kernel_rfl
theorem tyF (a : Addr) (w : World) : ((Extern.ReflectliteValue.methodAny (Extern.ReflectliteValue.valueError "reflectlite.Value.Type" 0) (fun t _ _ _ => Extern.ReflectliteType.toType t)) [(.agg [(.pointer (some ⟨3, 235, none⟩)), .pointer (some a), .int .u64 150].toArray)].toArray).run prog w = .ok (.iface 223 (.agg [(.pointer (some ⟨3, 235, none⟩))].toArray)) w := by kernel_rfl
theorem kiF (w : World) : ((Extern.ReflectliteType.abiMethod fun t => do pure (.int .u8 (← Extern.Rtype.kind t))) [(.pointer (some ⟨3, 235, none⟩))].toArray).run prog w = .ok (.int .u8 22) w := by kernel_rfl
theorem kjF (w : World) : ((Extern.ReflectliteType.abiMethod fun t => do pure (.int .u8 (← Extern.Rtype.kind t))) [(.pointer (some ⟨3, 219, none⟩))].toArray).run prog w = .ok (.int .u8 22) w := by kernel_rfl
theorem paF (a : Addr) (w : World) : (Extern.ReflectliteValue.parts (.agg [(.pointer (some ⟨3, 235, none⟩)), .pointer (some a), .int .u64 150].toArray)).run prog w = .ok (some (235, a, 150)) w := by kernel_rfl
theorem niF (a p : Addr) (W : World) (ha : W.cell? a = some (.pointer (some p))) : ((Extern.ReflectliteValue.method (Extern.ReflectliteValue.valueError "reflectlite.Value.IsNil" 0) Extern.ReflectliteValue.isNil) [(.agg [(.pointer (some ⟨3, 235, none⟩)), .pointer (some a), .int .u64 150].toArray)].toArray).run prog W = .ok (.bool false) W := by
 have e : ∀ (z : Sem Value) (f : TypeId → Addr → Nat → Nat → Sem Value) (v : Value), Extern.ReflectliteValue.method z f [v].toArray = (do match ← Extern.ReflectliteValue.parts v with | none => z | some (t, a, fl) => f t a fl (fl % 32)) := fun _ _ _ => rfl
 rw [e]
 simp only [Sem.run_bind, paF, Result.andThen]
 simp [Extern.ReflectliteValue.isNil, loadVar, isAgg, underlying, Tryz.underlying235, ha, Result.andThen]
theorem elF (w : World) : ((Extern.ReflectliteType.method Extern.ReflectliteType.elem) [.agg [(.pointer (some ⟨3, 235, none⟩))].toArray].toArray).run prog w = .ok (.iface 223 (.agg [(.pointer (some ⟨3, 219, none⟩))].toArray)) w := by kernel_rfl
theorem imF (w : World) : ((Extern.ReflectliteType.relation "Implements" Extern.ReflectliteType.implements_) [.agg [(.pointer (some ⟨3, 219, none⟩))].toArray, (.iface 223 (.agg [(.pointer (some ⟨3, 61, none⟩))].toArray))].toArray).run prog w = .ok (.bool true) w := by kernel_rfl
theorem asF (w : World) : ((Extern.ReflectliteType.relation "AssignableTo" Extern.ReflectliteType.assignableTo) [.agg [(.pointer (some ⟨3, 219, none⟩))].toArray, (.iface 223 (.agg [(.pointer (some ⟨3, 219, none⟩))].toArray))].toArray).run prog w = .ok (.bool true) w := by kernel_rfl
theorem toF (p_ : Addr) (w : World) : (Extern.ReflectliteType.typeOf [.iface 219 (.pointer (some p_))].toArray).run prog w = .ok (.iface 223 (.agg [(.pointer (some ⟨3, 219, none⟩))].toArray)) w := by kernel_rfl
theorem vwF (p_ : Addr) (w : World) : (Extern.ReflectliteValue.unpack (.iface 219 (.pointer (some p_)))).run prog w = .ok (.agg [(.pointer (some ⟨3, 219, none⟩)), .pointer (some ⟨w.heap.size, 0, none⟩), .int .u64 150].toArray) (w.alloc (.cells [(.pointer (some p_))].toArray 219)) := by kernel_rfl
theorem eoF (w : World) : (Extern.Rtype.elem? 235).run prog w = .ok (some 219) w := by kernel_rfl
theorem mkF (p : Addr) (w : World) : (Extern.ReflectliteValue.mk 219 p Extern.ReflectliteValue.flagAddr).run prog w = .ok (.agg [(.pointer (some ⟨3, 219, none⟩)), .pointer (some p), .int .u64 406].toArray) w := by kernel_rfl
theorem evF (a p : Addr) (W : World) (ha : W.cell? a = some (.pointer (some p))) : ((Extern.ReflectliteValue.method (Extern.ReflectliteValue.valueError "reflectlite.Value.Elem" 0) Extern.ReflectliteValue.elem) [(.agg [(.pointer (some ⟨3, 235, none⟩)), .pointer (some a), .int .u64 150].toArray)].toArray).run prog W = .ok (.agg [(.pointer (some ⟨3, 219, none⟩)), .pointer (some p), .int .u64 406].toArray) W := by
 have e : ∀ (z : Sem Value) (f : TypeId → Addr → Nat → Nat → Sem Value) (v : Value), Extern.ReflectliteValue.method z f [v].toArray = (do match ← Extern.ReflectliteValue.parts v with | none => z | some (t, a, fl) => f t a fl (fl % 32)) := fun _ _ _ => rfl
 rw [e]
 simp only [Sem.run_bind, paF, Result.andThen]
 simp [Extern.ReflectliteValue.elem, loadVar, isAgg, underlying, Tryz.underlying235, ha, Result.andThen, eoF, mkF]
theorem pbF (a : Addr) (w : World) : (Extern.ReflectliteValue.parts (.agg [(.pointer (some ⟨3, 219, none⟩)), .pointer (some a), .int .u64 406].toArray)).run prog w = .ok (some (219, a, 406)) w := by kernel_rfl
theorem pcF (a : Addr) (w : World) : (Extern.ReflectliteValue.parts (.agg [(.pointer (some ⟨3, 219, none⟩)), .pointer (some a), .int .u64 150].toArray)).run prog w = .ok (some (219, a, 150)) w := by kernel_rfl
theorem diF (w : World) : (Extern.Rtype.directlyAssignable 219 219).run prog w = .ok true w := by kernel_rfl
theorem stF (ta b : Addr) (p_ : Addr) (old : Value) (W : World) (hb : W.cell? b = some (.pointer (some p_))) (ht : W.cell? ta = some old) (hf : W.frozen? ta = false) :
  (Extern.ReflectliteValue.set [(.agg [(.pointer (some ⟨3, 219, none⟩)), .pointer (some ta), .int .u64 406].toArray), (.agg [(.pointer (some ⟨3, 219, none⟩)), .pointer (some b), .int .u64 150].toArray)].toArray).run prog W = .ok (.tuple #[]) (W.setCell ta (.pointer (some p_))) := by
 rw [EK]
 simp only [Sem.run_bind, pbF, pcF, Result.andThen]
 simp [Extern.ReflectliteValue.flagAddr, loadVar, isAgg, underlying, Tryz.underlying219, hb, Result.andThen, diF, storeVar, Value.cells, storeCells, Addr.add]
 rw [run_store prog W ta _ _ rfl]
 simp [ht, hf]
theorem taA (v : Value) (w : World) : (Instr.typeAssert (.iface 219 v) 61 227 true).run prog w = .ok (.tuple [.nilIface, .bool false].toArray) w := Go.run_typeAssert_lacksB Tryz.underlying227 (by kernel_rfl) (by kernel_rfl) v 61 w
theorem taU (v : Value) (w : World) : (Instr.typeAssert (.iface 219 v) 61 230 true).run prog w = .ok (.tuple [.iface 219 v, .bool true].toArray) w := Go.run_typeAssert_hasB Tryz.underlying230 (by kernel_rfl) v 61 w
theorem aHx {X : Nat → Prop} {w : World} {bt vI : Nat} {old : Value} {bf : Nat} {op : List UInt8} {ix code : Int} (hX : cY X w) (eY : aN w bt 42 ([old])) (bU : aJ (fun c_ => X c_ ∨ c_ = bt) (fun w => dA w ⟨vI, 0, none⟩ [.pointer (some ⟨bt, 0, none⟩)]) w) (dI : aJ (fun c_ => X c_ ∨ c_ = bt) (fun w => aN w bf 221 (dV op ix code)) w) :
  bC prog 84 [.iface 219 (.pointer (some ⟨bf, 0, none⟩)), .iface 97 (.pointer (some ⟨bt, 0, none⟩)), (.agg [(.pointer (some ⟨3, 97, none⟩)), .pointer (some ⟨vI, 0, none⟩), .int .u64 150].toArray), (.iface 223 (.agg [(.pointer (some ⟨3, 42, none⟩))].toArray))].toArray w fun v w' => v = .bool true ∧ Out (· = bt) w w' ∧ aN w' bt 42 [.int .i64 code] := by
 refine bC.aH (N := 62) func84 rfl rfl (by simp) ?_
 have H := ((St.dG (b := bt) (t := 42) (l := [old]) hX eY).add (cC dI)).add (cC bU)
 refine WE.aA ?_
 refine WL.box (l := [(.pointer (some ⟨3, 97, none⟩)), .pointer (some ⟨vI, 0, none⟩), .int .u64 150]) H rfl rfl rfl ?_
 intro b6 w1 H
 refine WL.as rfl rfl (WL.nil (WE.block ?_))
 refine WE.jX 2 ?_
 refine dW.step ?_
 refine WE.block (WE.seq (WE.aA (WL.mv rfl rfl ?_)))
 refine WL.extern (e := Extern.ReflectliteType.typeOf) func97 (by kernel_rfl) (by kernel_rfl) (by kernel_rfl) (by kernel_rfl) rfl (toF _ _) ?_
 refine WL.mv rfl rfl ?_
 refine WL.jQ (e := (Extern.ReflectliteType.relation "AssignableTo" Extern.ReflectliteType.assignableTo)) rfl (fun w => meA _ w) func251 (by kernel_rfl) (by kernel_rfl) (by kernel_rfl) (by kernel_rfl) rfl (aKc _) ?_
 refine WL.nil ?_
 refine WE.bD rfl rfl ?_
 refine WE.skip (WE.seq (WE.aA (WL.mv rfl rfl ?_)))
 refine WL.pv (PV.MA rfl (fun w => taA _ w)) rfl ?_
 refine WL.mv rfl rfl (WL.pv (PV.extract rfl rfl rfl) rfl (WL.pv (PV.extract rfl rfl rfl) rfl (WL.as rfl rfl (WL.as rfl rfl (WL.nil (WE.aA (WL.mv rfl rfl ?_)))))))
 refine WL.mv rfl rfl (WL.known (t := 31) (c := false) rfl rfl (WL.off rfl (WL.off rfl (WL.off rfl (WL.pv (PV.dF rfl rfl rfl) rfl (WL.nil (WE.jB rfl ?_)))))))
 refine WE.skip (WE.aA (WL.mv rfl rfl (WL.nil (WE.block (WE.aA ?_)))))
 refine WL.pv (PV.MA rfl (fun w => taU _ w)) rfl ?_
 refine WL.pv (PV.extract rfl rfl rfl) rfl (WL.pv (PV.extract rfl rfl rfl) rfl (WL.nil ?_))
 refine WE.cS rfl rfl ?_
 refine WE.aA (WL.as rfl rfl (WL.nil (WE.aA (WL.mv rfl rfl ?_))))
 refine WL.X9 rfl (by kernel_rfl) aAB aF6 rfl (U3 (bf := bf) (op := op) (ix := ix) (code := code) H.aR (by exact (H.bK 1 rfl : aJ _ (fun w => aN w bf 221 (dV op ix code)) _))) ?_
 rintro _ w5 ⟨rfl, hO⟩
 replace H := H.out hO
 refine WL.as rfl rfl (WL.nil (WE.aA (WL.mv rfl rfl ?_)))
 refine WL.pv (PV.qF rfl (by kernel_rfl) (by exact zH.of)) rfl ?_
 refine WL.nil ?_
 refine WE.bD rfl rfl ?_
 refine WE.skip ?_
 refine dW.step ?_
 refine WE.block (WE.seq (WE.aA (WL.mv rfl rfl ?_)))
 refine WL.extern (e := Extern.ReflectliteType.typeOf) func97 (by kernel_rfl) (by kernel_rfl) (by kernel_rfl) (by kernel_rfl) rfl (toE code _) ?_
 refine WL.mv rfl rfl ?_
 refine WL.jQ (e := (Extern.ReflectliteType.relation "AssignableTo" Extern.ReflectliteType.assignableTo)) rfl (fun w => meA _ w) func251 (by kernel_rfl) (by kernel_rfl) (by kernel_rfl) (by kernel_rfl) rfl (asE _) ?_
 refine WL.nil ?_
 refine WE.cS rfl rfl ?_
 refine WE.aA ?_
 refine WL.bE rfl vK rfl rfl (aN.aF (H.l 0 rfl) (aK.all _) rfl) (by exact q6) ?_
 refine WL.extern (e := (Extern.ReflectliteValue.method (Extern.ReflectliteValue.valueError "reflectlite.Value.Elem" 0) Extern.ReflectliteValue.elem)) func131 (by kernel_rfl) (by kernel_rfl) (by kernel_rfl) (by kernel_rfl) rfl (evE _ _ _ (by exact (by have h_ := (H.p 0 rfl : dA _ ⟨vI, 0, none⟩ [.pointer (some ⟨bt, 0, none⟩)]) 0 _ rfl; rwa [show ((⟨vI, 0, none⟩ : Addr).add 0) = ⟨vI, 0, none⟩ from rfl] at h_))) ?_
 refine WL.mv rfl rfl ?_
 refine WL.wM (avs := [.iface 42 (.int .i64 code)]) (e := (fun args => Extern.ReflectliteValue.unpack (args.getD 0 (.tuple #[])))) (rvV 42 130) [.int .i64 code] 42 H func81 (by kernel_rfl) (by kernel_rfl) (by kernel_rfl) (by kernel_rfl) rfl (vwE code _) rfl ?_
 intro b23 wT H
 refine WL.extern (e := Extern.ReflectliteValue.set) func132 (by kernel_rfl) (by kernel_rfl) (by kernel_rfl) (by kernel_rfl) rfl (stE ⟨bt, 0, none⟩ ⟨b23, 0, none⟩ code old _ (aN.cell (H.l 0 rfl) 0) (aN.cell (H.o 0 rfl) 0) (aN.frozen (H.o 0 rfl) _ rfl)) ?_
 replace H := H.vP (i := 0) rfl (Out.set _ ⟨bt, 0, none⟩ _) (aP.blk bt 42 [.int .i64 code]) (aN.aEi (H.o 0 rfl)) (fun _ => Iff.rfl)
 refine WL.nil (WE.aA (WL.as rfl rfl (WL.nil (WE.ret ⟨[_], _, .nil _, ⟨rfl, trivial⟩, ?_⟩))))
 exact ⟨rfl, H.cR, H.o 0 rfl⟩
theorem aBx {X : Nat → Prop} {w : World} {bt : Nat} {old : Value} {bf : Nat} {op : List UInt8} {ix code : Int} (hX : cY X w) (eY : aN w bt 42 ([old])) (bU : aJ (fun c_ => X c_ ∨ c_ = bt) (fD) w) (dI : aJ (fun c_ => X c_ ∨ c_ = bt) (fun w => aN w bf 221 (dV op ix code)) w) :
  bC prog 39 [.iface 219 (.pointer (some ⟨bf, 0, none⟩)), .iface 97 (.pointer (some ⟨bt, 0, none⟩))].toArray w fun v w' => v = .bool true ∧ Out (· = bt) w w' ∧ aN w' bt 42 [.int .i64 code] := by
 refine bC.aH (N := 42) func39 rfl rfl (by simp) ?_
 have H := ((St.dG (b := bt) (t := 42) (l := [old]) hX eY).add (cC dI)).add (cC bU)
 refine WE.aA (WL.as rfl rfl (WL.nil (WE.seq (WE.aA (WL.mv rfl rfl ?_)))))
 refine WL.pv (PV.qF rfl (by kernel_rfl) (by exact zH.of)) rfl ?_
 refine WL.nil ?_
 refine WE.bD rfl rfl ?_
 refine WE.skip (WE.seq (WE.aA (WL.mv rfl rfl ?_)))
 refine WL.pv (PV.qF rfl (by kernel_rfl) (by exact zH.of)) rfl ?_
 refine WL.nil ?_
 refine WE.bD rfl rfl ?_
 refine WE.skip (WE.aA (WL.mv rfl rfl ?_))
 refine WL.wM (avs := [.iface 97 (.pointer (some ⟨bt, 0, none⟩))]) (e := (fun args => Extern.ReflectliteValue.unpack (args.getD 0 (.tuple #[])))) (rvV 97 150) [.pointer (some ⟨bt, 0, none⟩)] 97 H func81 (by kernel_rfl) (by kernel_rfl) (by kernel_rfl) (by kernel_rfl) rfl (voE _ _) rfl ?_
 intro vI w2 H
 refine WL.alloc H rfl aAp rfl ?_
 intro b5 w3 H
 refine WL.aW H 0 rfl rfl rfl (new := [(.pointer (some ⟨3, 97, none⟩)), .pointer (some ⟨vI, 0, none⟩), .int .u64 150]) rfl (by exact q6) (bA _ rfl) (Laid.at (Laid.all (by simp only [aS])) rfl) rfl ?_
 intro w4 H
 refine WL.nil (WE.aA ?_)
 refine WL.bE rfl vK rfl rfl (aN.aF (H.l 0 rfl) (aK.all _) rfl) (by exact q6) ?_
 refine WL.extern (e := (Extern.ReflectliteValue.methodAny (Extern.ReflectliteValue.valueError "reflectlite.Value.Type" 0) (fun t _ _ _ => Extern.ReflectliteType.toType t))) func82 (by kernel_rfl) (by kernel_rfl) (by kernel_rfl) (by kernel_rfl) rfl (tyE _ _) ?_
 refine WL.as rfl rfl (WL.nil (WE.seq (WE.aA (WL.mv rfl rfl ?_))))
 refine WL.jQ (e := (Extern.ReflectliteType.abiMethod fun t => do pure (.int .u8 (← Extern.Rtype.kind t)))) rfl (fun w => meK _ w) func237 (by kernel_rfl) (by kernel_rfl) (by kernel_rfl) (by kernel_rfl) rfl (kiE _) ?_
 refine WL.pv (PV.neq rfl rfl rfl) rfl (WL.mv rfl rfl (WL.known (t := 20) (c := false) rfl rfl ?_))
 refine WL.bE rfl vK rfl rfl (aN.aF (H.l 0 rfl) (aK.all _) rfl) (by exact q6) ?_
 refine WL.extern (e := (Extern.ReflectliteValue.method (Extern.ReflectliteValue.valueError "reflectlite.Value.IsNil" 0) Extern.ReflectliteValue.isNil)) func83 (by kernel_rfl) (by kernel_rfl) (by kernel_rfl) (by kernel_rfl) rfl (niE _ ⟨bt, 0, none⟩ _ (by exact aN.cell (H.l 1 rfl) 0)) ?_
 refine WL.pv (PV.dF rfl rfl rfl) rfl (WL.nil ?_)
 refine WE.bD rfl rfl ?_
 refine WE.skip (WE.aA (WL.mv rfl rfl ?_))
 refine WL.jQ (e := (Extern.ReflectliteType.method Extern.ReflectliteType.elem)) rfl (fun w => meE _ w) func253 (by kernel_rfl) (by kernel_rfl) (by kernel_rfl) (by kernel_rfl) rfl (elE _) ?_
 refine WL.as rfl rfl (WL.nil (WE.seq (WE.aA (WL.mv rfl rfl ?_))))
 refine WL.jQ (e := (Extern.ReflectliteType.abiMethod fun t => do pure (.int .u8 (← Extern.Rtype.kind t)))) rfl (fun w => meK _ w) func237 (by kernel_rfl) (by kernel_rfl) (by kernel_rfl) (by kernel_rfl) rfl (kjE _) ?_
 refine WL.pv (PV.neq rfl rfl rfl) rfl (WL.mv rfl rfl (WL.known (t := 30) (c := true) rfl rfl (WL.mv rfl rfl (WL.aY rfl aBq rfl rfl ((H.p 0 rfl : fD _)) ?_))))
 refine WL.jQ (e := (Extern.ReflectliteType.relation "Implements" Extern.ReflectliteType.implements_)) rfl (fun w => meI _ w) func254 (by kernel_rfl) (by kernel_rfl) (by kernel_rfl) (by kernel_rfl) rfl (imE _) ?_
 refine WL.pv (PV.not rfl rfl) rfl (WL.pv (PV.dP rfl rfl rfl) rfl (WL.nil ?_))
 refine WE.bD rfl rfl ?_
 refine WE.skip (WE.aA (WL.mv rfl rfl (WL.mv rfl rfl ?_)))
 refine WL.bE rfl vK rfl rfl (aN.aF (H.l 0 rfl) (aK.all _) rfl) (by exact q6) ?_
 refine WL.mv rfl rfl ?_
 replace H := H.freeze (i := 1) rfl
 replace H := H.add (show aJ _ (fun w => dA w ⟨vI, 0, none⟩ [.pointer (some ⟨bt, 0, none⟩)]) _ from (H.bK 0 rfl : aJ _ (fun w => aN w vI 97 [.pointer (some ⟨bt, 0, none⟩)]) _).imp fun _ h => h.rd)
 refine WL.call aFR rfl (aHx (bt := bt) (vI := vI) (bf := bf) (op := op) (ix := ix) (code := code) H.aR (H.o 0 rfl) (H.aO 0 rfl 0 rfl) (by exact (H.aO 0 rfl 3 rfl : aJ _ (fun w => aN w bf 221 (dV op ix code)) _))) ?_
 rintro _ wT ⟨rfl, hO, hB⟩
 replace H := H.fA 0 rfl hO hB
 refine WL.as rfl rfl (WL.nil (WE.ret ⟨[_], _, .nil _, ⟨rfl, trivial⟩, ?_⟩))
 exact ⟨rfl, H.cR, H.o 0 rfl⟩
theorem aHw {X : Nat → Prop} {w : World} {bt vI : Nat} {old : Value} {bf : Nat} (hX : cY X w) (eY : aN w bt 219 ([old])) (bU : aJ (fun c_ => X c_ ∨ c_ = bt) (fun w => dA w ⟨vI, 0, none⟩ [.pointer (some ⟨bt, 0, none⟩)]) w) :
  bC prog 84 [.iface 219 (.pointer (some ⟨bf, 0, none⟩)), .iface 235 (.pointer (some ⟨bt, 0, none⟩)), (.agg [(.pointer (some ⟨3, 235, none⟩)), .pointer (some ⟨vI, 0, none⟩), .int .u64 150].toArray), (.iface 223 (.agg [(.pointer (some ⟨3, 219, none⟩))].toArray))].toArray w fun v w' => v = .bool true ∧ Out (· = bt) w w' ∧ aN w' bt 219 [.pointer (some ⟨bf, 0, none⟩)] := by
 refine bC.aH (N := 62) func84 rfl rfl (by simp) ?_
 have H := (St.dG (b := bt) (t := 219) (l := [old]) hX eY).add (cC bU)
 refine WE.aA ?_
 refine WL.box (l := [(.pointer (some ⟨3, 235, none⟩)), .pointer (some ⟨vI, 0, none⟩), .int .u64 150]) H rfl rfl rfl ?_
 intro b6 w1 H
 refine WL.as rfl rfl (WL.nil (WE.block ?_))
 refine WE.jX 1 ?_
 refine dW.step ?_
 refine WE.block (WE.seq (WE.aA (WL.mv rfl rfl ?_)))
 refine WL.extern (e := Extern.ReflectliteType.typeOf) func97 (by kernel_rfl) (by kernel_rfl) (by kernel_rfl) (by kernel_rfl) rfl (toF ⟨bf, 0, none⟩ _) ?_
 refine WL.mv rfl rfl ?_
 refine WL.jQ (e := (Extern.ReflectliteType.relation "AssignableTo" Extern.ReflectliteType.assignableTo)) rfl (fun w => meA _ w) func251 (by kernel_rfl) (by kernel_rfl) (by kernel_rfl) (by kernel_rfl) rfl (asF _) ?_
 refine WL.nil ?_
 refine WE.cS rfl rfl ?_
 refine WE.aA ?_
 refine WL.bE rfl vK rfl rfl (aN.aF (H.l 0 rfl) (aK.all _) rfl) (by exact q6) ?_
 refine WL.extern (e := (Extern.ReflectliteValue.method (Extern.ReflectliteValue.valueError "reflectlite.Value.Elem" 0) Extern.ReflectliteValue.elem)) func131 (by kernel_rfl) (by kernel_rfl) (by kernel_rfl) (by kernel_rfl) rfl (evF _ _ _ (by exact (by have h_ := (H.p 0 rfl : dA _ ⟨vI, 0, none⟩ [.pointer (some ⟨bt, 0, none⟩)]) 0 _ rfl; rwa [show ((⟨vI, 0, none⟩ : Addr).add 0) = ⟨vI, 0, none⟩ from rfl] at h_))) ?_
 refine WL.mv rfl rfl ?_
 refine WL.wM (avs := [.iface 219 (.pointer (some ⟨bf, 0, none⟩))]) (e := (fun args => Extern.ReflectliteValue.unpack (args.getD 0 (.tuple #[])))) (rvV 219 150) [.pointer (some ⟨bf, 0, none⟩)] 219 H func81 (by kernel_rfl) (by kernel_rfl) (by kernel_rfl) (by kernel_rfl) rfl (vwF ⟨bf, 0, none⟩ _) rfl ?_
 intro b23 w6 H
 refine WL.extern (e := Extern.ReflectliteValue.set) func132 (by kernel_rfl) (by kernel_rfl) (by kernel_rfl) (by kernel_rfl) rfl (stF ⟨bt, 0, none⟩ ⟨b23, 0, none⟩ ⟨bf, 0, none⟩ old _ (aN.cell (H.l 0 rfl) 0) (aN.cell (H.o 0 rfl) 0) (aN.frozen (H.o 0 rfl) _ rfl)) ?_
 replace H := H.vP (i := 0) rfl (Out.set _ ⟨bt, 0, none⟩ _) (aP.blk bt 219 [.pointer (some ⟨bf, 0, none⟩)]) (aN.aEi (H.o 0 rfl)) (fun _ => Iff.rfl)
 refine WL.nil (WE.aA (WL.as rfl rfl (WL.nil (WE.ret ⟨[_], _, .nil _, ⟨rfl, trivial⟩, ?_⟩))))
 exact ⟨rfl, H.cR, H.o 0 rfl⟩
theorem aH7 {X : Nat → Prop} {w : World} {bt : Nat} {old : Value} {bf : Nat} (hX : cY X w) (eY : aN w bt 219 ([old])) (bU : aJ (fun c_ => X c_ ∨ c_ = bt) (fD) w) :
  bC prog 39 [.iface 219 (.pointer (some ⟨bf, 0, none⟩)), .iface 235 (.pointer (some ⟨bt, 0, none⟩))].toArray w fun v w' => v = .bool true ∧ Out (· = bt) w w' ∧ aN w' bt 219 [.pointer (some ⟨bf, 0, none⟩)] := by
 refine bC.aH (N := 42) func39 rfl rfl (by simp) ?_
 have H := (St.dG (b := bt) (t := 219) (l := [old]) hX eY).add (cC bU)
 refine WE.aA (WL.as rfl rfl (WL.nil (WE.seq (WE.aA (WL.mv rfl rfl ?_)))))
 refine WL.pv (PV.qF rfl (by kernel_rfl) (by exact zH.of)) rfl ?_
 refine WL.nil ?_
 refine WE.bD rfl rfl ?_
 refine WE.skip (WE.seq (WE.aA (WL.mv rfl rfl ?_)))
 refine WL.pv (PV.qF rfl (by kernel_rfl) (by exact zH.of)) rfl ?_
 refine WL.nil ?_
 refine WE.bD rfl rfl ?_
 refine WE.skip (WE.aA (WL.mv rfl rfl ?_))
 refine WL.wM (avs := [.iface 235 (.pointer (some ⟨bt, 0, none⟩))]) (e := (fun args => Extern.ReflectliteValue.unpack (args.getD 0 (.tuple #[])))) (rvV 235 150) [.pointer (some ⟨bt, 0, none⟩)] 235 H func81 (by kernel_rfl) (by kernel_rfl) (by kernel_rfl) (by kernel_rfl) rfl (voF _ _) rfl ?_
 intro vI w2 H
 refine WL.alloc H rfl aAp rfl ?_
 intro b5 w3 H
 refine WL.aW H 0 rfl rfl rfl (new := [(.pointer (some ⟨3, 235, none⟩)), .pointer (some ⟨vI, 0, none⟩), .int .u64 150]) rfl (by exact q6) (bA _ rfl) (Laid.at (Laid.all (by simp only [aS])) rfl) rfl ?_
 intro w4 H
 refine WL.nil (WE.aA ?_)
 refine WL.bE rfl vK rfl rfl (aN.aF (H.l 0 rfl) (aK.all _) rfl) (by exact q6) ?_
 refine WL.extern (e := (Extern.ReflectliteValue.methodAny (Extern.ReflectliteValue.valueError "reflectlite.Value.Type" 0) (fun t _ _ _ => Extern.ReflectliteType.toType t))) func82 (by kernel_rfl) (by kernel_rfl) (by kernel_rfl) (by kernel_rfl) rfl (tyF _ _) ?_
 refine WL.as rfl rfl (WL.nil (WE.seq (WE.aA (WL.mv rfl rfl ?_))))
 refine WL.jQ (e := (Extern.ReflectliteType.abiMethod fun t => do pure (.int .u8 (← Extern.Rtype.kind t)))) rfl (fun w => meK _ w) func237 (by kernel_rfl) (by kernel_rfl) (by kernel_rfl) (by kernel_rfl) rfl (kiF _) ?_
 refine WL.pv (PV.neq rfl rfl rfl) rfl (WL.mv rfl rfl (WL.known (t := 20) (c := false) rfl rfl ?_))
 refine WL.bE rfl vK rfl rfl (aN.aF (H.l 0 rfl) (aK.all _) rfl) (by exact q6) ?_
 refine WL.extern (e := (Extern.ReflectliteValue.method (Extern.ReflectliteValue.valueError "reflectlite.Value.IsNil" 0) Extern.ReflectliteValue.isNil)) func83 (by kernel_rfl) (by kernel_rfl) (by kernel_rfl) (by kernel_rfl) rfl (niF _ ⟨bt, 0, none⟩ _ (by exact aN.cell (H.l 1 rfl) 0)) ?_
 refine WL.pv (PV.dF rfl rfl rfl) rfl (WL.nil ?_)
 refine WE.bD rfl rfl ?_
 refine WE.skip (WE.aA (WL.mv rfl rfl ?_))
 refine WL.jQ (e := (Extern.ReflectliteType.method Extern.ReflectliteType.elem)) rfl (fun w => meE _ w) func253 (by kernel_rfl) (by kernel_rfl) (by kernel_rfl) (by kernel_rfl) rfl (elF _) ?_
 refine WL.as rfl rfl (WL.nil (WE.seq (WE.aA (WL.mv rfl rfl ?_))))
 refine WL.jQ (e := (Extern.ReflectliteType.abiMethod fun t => do pure (.int .u8 (← Extern.Rtype.kind t)))) rfl (fun w => meK _ w) func237 (by kernel_rfl) (by kernel_rfl) (by kernel_rfl) (by kernel_rfl) rfl (kjF _) ?_
 refine WL.pv (PV.neq rfl rfl rfl) rfl (WL.mv rfl rfl (WL.known (t := 30) (c := true) rfl rfl (WL.mv rfl rfl (WL.aY rfl aBq rfl rfl ((H.p 0 rfl : fD _)) ?_))))
 refine WL.jQ (e := (Extern.ReflectliteType.relation "Implements" Extern.ReflectliteType.implements_)) rfl (fun w => meI _ w) func254 (by kernel_rfl) (by kernel_rfl) (by kernel_rfl) (by kernel_rfl) rfl (imF _) ?_
 refine WL.pv (PV.not rfl rfl) rfl (WL.pv (PV.dP rfl rfl rfl) rfl (WL.nil ?_))
 refine WE.bD rfl rfl ?_
 refine WE.skip (WE.aA (WL.mv rfl rfl (WL.mv rfl rfl ?_)))
 refine WL.bE rfl vK rfl rfl (aN.aF (H.l 0 rfl) (aK.all _) rfl) (by exact q6) ?_
 refine WL.mv rfl rfl ?_
 replace H := H.freeze (i := 1) rfl
 replace H := H.add (show aJ _ (fun w => dA w ⟨vI, 0, none⟩ [.pointer (some ⟨bt, 0, none⟩)]) _ from (H.bK 0 rfl : aJ _ (fun w => aN w vI 235 [.pointer (some ⟨bt, 0, none⟩)]) _).imp fun _ h => h.rd)
 refine WL.call aFR rfl (aHw (bt := bt) (vI := vI) (bf := bf) H.aR (H.o 0 rfl) (H.aO 0 rfl 0 rfl)) ?_
 rintro _ wT ⟨rfl, hO, hB⟩
 replace H := H.fA 0 rfl hO hB
 refine WL.as rfl rfl (WL.nil (WE.ret ⟨[_], _, .nil _, ⟨rfl, trivial⟩, ?_⟩))
 exact ⟨rfl, H.cR, H.o 0 rfl⟩
theorem aAf {X : Nat → Prop} {w : World} {bf : Nat} {op : List UInt8} {ix code : Int} (hX : cY X w) (bU : aJ X (fD) w) (dI : aJ X (fun w => aN w bf 221 (dV op ix code)) w) :
  bC prog 85 [.iface 219 (.pointer (some ⟨bf, 0, none⟩))].toArray w fun v w' => v = .tuple [pW op, .int .i64 ix, .bool true].toArray ∧ Out Nil w w' := by
 refine bC.aH (N := 18) func85 rfl rfl (by simp) ?_
 have H := ((St.begin hX).add (cE dI)).add (cE bU)
 refine WE.aA (WL.as rfl rfl (WL.as rfl rfl (WL.as rfl rfl (WL.nil (WE.aA ?_)))))
 refine WL.alloc H rfl aDO rfl ?_
 intro b5 w1 H
 refine WL.nil (WE.seq (WE.aA (WL.mv rfl rfl (WL.pv (PV.lF rfl (by kernel_rfl)) rfl ?_))))
 refine WL.call aCP rfl (aH7 (bt := b5) (bf := bf) H.aR (H.l 0 rfl) (by exact (H.gM 0 rfl 0 rfl : aJ _ (fD) _))) ?_
 rintro _ w2 ⟨rfl, hO, hB⟩
 replace H := H.called 0 rfl hO hB
 refine WL.pv (PV.not rfl rfl) rfl (WL.nil ?_)
 refine WE.bD rfl rfl ?_
 refine WE.skip ?_
 refine WE.bH (.take 0 (.take 1 (.take 2 (.take 3 (.take 4 (.take 5 (.take 6 (.take 7 (.take 8 (.take 9 (.take 10 .done))))))))))) mixed (by kernel_rfl) ?_
 replace H := H.out (Out.drew _)
 refine WP.aM rfl rfl (RV.aV rfl aBp rfl) (aN.aF (H.l 0 rfl) (aK.all _) rfl) (WP.aC rfl rfl (PV.nilCheck rfl rfl) (WP.aC rfl rfl (PV.fieldAddr rfl LP rfl) ?_))
 refine WP.aM rfl rfl (RV.aV rfl ag9 rfl) ((dV.rd0 (by exact (H.p 1 rfl : aN _ bf 221 (dV op ix code))))) ?_
 refine WP.aM rfl rfl (RV.aV rfl aBp rfl) (aN.aF (H.l 0 rfl) (aK.all _) rfl) (WP.aC rfl rfl (PV.nilCheck rfl rfl) (WP.aC rfl rfl (PV.fieldAddr rfl YX rfl) ?_))
 refine WP.aM rfl rfl (RV.aV rfl pR rfl) ((dV.rd1 (by exact (H.p 1 rfl : aN _ bf 221 (dV op ix code))))) ?_
 refine WP.as rfl rfl rfl (WP.as rfl rfl rfl (WP.as rfl rfl rfl (WP.done (WE.ret ⟨[_, _, _], _, .nil _, ⟨rfl, rfl, rfl, trivial⟩, ?_⟩))))
 exact ⟨rfl, H.aL⟩
theorem aDy {X : Nat → Prop} {w : World} {bf : Nat} {op : List UInt8} {ix code : Int} (hX : cY X w) (bU : aJ X (fD) w) (dI : aJ X (fun w => aN w bf 221 (dV op ix code)) w) :
  bC prog 86 [.iface 219 (.pointer (some ⟨bf, 0, none⟩))].toArray w fun v w' => v = .int .i64 code ∧ Out Nil w w' := by
 refine bC.aH (N := 12) func86 rfl rfl (by simp) ?_
 have H := ((St.begin hX).add (cE dI)).add (cE bU)
 refine WE.aA (WL.as rfl rfl (WL.nil (WE.aA ?_)))
 refine WL.alloc H rfl aDH rfl ?_
 intro b3 w1 H
 refine WL.nil (WE.seq (WE.block (WE.aA (WL.mv rfl rfl ?_))))
 refine WL.pv (PV.qF rfl (by kernel_rfl) (by exact zH.of)) rfl ?_
 refine WL.as rfl rfl (WL.nil ?_)
 refine WE.bD rfl rfl ?_
 refine WE.aA (WL.mv rfl rfl (WL.pv (PV.lF rfl (by kernel_rfl)) rfl ?_))
 refine WL.call aCP rfl (aBx (bt := b3) (bf := bf) (op := op) (ix := ix) (code := code) H.aR (H.l 0 rfl) (by exact (H.gM 0 rfl 0 rfl : aJ _ (fD) _)) (by exact (H.gM 0 rfl 1 rfl : aJ _ (fun w => aN w bf 221 (dV op ix code)) _))) ?_
 rintro _ w2 ⟨rfl, hO, hB⟩
 replace H := H.called 0 rfl hO hB
 refine WL.as rfl rfl (WL.nil ?_)
 refine WE.cS rfl rfl ?_
 refine WE.aA (WL.aY rfl aC8 rfl rfl (aN.aF (H.l 0 rfl) (aK.all _) rfl) (WL.as rfl rfl (WL.nil (WE.ret ⟨[_], _, .nil _, ⟨rfl, trivial⟩, ?_⟩))))
 exact ⟨rfl, H.aL⟩
theorem aHT {X : Nat → Prop} {w : World} {bf : Nat} {op : List UInt8} {ix code : Int} (hX : cY X w) (bU : aJ X (fun w => aN w bf 221 (dV op ix code)) w) :
  bC prog 87 [.iface 219 (.pointer (some ⟨bf, 0, none⟩))].toArray w fun v w' => Out Nil w w' ∧ aJ X (fun w => cN w v 1 1 [pW op]) w' := by
 refine bC.aH (N := 25) func87 rfl rfl (by simp) ?_
 have H := (St.begin hX).add (cE bU)
 refine WE.aA (WL.as rfl rfl (WL.nil (WE.aA (WL.as rfl rfl (WL.nil (WE.block ?_))))))
 replace H := H.kS 9 1
 refine WE.jX 2 ?_
 refine dW.step ?_
 refine WE.block (WE.aA (WL.mv rfl rfl (WL.pv (PV.BQ (z := .pointer none) rfl (by kernel_rfl) (by kernel_rfl) rfl) rfl (WL.mv rfl rfl (WL.pv (PV.extract rfl rfl rfl) rfl (WL.pv (PV.extract rfl rfl rfl) rfl (WL.as rfl rfl ?_)))))))
 refine WL.as rfl rfl (WL.nil (WE.seq (WE.aA (WL.mv rfl rfl (WL.pv (PV.not rfl rfl) rfl (WL.nil ?_))))))
 refine WE.bD rfl rfl ?_
 refine WE.skip (WE.aA (WL.mv rfl rfl (WL.mv rfl rfl (WL.pv (PV.nilCheck rfl rfl) rfl (WL.pv (PV.fieldAddr rfl LP rfl) rfl ?_)))))
 refine WL.aY rfl ag9 rfl rfl ((dV.rd0 (by exact (H.p 0 rfl : aN _ bf 221 (dV op ix code))))) ?_
 refine WL.bB (l0 := [.string ⟨#[]⟩]) H rfl aAx (by decide) (cT _ _) (Fl.cons rfl (rfl) (by simp only [aS]) Laid.head Fl.nil) rfl ?_
 intro b19 w1 H
 refine WL.append (m := 1) H 1 aAx (by decide) rfl rfl rfl (cN.bZ (n := 1) (H.l 0 rfl) rfl) (bA _ rfl) (by omega) (by decide) rfl ?_
 intro v20 w2 H
 replace H := H.forget 0
 refine WL.as rfl rfl (WL.nil (WE.dY (WL.mv rfl rfl (WL.pv (PV.nilCheck rfl rfl) rfl (WL.pv (PV.fieldAddr rfl LO rfl) rfl ?_)))))
 refine WL.aY rfl aHD rfl rfl ((dV.rd2 (by exact (H.p 0 rfl : aN _ bf 221 (dV op ix code))))) ?_
 refine WL.as rfl rfl (WL.nil ?_)
 refine dW.step ?_
 refine WE.block (WE.aA (WL.mv rfl rfl (WL.pv (PV.BQ (z := .pointer none) rfl (by kernel_rfl) (by kernel_rfl) rfl) rfl (WL.mv rfl rfl (WL.pv (PV.extract rfl rfl rfl) rfl (WL.pv (PV.extract rfl rfl rfl) rfl (WL.as rfl rfl ?_)))))))
 refine WL.as rfl rfl (WL.nil (WE.seq (WE.aA (WL.mv rfl rfl (WL.pv (PV.not rfl rfl) rfl (WL.nil ?_))))))
 refine WE.cS rfl rfl ?_
 refine WE.aA (WL.mv rfl rfl (WL.as rfl rfl (WL.nil (WE.ret ⟨[_], _, .nil _, ⟨rfl, trivial⟩, ?_⟩))))
 replace H := H.freeze (i := 0) rfl
 exact ⟨H.aL, H.gF ((H.bK 0 rfl).imp fun _ h => cN.dJ h)⟩
theorem PY {X : Nat → Prop} {w : World} {op : List UInt8} {ix : Int} (hX : cY X w) :
  bC prog 43 [.nilIface, pW op, .int .i64 ix, .int .i64 0].toArray w fun v w' => v = .bool false ∧ Out Nil w w' := by
 refine bC.aH (N := 50) func43 rfl rfl (by simp) ?_
 have H := St.begin hX
 refine WE.aA (WL.as rfl rfl (WL.nil (WE.seq (WE.aA (WL.mv rfl rfl (WL.pv (PV.eql rfl rfl rfl) rfl (WL.nil ?_)))))))
 refine WE.cS rfl rfl ?_
 refine WE.aA (WL.mv rfl rfl ?_)
 refine WL.pv (PV.AW rfl (by kernel_rfl) (by exact zH.nil)) rfl ?_
 refine WL.as rfl rfl (WL.nil (WE.ret ⟨[_], _, .nil _, ⟨rfl, trivial⟩, ?_⟩))
 exact ⟨rfl, H.aL⟩
theorem PX {X : Nat → Prop} {w : World} {bf : Nat} {op : List UInt8} {ix code : Int} (hX : cY X w) (bU : aJ X (fD) w) (dI : aJ X (fun w => aN w bf 221 (dV op ix code)) w) (hz : code ≠ 0) :
  bC prog 43 [.iface 219 (.pointer (some ⟨bf, 0, none⟩)), pW op, .int .i64 ix, .int .i64 code].toArray w fun v w' => v = .bool false ∧ Out Nil w w' := by
 refine bC.aH (N := 50) func43 rfl rfl (by simp) ?_
 have H := ((St.begin hX).add (cE dI)).add (cE bU)
 refine WE.aA (WL.as rfl rfl (WL.nil (WE.seq (WE.aA (WL.mv rfl rfl (WL.pv (PV.eql rfl rfl rfl) rfl (WL.nil ?_)))))))
 refine WE.bD rfl (by simp [hz]) ?_
 refine WE.skip (WE.aA (WL.mv rfl rfl ?_))
 refine WL.call aJB rfl (aAf (bf := bf) (op := op) (ix := ix) (code := code) H.aR (by exact (H.bK 0 rfl : aJ _ (fD) _)) (by exact (H.bK 1 rfl : aJ _ (fun w => aN w bf 221 (dV op ix code)) _))) ?_
 rintro _ w1 ⟨rfl, hO⟩
 replace H := H.out hO
 refine WL.mv rfl rfl (WL.pv (PV.extract rfl rfl rfl) rfl (WL.pv (PV.extract rfl rfl rfl) rfl (WL.pv (PV.extract rfl rfl rfl) rfl (WL.as rfl rfl (WL.as rfl rfl (WL.as rfl rfl (WL.nil ?_)))))))
 refine WE.aA (WL.mv rfl rfl ?_)
 refine WL.pv (PV.qF rfl (by kernel_rfl) (by exact zH.of)) rfl ?_
 refine WL.mv rfl rfl (WL.known (t := 24) (c := false) rfl rfl (WL.mv rfl rfl ?_))
 refine WL.call aJA rfl (aDy (bf := bf) (op := op) (ix := ix) (code := code) H.aR (by exact (H.bK 0 rfl : aJ _ (fD) _)) (by exact (H.bK 1 rfl : aJ _ (fun w => aN w bf 221 (dV op ix code)) _))) ?_
 rintro _ w2 ⟨rfl, hO⟩
 replace H := H.out hO
 refine WL.mv rfl rfl (WL.pv (PV.neq rfl rfl rfl) rfl (WL.pv (PV.dF rfl rfl rfl) rfl (WL.mv rfl rfl (WL.known (t := 30) (c := false) rfl (by simp) (WL.mv rfl rfl (WL.mv rfl rfl (WL.pv (PV.aB8 rfl rfl rfl) rfl ?_)))))))
 refine WL.pv (PV.dF rfl rfl rfl) rfl (WL.mv rfl rfl (WL.known (t := 35) (c := false) rfl (by simp) (WL.mv rfl rfl (WL.mv rfl rfl (WL.pv (PV.neq rfl rfl rfl) rfl (WL.pv (PV.dF rfl rfl rfl) rfl (WL.mv rfl rfl ?_)))))))
 refine WL.known (t := 40) (c := false) rfl (by simp) (WL.mv rfl rfl (WL.pv (PV.not rfl rfl) rfl (WL.pv (PV.dF rfl rfl rfl) rfl (WL.mv rfl rfl (WL.known (t := 44) (c := false) rfl rfl (WL.mv rfl rfl ?_))))))
 refine WL.call aJz rfl (aHT (bf := bf) (op := op) (ix := ix) (code := code) H.aR (by exact (H.bK 1 rfl : aJ _ (fun w => aN w bf 221 (dV op ix code)) _))) ?_
 rintro v46 w3 ⟨hO, hR⟩
 replace H := (H.out hO).add (show aJ _ (fun w => cN w v46 1 1 [pW op]) _ from hR)
 refine WL.pv (PV.dR (H.p 0 rfl : cN _ v46 1 1 [pW op]) aAz rfl) rfl (WL.pv (PV.neq rfl rfl rfl) rfl (WL.pv (PV.dF rfl rfl rfl) rfl (WL.as rfl rfl (WL.nil (WE.ret ⟨[_], _, .nil _, ⟨rfl, trivial⟩, ?_⟩)))))
 refine ⟨?_, H.aL⟩
 rfl
theorem wA {X : Nat → Prop} {w : World} {op : List UInt8} {ix code : Int} {ev : Value} (hX : cY X w) (h0 : aJ X fD w) (h1 : aJ X (fI op ix code ev) w) :
  bC prog 43 [ev, pW op, .int .i64 ix, .int .i64 code].toArray w fun v w' => v = .bool false ∧ Out Nil w w' := by
 rcases h1.here with ⟨rfl, rfl⟩ | ⟨hz, bf, rfl, _⟩
 ·
  exact PY hX
 ·
  refine PX (bf := bf) hX h0 (h1.imp fun w_ h => ?_) hz
  rcases h with ⟨h2, _⟩ | ⟨_, b2, h3, h4⟩
  ·
   exact absurd h2 hz
  ·
   injection h3 with _ h5
   injection h5 with h6
   injection h6 with h7
   injection h7 with h8
   rw [h8]; exact h4
def iC : List Value := [wH 121, wH 123, wH 124, wH 125, wH 127, wH 129]
theorem nQ {v : Value} {w : World} (h : cN w v 1 6 iC) (i : Nat) (hi : i < 6) : dA w (jN v (i * 1)) [iC[i]'hi] := by
 have h2 := cN.rd h i hi
 rw [Nat.mul_one] at h2 ⊢
 have e : (iC.drop i).take 1 = [iC[i]'hi] := by rw [List.drop_eq_getElem_cons (show i < iC.length from hi)]; rfl
 rw [e] at h2; exact h2
theorem fI.fault {X : Nat → Prop} {w : World} {op : List UInt8} {ix code : Int} {v : Value} (h : aJ X (fI op ix code v) w) (hz : code ≠ 0) : ∃ bf, v = .iface 219 (.pointer (some ⟨bf, 0, none⟩)) ∧ aJ X (fun w => aN w bf 221 (dV op ix code)) w := by
 rcases h.here with ⟨h1, _⟩ | ⟨_, bf, rfl, _⟩
 ·
  exact absurd h1 hz
 ·
  refine ⟨bf, rfl, h.imp fun w_ h => ?_⟩
  rcases h with ⟨h2, _⟩ | ⟨_, b2, h3, h4⟩
  ·
   exact absurd h2 hz
  ·
   injection h3 with _ h5
   injection h5 with h6
   injection h6 with h7
   injection h7 with h8
   rw [h8]; exact h4
theorem fI.none {X : Nat → Prop} {w : World} {op : List UInt8} {ix code : Int} {v : Value} (h : aJ X (fI op ix code v) w) (hz : code = 0) : v = .nilIface := by
 rcases h.here with ⟨_, h1⟩ | ⟨h1, _⟩
 ·
  exact h1
 ·
  exact absurd hz h1
theorem WX {X : Nat → Prop} {w : World}  (hX : cY X w) :
  bC prog 79 [].toArray w fun v w' => Out Nil w w' ∧ aJ X (fun w => cN w v 1 6 iC) w' := by
 refine bC.aH (N := 8) func79 rfl rfl (by decide +revert) ?_
 have H := St.begin hX
 refine WE.aA (WL.as rfl rfl (WL.nil (WE.aA ?_)))
 refine WL.pv (PV.dM rfl AN nP (Fl.cons rfl rfl (by simp only [aS, aX, aB, aD]) Laid.head Fl.nil)) rfl ?_
 refine WL.pv (PV.dM rfl AN nP (Fl.cons rfl rfl (by simp only [aS, aX, aB, aD]) Laid.head Fl.nil)) rfl ?_
 refine WL.pv (PV.dM rfl AN nP (Fl.cons rfl rfl (by simp only [aS, aX, aB, aD]) Laid.head Fl.nil)) rfl ?_
 refine WL.pv (PV.dM rfl AN nP (Fl.cons rfl rfl (by simp only [aS, aX, aB, aD]) Laid.head Fl.nil)) rfl ?_
 refine WL.pv (PV.dM rfl AN nP (Fl.cons rfl rfl (by simp only [aS, aX, aB, aD]) Laid.head Fl.nil)) rfl ?_
 refine WL.pv (PV.dM rfl AN nP (Fl.cons rfl rfl (by simp only [aS, aX, aB, aD]) Laid.head Fl.nil)) rfl ?_
 refine WL.bB (l0 := [.nilFunc, .nilFunc, .nilFunc, .nilFunc, .nilFunc, .nilFunc]) H rfl aEe (by decide) (cT _ _) (Fl.cons rfl (rfl) (by simp only [aS, aX, aB, aD]) Laid.head (Fl.cons rfl (rfl) (by simp only [aS, aX, aB, aD]) (Laid.tail Laid.head rfl) (Fl.cons rfl (rfl) (by simp only [aS, aX, aB, aD]) (Laid.tail (Laid.tail Laid.head rfl) rfl) (Fl.cons rfl (rfl) (by simp only [aS, aX, aB, aD]) (Laid.tail (Laid.tail (Laid.tail Laid.head rfl) rfl) rfl) (Fl.cons rfl (rfl) (by simp only [aS, aX, aB, aD]) (Laid.tail (Laid.tail (Laid.tail (Laid.tail Laid.head rfl) rfl) rfl) rfl) (Fl.cons rfl (rfl) (by simp only [aS, aX, aB, aD]) (Laid.tail (Laid.tail (Laid.tail (Laid.tail (Laid.tail Laid.head rfl) rfl) rfl) rfl) rfl) Fl.nil)))))) rfl ?_
 intro b7 w1 H
 refine WL.as rfl rfl (WL.nil (WE.ret ⟨[_], _, .nil _, ⟨rfl, trivial⟩, ?_⟩))
 replace H := H.freeze (i := 0) rfl
 exact ⟨H.aL, H.gF ((H.bK 0 rfl).imp fun _ h => cN.bZ (n := 6) h rfl)⟩
theorem U2 {X : Nat → Prop} {w : World} {bh bc : Nat} {bits n0 : Int} {sr sk sv se : Value} {pr : Bool} {k vv rb : List UInt8} {kd dp : Nat} {lk lv B : List UInt8} {sb : List (List UInt8)} (hX : cY X w) (eY : aN w bc 213 ([.int .i64 n0])) (bU : aJ (fun c_ => X c_ ∨ c_ = bc) (fQ bh bc bits) w) (dI : aJ (fun c_ => X c_ ∨ c_ = bc) (bJ sr rb) w) (fU : aJ (fun c_ => X c_ ∨ c_ = bc) (bJ sk k) w) (jY : aJ (fun c_ => X c_ ∨ c_ = bc) (bJ sv vv) w) (o9 : aJ (fun c_ => X c_ ∨ c_ = bc) (bJ se (fK kd dp lk lv B sb)) w) (tP : aJ (fun c_ => X c_ ∨ c_ = bc) (aZ) w) (bS : 0 ≤ bits ∧ bits ≤ 256) (hp : jC kd dp lk lv B sb) (hk : k.length = 32) (hr : rb.length = 32) (hv : vv.length ≤ 65535) (x6 : yZ kd dp lk lv k (nC bits vv) pr) :
  bC prog 38 [.pointer (some ⟨bh, 0, none⟩), sr, .agg [sk, sv, .bool pr].toArray, se].toArray w fun v w' => ∃ (m : Int), Out (· = bc) w w' ∧ aN w' bc 213 [.int .i64 m] ∧ aJ (fun c => X c ∨ c = bc) (fI [118, 101, 114, 105, 102, 121] 5 (if (fF bits k (gG bits dp B sb) (eB (cX (eS kd lk lv)) bits) dp) = rb then (0 : Int) else 13) v) w' := by
 refine bC.aH (N := 37) func38 rfl rfl (by simp) ?_
 have H := ((((((St.dG (b := bc) (t := 213) (l := [.int .i64 n0]) hX eY).add (cC tP)).add (cC o9)).add (cC jY)).add (cC fU)).add (cC dI)).add (cC bU)
 have R8 : sr.oneCell' = true := cN.fX (dI.here)
 have wG : sk.oneCell' = true := cN.fX (fU.here)
 have hv1 : sv.oneCell' = true := cN.fX (jY.here)
 have he1 : se.oneCell' = true := cN.fX (o9.here)
 have hpz : eN WD := bN (bA _ rfl) (bN (bA _ rfl) (bN (bN (bG _) (bG _)) (bN (bG _) (bA _ rfl))))
 obtain ⟨cd, CS⟩ : ∃ cd : Int, cd = (if (fF bits k (gG bits dp B sb) (eB (cX (eS kd lk lv)) bits) dp) = rb then (0 : Int) else 13) := ⟨_, rfl⟩
 refine WE.aA ?_
 refine WL.box (l := [sk, sv, .bool pr]) H rfl (rfl) rfl ?_
 intro b6 w1 H
 refine WL.as rfl rfl (WL.nil (WE.aA (WL.mv rfl rfl (WL.mv rfl rfl ?_))))
 refine WL.bE rfl aHE rfl rfl (aN.aF (H.l 0 rfl) (aK.all _) rfl) (by exact aD0) ?_
 refine WL.mv rfl rfl ?_
 refine WL.pv (PV.dM rfl aEw aDR (Fl.cons rfl (rfl) (by simp only [aS, aX, aB, aD]) (Laid.left (Laid.all (by simp only [aS, aX, aB, aD]))) (Fl.cons rfl (cells_one R8) (by simp only [aS, aX, aB, aD]) (Laid.right (Laid.left (Laid.all (by simp only [aS, aX, aB, aD]))) (by simp only [aS, aX, aB, aD])) (Fl.cons rfl (rfl) (by simp only [aS, aX, aB, aD]) (Laid.right (Laid.right (Laid.left (Laid.all (by simp only [aS, aX, aB, aD]))) rfl) (by simp only [aS, aX, aB, aD])) (Fl.cons rfl (cells_one he1) (by simp only [aS, aX, aB, aD]) (Laid.right (Laid.right (Laid.right (Laid.left (Laid.all (by simp only [aS, aX, aB, aD]))) rfl) rfl) (by simp only [aS, aX, aB, aD])) Fl.nil))))) rfl ?_
 refine WL.box (l := JH bh sr sk sv pr se WD) H rfl rfl rfl ?_
 intro UN w2 H
 refine WL.as rfl rfl (WL.nil (WE.seq (WE.aA ?_)))
 refine WL.call aJC rfl (WX H.aR) ?_
 rintro KI w3 ⟨hO, hR⟩
 replace H := (H.out hO).add (show aJ _ (fun w => cN w KI 1 6 iC) _ from hR)
 refine WL.pv (PV.dR (by exact (H.p 0 rfl : ((fun w => cN w KI 1 6 iC)) _)) u7 rfl) rfl ?_
 refine WL.mv rfl rfl (WL.nil (WE.block ?_))
 refine WE.jX 7 ?_
 refine dW.step ?_
 refine WE.aA (WL.pv (PV.lss rfl rfl rfl) rfl (WL.nil (WE.seq ?_)))
 refine WE.cS rfl rfl ?_
 refine WE.skip (WE.seq (WE.block (WE.aA (WL.mv rfl rfl ?_))))
 refine WL.pv (by exact PV.eA (i := 0) rfl (by exact (H.p 0 rfl : ((fun w => cN w KI 1 6 iC)) _)) u7 j9 rfl rfl (by omega) (by decide)) rfl ?_
 refine WL.bE rfl BT rfl rfl (by exact nQ (by exact (H.p 0 rfl : ((fun w => cN w KI 1 6 iC)) _)) 0 (by decide)) (by exact j9) ?_
 refine WL.alloc H rfl nP rfl ?_
 intro DU w4 H
 refine WL.as rfl rfl ?_
 refine WL.aW H 0 rfl rfl rfl (new := _) rfl (by exact j9) (bA _ rfl) (Laid.at (Laid.all (by simp only [aS, aX, aB, aD])) rfl) rfl ?_
 intro w5 H
 refine WL.nil (WE.aA (WL.pv (PV.fieldAddr rfl qO rfl) rfl (WL.aY rfl BU rfl rfl (aN.aF (H.l 0 rfl) aK.hd rfl) (WL.mv rfl rfl ?_))))
 (refine WL.iW rfl rfl (eQ.jL (fs := []) (cs := []) aG0 (aEd (X := Nil) (bk := UN) (bh := bh) (sr := sr) (sk := sk) (sv := sv) (se := se) (pr := pr) (pf := WD) (rb := rb) (fun _ h => h.elim) (by exact H.XC 1 rfl) (by exact (H.bK 2 rfl : aJ _ (bJ sr rb) _).nil) hr)) ?_; rintro _ w6 ⟨rfl, hO⟩; replace H := H.out hO)
 refine WL.as rfl rfl (WL.nil (WE.aA (WL.mv rfl rfl (WL.pv (PV.neq rfl rfl rfl) rfl (WL.nil ?_)))))
 refine WE.bD rfl rfl ?_
 refine WE.skip (WE.dY (WL.pv (PV.bT rfl rfl rfl (by omega) (by omega)) rfl (WL.mv rfl rfl (WL.nil ?_))))
 replace H := H.forget 0
 refine dW.step ?_
 refine WE.aA (WL.pv (PV.lss rfl rfl rfl) rfl (WL.nil (WE.seq ?_)))
 refine WE.cS rfl rfl ?_
 refine WE.skip (WE.seq (WE.block (WE.aA (WL.mv rfl rfl ?_))))
 refine WL.pv (by exact PV.eA (i := 1) rfl (by exact (H.p 0 rfl : ((fun w => cN w KI 1 6 iC)) _)) u7 j9 rfl rfl (by omega) (by decide)) rfl ?_
 refine WL.bE rfl BT rfl rfl (by exact nQ (by exact (H.p 0 rfl : ((fun w => cN w KI 1 6 iC)) _)) 1 (by decide)) (by exact j9) ?_
 refine WL.alloc H rfl nP rfl ?_
 intro DU w7 H
 refine WL.as rfl rfl ?_
 refine WL.aW H 0 rfl rfl rfl (new := _) rfl (by exact j9) (bA _ rfl) (Laid.at (Laid.all (by simp only [aS, aX, aB, aD])) rfl) rfl ?_
 intro w8 H
 refine WL.nil (WE.aA (WL.pv (PV.fieldAddr rfl qO rfl) rfl (WL.aY rfl BU rfl rfl (aN.aF (H.l 0 rfl) aK.hd rfl) (WL.mv rfl rfl ?_))))
 (refine WL.iW rfl rfl (eQ.jL (fs := []) (cs := []) aGZ (aEb (X := Nil) (bk := UN) (bh := bh) (sr := sr) (sk := sk) (sv := sv) (se := se) (pr := pr) (pf := WD) (k := k) (fun _ h => h.elim) (by exact H.XC 1 rfl) (by exact (H.bK 3 rfl : aJ _ (bJ sk k) _).nil) hk)) ?_; rintro _ w9 ⟨rfl, hO⟩; replace H := H.out hO)
 refine WL.as rfl rfl (WL.nil (WE.aA (WL.mv rfl rfl (WL.pv (PV.neq rfl rfl rfl) rfl (WL.nil ?_)))))
 refine WE.bD rfl rfl ?_
 refine WE.skip (WE.dY (WL.pv (PV.bT rfl rfl rfl (by omega) (by omega)) rfl (WL.mv rfl rfl (WL.nil ?_))))
 replace H := H.forget 0
 refine dW.step ?_
 refine WE.aA (WL.pv (PV.lss rfl rfl rfl) rfl (WL.nil (WE.seq ?_)))
 refine WE.cS rfl rfl ?_
 refine WE.skip (WE.seq (WE.block (WE.aA (WL.mv rfl rfl ?_))))
 refine WL.pv (by exact PV.eA (i := 2) rfl (by exact (H.p 0 rfl : ((fun w => cN w KI 1 6 iC)) _)) u7 j9 rfl rfl (by omega) (by decide)) rfl ?_
 refine WL.bE rfl BT rfl rfl (by exact nQ (by exact (H.p 0 rfl : ((fun w => cN w KI 1 6 iC)) _)) 2 (by decide)) (by exact j9) ?_
 refine WL.alloc H rfl nP rfl ?_
 intro DU tM H
 refine WL.as rfl rfl ?_
 refine WL.aW H 0 rfl rfl rfl (new := _) rfl (by exact j9) (bA _ rfl) (Laid.at (Laid.all (by simp only [aS, aX, aB, aD])) rfl) rfl ?_
 intro wT H
 refine WL.nil (WE.aA (WL.pv (PV.fieldAddr rfl qO rfl) rfl (WL.aY rfl BU rfl rfl (aN.aF (H.l 0 rfl) aK.hd rfl) (WL.mv rfl rfl ?_))))
 (refine WL.iW rfl rfl (eQ.jL (fs := []) (cs := []) aGY (aEa (X := Nil) (bk := UN) (bh := bh) (sr := sr) (sk := sk) (sv := sv) (se := se) (pr := pr) (pf := WD) (vv := vv) (fun _ h => h.elim) (by exact H.XC 1 rfl) (by exact (H.bK 4 rfl : aJ _ (bJ sv vv) _).nil) hv)) ?_; rintro _ G2 ⟨rfl, hO⟩; replace H := H.out hO)
 refine WL.as rfl rfl (WL.nil (WE.aA (WL.mv rfl rfl (WL.pv (PV.neq rfl rfl rfl) rfl (WL.nil ?_)))))
 refine WE.bD rfl rfl ?_
 refine WE.skip (WE.dY (WL.pv (PV.bT rfl rfl rfl (by omega) (by omega)) rfl (WL.mv rfl rfl (WL.nil ?_))))
 replace H := H.forget 0
 refine dW.step ?_
 refine WE.aA (WL.pv (PV.lss rfl rfl rfl) rfl (WL.nil (WE.seq ?_)))
 refine WE.cS rfl rfl ?_
 refine WE.skip (WE.seq (WE.block (WE.aA (WL.mv rfl rfl ?_))))
 refine WL.pv (by exact PV.eA (i := 3) rfl (by exact (H.p 0 rfl : ((fun w => cN w KI 1 6 iC)) _)) u7 j9 rfl rfl (by omega) (by decide)) rfl ?_
 refine WL.bE rfl BT rfl rfl (by exact nQ (by exact (H.p 0 rfl : ((fun w => cN w KI 1 6 iC)) _)) 3 (by decide)) (by exact j9) ?_
 refine WL.alloc H rfl nP rfl ?_
 intro DU D4 H
 refine WL.as rfl rfl ?_
 refine WL.aW H 0 rfl rfl rfl (new := _) rfl (by exact j9) (bA _ rfl) (Laid.at (Laid.all (by simp only [aS, aX, aB, aD])) rfl) rfl ?_
 intro KG H
 refine WL.nil (WE.aA (WL.pv (PV.fieldAddr rfl qO rfl) rfl (WL.aY rfl BU rfl rfl (aN.aF (H.l 0 rfl) aK.hd rfl) (WL.mv rfl rfl ?_))))
 (refine WL.iW rfl rfl (eQ.jL (fs := []) (cs := []) aGX (aD9 (bk := UN) (bh := bh) (sr := sr) (sk := sk) (sv := sv) (se := se) (pr := pr) (kd := kd) (dp := dp) (lk := lk) (lv := lv) (B := B) (sb := sb) H.aR (H.l 1 rfl) (by exact (H.gM 1 rfl 5 rfl : aJ _ (bJ se (fK kd dp lk lv B sb)) _)) hp)) ?_; rintro _ PD ⟨slx, rfl, aKY, hO, hB, hR⟩; replace H := H.mZ 1 rfl hO hB hR; replace H := H.freeze (i := 1) rfl)
 refine WL.as rfl rfl (WL.nil (WE.aA (WL.mv rfl rfl (WL.pv (PV.neq rfl rfl rfl) rfl (WL.nil ?_)))))
 refine WE.bD rfl rfl ?_
 refine WE.skip (WE.dY (WL.pv (PV.bT rfl rfl rfl (by omega) (by omega)) rfl (WL.mv rfl rfl (WL.nil ?_))))
 replace H := H.forget 0
 refine dW.step ?_
 refine WE.aA (WL.pv (PV.lss rfl rfl rfl) rfl (WL.nil (WE.seq ?_)))
 refine WE.cS rfl rfl ?_
 refine WE.skip (WE.seq (WE.block (WE.aA (WL.mv rfl rfl ?_))))
 refine WL.pv (by exact PV.eA (i := 4) rfl (by exact (H.p 2 rfl : ((fun w => cN w KI 1 6 iC)) _)) u7 j9 rfl rfl (by omega) (by decide)) rfl ?_
 refine WL.bE rfl BT rfl rfl (by exact nQ (by exact (H.p 2 rfl : ((fun w => cN w KI 1 6 iC)) _)) 4 (by decide)) (by exact j9) ?_
 refine WL.alloc H rfl nP rfl ?_
 intro DU P7 H
 refine WL.as rfl rfl ?_
 refine WL.aW H 0 rfl rfl rfl (new := _) rfl (by exact j9) (bA _ rfl) (Laid.at (Laid.all (by simp only [aS, aX, aB, aD])) rfl) rfl ?_
 intro P6 H
 refine WL.nil (WE.aA (WL.pv (PV.fieldAddr rfl qO rfl) rfl (WL.aY rfl BU rfl rfl (aN.aF (H.l 0 rfl) aK.hd rfl) (WL.mv rfl rfl ?_))))
 (refine WL.iW rfl rfl (eQ.jL (fs := []) (cs := []) aGV (aD8 (bk := UN) (bh := bh) (sr := sr) (sk := sk) (sv := sv) (se := se) (pr := pr) (kd := kd) (dp := dp) (lk := lk) (lv := lv) (B := B) (sb := sb) (sl := slx) (bits := bits) (k := k) (vv := vv) (rb := rb) H.aR (H.o 0 rfl) (by exact (H.aO 0 rfl 3 rfl : aJ _ (fQ bh bc bits) _)) (by exact (H.aO 0 rfl 0 rfl : aJ _ (fun w => aN w UN 168 (JH bh sr sk sv pr se (fT kd dp lk lv B slx))) _)) (by exact (H.aO 0 rfl 5 rfl : aJ _ (bJ sk k) _)) (by exact (H.aO 0 rfl 6 rfl : aJ _ (bJ sv vv) _)) (by exact (H.aO 0 rfl 1 rfl : aJ _ (fB slx sb) _)) (by exact (H.aO 0 rfl 8 rfl : aJ _ (aZ) _)) bS hp hk hv x6)) ?_; rintro _ P5 ⟨m29, rfl, hO, hB⟩; replace H := H.fA 0 rfl hO hB)
 refine WL.as rfl rfl (WL.nil (WE.aA (WL.mv rfl rfl (WL.pv (PV.neq rfl rfl rfl) rfl (WL.nil ?_)))))
 refine WE.bD rfl rfl ?_
 refine WE.skip (WE.dY (WL.pv (PV.bT rfl rfl rfl (by omega) (by omega)) rfl (WL.mv rfl rfl (WL.nil ?_))))
 replace H := H.forget 0
 refine dW.step ?_
 refine WE.aA (WL.pv (PV.lss rfl rfl rfl) rfl (WL.nil (WE.seq ?_)))
 refine WE.cS rfl rfl ?_
 refine WE.skip (WE.seq (WE.block (WE.aA (WL.mv rfl rfl ?_))))
 refine WL.pv (by exact PV.eA (i := 5) rfl (by exact (H.p 2 rfl : ((fun w => cN w KI 1 6 iC)) _)) u7 j9 rfl rfl (by omega) (by decide)) rfl ?_
 refine WL.bE rfl BT rfl rfl (by exact nQ (by exact (H.p 2 rfl : ((fun w => cN w KI 1 6 iC)) _)) 5 (by decide)) (by exact j9) ?_
 refine WL.alloc H rfl nP rfl ?_
 intro DU w19 H
 refine WL.as rfl rfl ?_
 refine WL.aW H 0 rfl rfl rfl (new := _) rfl (by exact j9) (bA _ rfl) (Laid.at (Laid.all (by simp only [aS, aX, aB, aD])) rfl) rfl ?_
 intro w20 H
 refine WL.nil (WE.aA (WL.pv (PV.fieldAddr rfl qO rfl) rfl (WL.aY rfl BU rfl rfl (aN.aF (H.l 0 rfl) aK.hd rfl) (WL.mv rfl rfl ?_))))
 (refine WL.iW rfl rfl (eQ.jL (fs := []) (cs := []) aGT (aD7 (bk := UN) (bh := bh) (sr := sr) (sk := sk) (sv := sv) (se := se) (pr := pr) (kd := kd) (dp := dp) (lk := lk) (lv := lv) (B := B) (sb := sb) (sl := slx) (bits := bits) (k := k) (vv := vv) (rb := rb) H.aR (H.o 0 rfl) (by exact (H.aO 0 rfl 3 rfl : aJ _ (fQ bh bc bits) _)) (by exact (H.aO 0 rfl 0 rfl : aJ _ (fun w => aN w UN 168 (JH bh sr sk sv pr se (fT kd dp lk lv B slx))) _)) (by exact (H.aO 0 rfl 5 rfl : aJ _ (bJ sk k) _)) (by exact (H.aO 0 rfl 4 rfl : aJ _ (bJ sr rb) _)) (by exact (H.aO 0 rfl 1 rfl : aJ _ (fB slx sb) _)) (by exact (H.aO 0 rfl 8 rfl : aJ _ (aZ) _)) bS hp hk hr)) ?_; rintro _ w21 ⟨m29, aEN, hO, hB⟩; rw [← CS] at aEN; subst aEN; replace H := H.fA 0 rfl hO hB)
 refine WL.as rfl rfl (WL.nil (WE.aA (WL.mv rfl rfl (WL.pv (PV.neq rfl rfl rfl) rfl (WL.nil ?_)))))
 refine WE.cond rfl (fun kU => ?_) (fun kU => ?_)
 ·
  try simp only [bW] at kU
  have hne : ¬ (fF bits k (gG bits dp B sb) (eB (cX (eS kd lk lv)) bits) dp) = rb := fun h => kU (CS.trans (if_pos h))
  have hcd : (if (fF bits k (gG bits dp B sb) (eB (cX (eS kd lk lv)) bits) dp) = rb then (0 : Int) else 13) = 13 := if_neg hne
  have yB : cd = 13 := CS.trans hcd
  refine WE.aA (WL.mv rfl rfl (WL.mv rfl rfl (WL.pv (PV.lF rfl (by kernel_rfl)) rfl ?_)))
  refine WL.call aFS rfl (y9 (op := [118, 101, 114, 105, 102, 121]) (ix := 5) (code := cd) H.aR) ?_
  rintro _ w22 ⟨bf, rfl, hO, hge, hB⟩
  replace H := H.push hO (aP.blk bf 221 (dV [118, 101, 114, 105, 102, 121] 5 cd)) hB (fun c hc => by cases hc; exact hge)
  refine WL.as rfl rfl (WL.nil (WE.ret ⟨[_], _, .nil _, ⟨rfl, trivial⟩, ?_⟩))
  replace H := H.freeze (i := 0) rfl
  refine ⟨_, H.cR, H.o 0 rfl, (show aJ _ (fun w => aN w bf 221 (dV [118, 101, 114, 105, 102, 121] 5 cd)) _ from H.fV (H.bK 0 rfl)).imp fun _ h => ?_⟩
  rw [hcd]
  rw [yB] at h
  exact .inr ⟨by decide, bf, rfl, h⟩
 ·
  try simp only [bW] at kU
  have heq : (fF bits k (gG bits dp B sb) (eB (cX (eS kd lk lv)) bits) dp) = rb := by (by_cases h : (fF bits k (gG bits dp B sb) (eB (cX (eS kd lk lv)) bits) dp) = rb; exact h; exact absurd ((CS.trans (if_neg h)).symm.trans kU) (by decide))
  have hcd : (if (fF bits k (gG bits dp B sb) (eB (cX (eS kd lk lv)) bits) dp) = rb then (0 : Int) else 13) = 0 := if_pos heq
  refine WE.skip (WE.dY (WL.pv (PV.bT rfl rfl rfl (by omega) (by omega)) rfl (WL.mv rfl rfl (WL.nil ?_))))
  replace H := H.forget 0
  refine dW.step ?_
  refine WE.aA (WL.pv (PV.lss rfl rfl rfl) rfl (WL.nil (WE.seq ?_)))
  refine WE.bD rfl rfl ?_
  refine WE.exit (WE.aA (WL.as rfl rfl (WL.nil (WE.ret ⟨[_], _, .nil _, ⟨rfl, trivial⟩, ?_⟩))))
  refine ⟨_, H.cR, H.o 0 rfl, fun _ _ => ?_⟩
  rw [hcd]
  exact .inl ⟨rfl, rfl⟩
theorem yY {X : Nat → Prop} {w : World} {bh bc : Nat} {bits n0 : Int} {sr sk sv se : Value} {pr : Bool} {k vv rb : List UInt8} {kd dp : Nat} {lk lv B : List UInt8} {sb : List (List UInt8)} (hX : cY X w) (eY : aN w bc 213 ([.int .i64 n0])) (bU : aJ (fun c_ => X c_ ∨ c_ = bc) (fQ bh bc bits) w) (dI : aJ (fun c_ => X c_ ∨ c_ = bc) (bJ sr rb) w) (fU : aJ (fun c_ => X c_ ∨ c_ = bc) (bJ sk k) w) (jY : aJ (fun c_ => X c_ ∨ c_ = bc) (bJ sv vv) w) (o9 : aJ (fun c_ => X c_ ∨ c_ = bc) (bJ se (fK kd dp lk lv B sb)) w) (tP : aJ (fun c_ => X c_ ∨ c_ = bc) (aZ) w) (DP : aJ (fun c_ => X c_ ∨ c_ = bc) (fD) w) (bS : 0 ≤ bits ∧ bits ≤ 256) (hp : jC kd dp lk lv B sb) (hk : k.length = 32) (hr : rb.length = 32) (hv : vv.length ≤ 65535) (x6 : yZ kd dp lk lv k (nC bits vv) pr) :
  bC prog 14 [.pointer (some ⟨bh, 0, none⟩), sr, .agg [sk, sv, .bool pr].toArray, se].toArray w fun v w' => ∃ (m : Int), v = .int .i64 (if (fF bits k (gG bits dp B sb) (eB (cX (eS kd lk lv)) bits) dp) = rb then (0 : Int) else 13) ∧ Out (· = bc) w w' ∧ aN w' bc 213 [.int .i64 m] := by
 refine bC.aH (N := 25) func14 rfl rfl (by simp) ?_
 have H := (((((((St.dG (b := bc) (t := 213) (l := [.int .i64 n0]) hX eY).add (cC DP)).add (cC tP)).add (cC o9)).add (cC jY)).add (cC fU)).add (cC dI)).add (cC bU)
 have R8 : sr.oneCell' = true := cN.fX (dI.here)
 have wG : sk.oneCell' = true := cN.fX (fU.here)
 have hv1 : sv.oneCell' = true := cN.fX (jY.here)
 have he1 : se.oneCell' = true := cN.fX (o9.here)
 have hpz : eN WD := bN (bA _ rfl) (bN (bA _ rfl) (bN (bN (bG _) (bG _)) (bN (bG _) (bA _ rfl))))
 refine WE.aA ?_
 refine WL.box (l := [sk, sv, .bool pr]) H rfl (rfl) rfl ?_
 intro b6 w1 H
 refine WL.as rfl rfl (WL.nil (WE.aA ?_))
 refine WL.alloc H rfl aDH rfl ?_
 intro b9 w2 H
 refine WL.nil (WE.seq (WE.aA (WL.mv rfl rfl (WL.mv rfl rfl ?_))))
 refine WL.bE rfl aHE rfl rfl (aN.aF (H.l 1 rfl) (aK.all _) rfl) (by exact aD0) ?_
 refine WL.mv rfl rfl ?_
 refine WL.call aJQ rfl (U2 (bh := bh) (bits := bits) (k := k) (vv := vv) (rb := rb) (kd := kd) (dp := dp) (lk := lk) (lv := lv) (B := B) (sb := sb) (sr := sr) (sk := sk) (sv := sv) (se := se) (pr := pr) H.aR (H.o 0 rfl) (by exact (H.aO 0 rfl 0 rfl : aJ _ (fQ bh bc bits) _)) (by exact (H.aO 0 rfl 1 rfl : aJ _ (bJ sr rb) _)) (by exact (H.aO 0 rfl 2 rfl : aJ _ (bJ sk k) _)) (by exact (H.aO 0 rfl 3 rfl : aJ _ (bJ sv vv) _)) (by exact (H.aO 0 rfl 4 rfl : aJ _ (bJ se (fK kd dp lk lv B sb)) _)) (by exact (H.aO 0 rfl 5 rfl : aJ _ (aZ) _)) bS hp hk hr hv x6) ?_
 rintro v15 w3 ⟨m15, hO, hB, hR⟩
 have aLa := (hR.here).ifv
 have aE1 := (hR.here).isNil
 have LG := fI.none hR
 replace H := H.dH 0 rfl hO hB hR
 have aJc := fI.fault (show aJ _ (fI [118, 101, 114, 105, 102, 121] 5 (if (fF bits k (gG bits dp B sb) (eB (cX (eS kd lk lv)) bits) dp) = rb then (0 : Int) else 13) v15) _ from H.bK 0 rfl)
 refine WL.as rfl rfl (WL.nil (WE.aA (WL.mv rfl rfl (WL.pv (PV.AW rfl (by kernel_rfl) (by assumption)) rfl (WL.mv rfl rfl ?_)))))
 refine WL.split (t := 18) rfl (fun s7 => ?_) (fun s7 => ?_)
 ·
  refine WL.known (t := 17) (c := true) rfl s7 ?_
  try simp only [bW] at s7
  have h_ : iS v15 = false := by exact s7
  have hz : (if (fF bits k (gG bits dp B sb) (eB (cX (eS kd lk lv)) bits) dp) = rb then (0 : Int) else 13) ≠ 0 := by rw [aE1] at h_; simpa using h_
  obtain ⟨bf, rfl, hbf⟩ := aJc hz
  replace H := H.add hbf
  refine WL.mv rfl rfl (WL.pv (PV.lF rfl (by kernel_rfl)) rfl ?_)
  refine WL.call aCP rfl (aBx (bt := b9) (bf := bf) (op := [118, 101, 114, 105, 102, 121]) (ix := 5) (code := (if (fF bits k (gG bits dp B sb) (eB (cX (eS kd lk lv)) bits) dp) = rb then (0 : Int) else 13)) H.aR (H.l 0 rfl) (by exact (H.gM 0 rfl 8 rfl : aJ _ (fD) _)) (by exact (H.gM 0 rfl 0 rfl : aJ _ (fun w => aN w bf 221 (dV [118, 101, 114, 105, 102, 121] 5 (if (fF bits k (gG bits dp B sb) (eB (cX (eS kd lk lv)) bits) dp) = rb then (0 : Int) else 13))) _))) ?_
  rintro _ w4 ⟨rfl, hO, hB⟩
  replace H := H.called 0 rfl hO hB
  refine WL.pv (PV.not rfl rfl) rfl (WL.pv (PV.dP rfl rfl rfl) rfl (WL.nil ?_))
  refine WE.bD rfl rfl ?_
  refine WE.skip (WE.aA (WL.aY rfl aC8 rfl rfl (aN.aF (H.l 0 rfl) (aK.all _) rfl) (WL.as rfl rfl (WL.nil (WE.ret ⟨[_], _, .nil _, ⟨rfl, trivial⟩, ?_⟩)))))
  refine ⟨_, ?_, H.cR, H.o 0 rfl⟩
  rfl
 ·
  refine WL.known (t := 17) (c := false) rfl s7 ?_
  try simp only [bW] at s7
  have h_ : iS v15 = true := by exact s7
  have hz : (if (fF bits k (gG bits dp B sb) (eB (cX (eS kd lk lv)) bits) dp) = rb then (0 : Int) else 13) = 0 := by rw [aE1] at h_; simpa using h_
  have aKU := LG hz
  refine WL.off rfl (WL.off rfl (WL.off rfl (WL.off rfl (WL.pv (PV.dF rfl rfl rfl) rfl (WL.nil (WE.jB rfl (WE.skip ?_)))))))
  refine WE.aA (WL.aY rfl aC8 rfl rfl (aN.aF (H.l 0 rfl) (aK.all _) rfl) (WL.as rfl rfl (WL.nil (WE.ret ⟨[_], _, .nil _, ⟨rfl, trivial⟩, ?_⟩))))
  refine ⟨_, ?_, H.cR, H.o 0 rfl⟩
  (rw [hz]; rfl)
end Go.Sp.Tryz
