/- Part of the proof of this claim: walks through the program's functions and the plain laws that they need, printed by a program of this session. -/
import Derived.Test.YthkombhebdjamaaGreatDoorP3
import Derived.Test.YthkombhebdjamaaGreatDoorMk
import Derived.Test.YthkombhebdjamaaGreatDoorP2
import Derived.Test.YthkombhebdjamaaGreatDoorSeq
set_option maxRecDepth 100000
set_option maxHeartbeats 1000000
set_option linter.unusedVariables false
set_option linter.unusedSimpArgs false
namespace Go.Sp.Tryz
open Go.Proofs Go.RowKit Go.Sp Go.Sp.TryzT Go.Proofs.Tryz
variable {X : Nat → Prop} {w : World}
theorem RM {bits : Int} {T : Tr} {m : List En} {k : List UInt8} (hT : T.er = grow 0 m) (hp : Pm 0 m) (hfit : T.er.fit 0) (hfk : (T.fin k).key.length = 32) : jG (pK T k) (T.dp k 0) (T.fin k).key ((T.fin k).vd bits) (pA T k (T.dp k 0)) (jB bits T k (T.dp k 0)) := by
 have D0 := Tr.yX (k := k) _ 0 T rfl hfit (by omega)
 have hd : T.dp k 0 ≤ 256 := by omega
 have h2 : (T.fin k).er.kind ≠ 2 := Tr.q5 _ 0 T rfl
 refine ⟨?_, hd, hfk, Tr.aT bits _, fun h0 => ?_, bS T k _, ?_, ?_, fun s hs => ?_⟩
 ·
  unfold pK
  revert h2
  cases (T.fin k).er with
  | nil => intro _; exact .inl rfl
  | leaf => intro _; exact .inr rfl
  | inner => intro h; exact absurd rfl h
 ·
  unfold pK at h0
  revert h0 h2
  cases (T.fin k) with
  | nil => intro _ _; exact ⟨rfl, rfl⟩
  | leaf => intro _ h; exact absurd h (by show ¬ (1 : Nat) = 0; decide)
  | inner => intro h; exact absurd rfl h
 ·
  rw [x6 hd]; exact R1 hT hp
 ·
  rw [x6 hd]; unfold jB; rw [List.length_map]
 ·
  unfold jB at hs
  obtain ⟨j, _, rfl⟩ := List.mem_map.1 hs
  exact eW _ _
def nE (kd dp : Nat) (lk lv B : List UInt8) : List UInt8 := ([1, UInt8.ofNat kd, UInt8.ofNat (dp / 2 ^ 8), UInt8.ofNat dp] ++ B) ++ (if kd = 1 then lk ++ lv else [])
def encI (kd dp : Nat) (lk lv B : List UInt8) (sb : List (List UInt8)) (i : Nat) : List UInt8 := nE kd dp lk lv B ++ (sb.take i).flatten
def fM (kd dp : Nat) (lk lv B : List UInt8) (sb : List (List UInt8)) : List UInt8 := nE kd dp lk lv B ++ sb.flatten
theorem GC (kd dp : Nat) (lk lv B : List UInt8) (sb : List (List UInt8)) : encI kd dp lk lv B sb sb.length = fM kd dp lk lv B sb := by unfold encI fM; rw [List.take_length]
theorem BO {kd dp : Nat} {lk lv B : List UInt8} {sb : List (List UInt8)} {i : Nat} (h : i < sb.length) : encI kd dp lk lv B sb (i + 1) = encI kd dp lk lv B sb i ++ sb[i] := by unfold encI; rw [gU sb i h, List.append_assoc]
theorem OC {kd dp : Nat} {lk lv B : List UInt8} (hk : lk.length = 32) (hv : lv.length = 32) (hB : B.length = 32) : (nE kd dp lk lv B).length = if kd = 1 then 100 else 36 := by
 unfold nE
 split <;> simp [hk, hv, hB]
theorem yV {kd dp : Nat} {lk lv B : List UInt8} {sb : List (List UInt8)} (hp : jG kd dp lk lv B sb) : ∀ i, i ≤ sb.length → (encI kd dp lk lv B sb i).length = (if kd = 1 then 100 else 36) + 32 * i
 | 0, _ => by unfold encI; rw [List.length_append, OC hp.uQ hp.lvl hp.bl]; simp
 | i + 1, h => by rw [BO (by omega), List.length_append, yV hp i (by omega), hp.sl _ (List.getElem_mem _)]; omega
theorem GB {kd dp : Nat} {lk lv B : List UInt8} {sb : List (List UInt8)} (hp : jG kd dp lk lv B sb) : (fM kd dp lk lv B sb).length = (if kd = 1 then 100 else 36) + 32 * sb.length := by rw [← GC, yV hp _ (Nat.le_refl _)]
theorem aDC {X : Nat → Prop} {w : World} {kd dp : Nat} {lk lv B : List UInt8} {sl : Value} {sb : List (List UInt8)} (hX : c6 X w) (bT : aH X (fE sl sb) w) (hp : jG kd dp lk lv B sb) :
  bC prog 36 [.agg (fU kd dp lk lv B sl).toArray].toArray w fun v w' => v = .int .i64 ((((if kd = 1 then 100 else 36) + 32 * sb.length) : Nat) : Int) ∧ Out Nil w w' := by
 refine bC.aI (N := 24) func36 rfl rfl (by simp) ?_
 have H := (St.begin hX).add (cE bT)
 have wS := hp.kd
 have D0 := hp.OP
 have mV := hp.uQ
 have hlv := hp.lvl
 have p4 := hp.bl
 have pY := hp.P6
 have wE : (fU kd dp lk lv B sl).length = 99 := gQ hp.uQ hp.lvl hp.bl
 have hs1 : sl.oneCell' = true := cO.fW (H.p 0 rfl : fE sl sb _)
 refine WE.aA ?_
 refine WL.box (l := fU kd dp lk lv B sl) H rfl rfl rfl ?_
 intro b1 w1 H
 refine WL.as rfl rfl (WL.nil (WE.seq (WE.aA ?_)))
 refine WL.bE rfl nS rfl rfl (aN.aF (H.l 0 rfl) (aK.all _) rfl) (cI lE (by simp only [aS, aY, aB, Tr.aT, bS, bM, aD]; omega)) ?_
 refine WL.call Z4 rfl (tU (kd := kd) (dp := dp) (lk := lk) (lv := lv) (B := B) (sl := sl) (sb := sb) H.aR (by exact (H.bJ 0 rfl : aH _ (fE sl sb) _)) hp) ?_
 rintro _ w2 ⟨rfl, hO⟩
 replace H := H.out hO
 refine WL.pv (PV.neq rfl rfl rfl) rfl (WL.nil ?_)
 refine WE.bD rfl rfl ?_
 refine WE.skip (WE.aA (WL.as rfl rfl (WL.nil (WE.seq (WE.aA (WL.pv (PV.fieldAddr rfl nQ rfl) rfl (WL.aX rfl l9 rfl rfl (aN.aF (H.l 0 rfl) (aK.l (aK.all _)) rfl) ?_)))))))
 refine WL.nil (WE.block (WE.seq (WE.block (WE.seq (WE.block (WE.seq (WE.seq ?_)))))))
 refine WE.aA (WL.pv (PV.eql rfl rfl rfl) rfl (WL.as rfl rfl (WL.nil ?_)))
 refine WE.cond rfl (fun uV => ?_) (fun uV => ?_)
 ·
  try simp only [bP] at uV
  have wT : kd = 1 := by omega
  refine WE.exit (WE.dW (WL.mv rfl rfl (WL.pv (PV.bV rfl rfl rfl (by omega) (by omega)) rfl (WL.as rfl rfl (WL.nil (WE.aA (WL.mv rfl rfl ?_)))))))
  refine WL.pv (PV.fieldAddr rfl nP rfl) rfl ?_
  refine WL.aX rfl vF rfl rfl (aN.aF (H.l 0 rfl) (aK.r (aK.r (aK.r (aK.r (aK.all _) rfl) rfl) rfl) rfl) (by simp [aJ, aQ, *])) ?_
  refine WL.pv (PV.dS (by exact (H.p 0 rfl : (fE sl sb) _)) oZ rfl) rfl ?_
  refine WL.pv (PV.bV rfl rfl rfl (by omega) (by omega)) rfl (WL.pv (PV.mL rfl rfl rfl (by omega) (by omega)) rfl (WL.pv (PV.bV rfl rfl rfl (by omega) (by omega)) rfl (WL.pv (PV.bV rfl rfl rfl (by omega) (by omega)) rfl (WL.as rfl rfl (WL.nil (WE.exit (WE.aA ?_)))))))
  refine WL.mv rfl rfl (WL.as rfl rfl (WL.nil (WE.ret ⟨[_], _, .nil _, ⟨rfl, trivial⟩, ?_⟩)))
  refine ⟨?_, H.aL⟩
  show Value.int .i64 _ = Value.int .i64 _
  congr 1
  (rw [if_pos wT]; omega)
 ·
  try simp only [bP] at uV
  have PZ : kd = 0 := by omega
  refine WE.skip (WE.aA (WL.pv (PV.eql rfl rfl rfl) rfl (WL.as rfl rfl (WL.nil ?_))))
  refine WE.cR rfl (by simp [PZ]) ?_
  refine WE.exit (WE.aA (WL.mv rfl rfl (WL.pv (PV.fieldAddr rfl nP rfl) rfl ?_)))
  refine WL.aX rfl vF rfl rfl (aN.aF (H.l 0 rfl) (aK.r (aK.r (aK.r (aK.r (aK.all _) rfl) rfl) rfl) rfl) (by simp [aJ, aQ, *])) ?_
  refine WL.pv (PV.dS (by exact (H.p 0 rfl : (fE sl sb) _)) oZ rfl) rfl ?_
  refine WL.pv (PV.bV rfl rfl rfl (by omega) (by omega)) rfl (WL.pv (PV.mL rfl rfl rfl (by omega) (by omega)) rfl (WL.pv (PV.bV rfl rfl rfl (by omega) (by omega)) rfl (WL.pv (PV.bV rfl rfl rfl (by omega) (by omega)) rfl (WL.as rfl rfl (WL.nil (WE.exit (WE.aA ?_)))))))
  refine WL.mv rfl rfl (WL.as rfl rfl (WL.nil (WE.ret ⟨[_], _, .nil _, ⟨rfl, trivial⟩, ?_⟩)))
  refine ⟨?_, H.aL⟩
  show Value.int .i64 _ = Value.int .i64 _
  congr 1
  (rw [if_neg (by omega)]; omega)
theorem PT {X : Nat → Prop} {w : World} {s : Value} {vs : List Value} {ls : List (List UInt8)} (hX : c6 X w) (bT : aH X (kN s vs) w) (dJ : aH X (qN vs ls) w) (hvs : vs.length ≤ 1000000) (aE9 : ls.flatten.length ≤ 70368744177664) :
  bC prog 37 [s].toArray w fun v w' => Out Nil w w' ∧ w'.ownsRow w.heap.size 5 1 v ls.flatten.length (kc ls.flatten) := by
 refine bC.aI (N := 36) func37 rfl rfl (by simp) ?_
 have H := ((St.begin hX).add (cE dJ)).add (cE bT)
 have hlen : vs.length = ls.length := (H.p 1 rfl : qN vs ls w).1
 refine WE.aA (WL.as rfl rfl (WL.nil (WE.aA (WL.as rfl rfl (WL.nil (WE.seq (WE.aA ?_)))))))
 refine WL.mv rfl rfl (WL.pv (PV.dS (H.p 0 rfl) sQ rfl) rfl (WL.mv rfl rfl (WL.nil (WE.block ?_))))
 refine WE.loop (α := Nat) (rg [(3, 1), (5, 1), (11, 12)]) (fun k => [(11, .int .i64 k), (3, .int .i64 ((ls.take k).flatten.length : Int))]) (fun k wl => k ≤ vs.length ∧ St X w wl [] [] [kN s vs, qN vs ls]) (fun k => vs.length - k) 0 ⟨rfl, rfl, trivial⟩ ⟨Nat.zero_le _, H⟩ ?_
 intro k γ0 w1 hI
 try dsimp only at hI
 obtain ⟨hk, H⟩ := hI
 refine WE.aA (WL.pv (PV.lss rfl rfl rfl) rfl (WL.nil (WE.seq ?_)))
 refine WE.cond rfl (fun lU => ?_) (fun lU => ?_)
 ·
  try simp only [bP] at lU
  have hlt : k < vs.length := by omega
  have hF := gU ls k (by omega)
  have hG := gP ls (k + 1)
  rw [hF, List.length_append] at hG
  refine WE.skip (WE.seq (WE.block (WE.aA (WL.pv (PV.dX rfl (H.p 0 rfl) sQ B9 rfl rfl (by omega) (by omega)) rfl (WL.aX rfl eH rfl rfl (kN.rd (H.p 0 rfl) k hlt) (WL.as rfl rfl (WL.nil ?_)))))))
  refine WE.aA (WL.mv rfl rfl (WL.mv rfl rfl (WL.pv (PV.dS ((H.p 1 rfl : qN vs ls _).2 k hlt (by omega)) eN rfl) rfl (WL.pv (PV.bV rfl rfl rfl (by omega) (by omega)) rfl (WL.as rfl rfl (WL.nil (WE.aA ?_)))))))
  refine WL.mv rfl rfl (WL.pv (PV.lss rfl rfl rfl) rfl (WL.nil ?_))
  refine WE.bD rfl (by simp; omega) ?_
  refine WE.skip (WE.dW (WL.pv (PV.bV rfl rfl rfl (by omega) (by omega)) rfl (WL.mv rfl rfl (WL.nil ?_))))
  exact ⟨k + 1, (by repeat (first | with_reducible exact bK.refl _ _ | refine bK.dG rfl ?_ | refine bK.bZ rfl ?_ | refine bK.bX rfl ?_)), ⟨rfl, by rw [hF, List.length_append]; rfl, trivial⟩, rfl, ⟨by omega, H⟩, (by omega)⟩
 ·
  try simp only [bP] at lU
  have hge : k = vs.length := by omega
  refine WE.exit (WE.aA (WL.mv rfl rfl ?_))
  refine WL.call aGf rfl (WJ (n := (ls.take k).flatten.length) H.aR (by have := gP ls k; omega)) ?_
  rintro v24 w2 ⟨hO, iE⟩
  replace H := H.push hO (aP.gZ w.heap.size v24 5 1 0 []) (gR iE H.size) (fun b hb => (iE.lt b hb).1)
  refine WL.as rfl rfl (WL.nil (WE.seq (WE.aA (WL.mv rfl rfl (WL.pv (PV.dS (H.p 0 rfl) sQ rfl) rfl (WL.mv rfl rfl (WL.nil ?_)))))))
  refine WE.block ?_
  refine WE.loop (α := Nat × Value) (rg [(6, 1), (8, 1), (27, 8)]) (fun p => [(27, .int .i64 p.1), (6, p.2)]) (fun p wl => p.1 ≤ vs.length ∧ St X w wl [] [aP.gZ w.heap.size p.2 5 1 (ls.take p.1).flatten.length (kc (ls.take p.1).flatten)] [kN s vs, qN vs ls]) (fun p => vs.length - p.1) (0, v24) ⟨rfl, rfl, trivial⟩ ⟨Nat.zero_le _, H⟩ ?_
  intro ⟨k, v⟩ γ1 w3 hI
  try dsimp only at hI
  obtain ⟨hk, H⟩ := hI
  refine WE.aA (WL.pv (PV.lss rfl rfl rfl) rfl (WL.nil (WE.seq ?_)))
  refine WE.cond rfl (fun JN => ?_) (fun JN => ?_)
  ·
   try simp only [bP] at JN
   have hlt : k < vs.length := by omega
   have hF := gU ls k (by omega)
   have hG := gP ls (k + 1)
   rw [hF, List.length_append] at hG
   refine WE.skip (WE.seq (WE.block (WE.aA (WL.pv (PV.dX rfl (H.p 0 rfl) sQ B9 rfl rfl (by omega) (by omega)) rfl (WL.aX rfl eH rfl rfl (kN.rd (H.p 0 rfl) k hlt) (WL.as rfl rfl (WL.nil ?_)))))))
   refine WE.dW (WL.mv rfl rfl (WL.mv rfl rfl ?_))
   refine WL.append (m := (ls[k]'(by omega)).length) H 0 iG (by decide) rfl rfl rfl ((H.p 1 rfl : qN vs ls _).2 k hlt (by omega)) (bH _) (by omega) (by decide) rfl ?_
   intro v33 w4 H
   refine WL.as rfl rfl (WL.nil (WE.dW (WL.pv (PV.bV rfl rfl rfl (by omega) (by omega)) rfl (WL.mv rfl rfl (WL.nil ?_)))))
   replace H : St X w w4 [] [aP.gZ w.heap.size v33 5 1 (ls.take (k+1)).flatten.length (kc (ls.take (k+1)).flatten)] [kN s vs, qN vs ls] := by rw [hF, List.length_append, iT]; exact H
   exact ⟨(k + 1, v33), (by repeat (first | with_reducible exact bK.refl _ _ | refine bK.dG rfl ?_ | refine bK.bZ rfl ?_ | refine bK.bX rfl ?_)), ⟨rfl, rfl, trivial⟩, rfl, ⟨by dsimp only; omega, H⟩, (by dsimp only; omega)⟩
  ·
   try simp only [bP] at JN
   have hge : k = vs.length := by omega
   refine WE.exit (WE.aA (WL.mv rfl rfl (WL.as rfl rfl (WL.nil (WE.ret ⟨[_], _, .nil _, ⟨rfl, trivial⟩, ?_⟩)))))
   have hall : ls.take k = ls := List.take_of_length_le (by omega)
   rw [hall] at H
   exact ⟨H.aL, H.l 0 rfl⟩
theorem WO {X : Nat → Prop} {w : World} {kd dp : Nat} {lk lv B : List UInt8} {sl : Value} {sb : List (List UInt8)} (hX : c6 X w) (bT : aH X (fE sl sb) w) (hp : jG kd dp lk lv B sb) :
  bC prog 12 [.agg (fU kd dp lk lv B sl).toArray].toArray w fun v w' => ∃ s, v = .tuple [s, .int .i64 0].toArray ∧ Out Nil w w' ∧ aH X (bL s (fM kd dp lk lv B sb)) w' := by
 refine bC.aI (N := 57) func12 rfl rfl (by simp) ?_
 have H := (St.begin hX).add (cE bT)
 have wS := hp.kd
 have D0 := hp.OP
 have mV := hp.uQ
 have hlv := hp.lvl
 have p4 := hp.bl
 have pY := hp.P6
 have wE : (fU kd dp lk lv B sl).length = 99 := gQ hp.uQ hp.lvl hp.bl
 have hs1 : sl.oneCell' = true := cO.fW (H.p 0 rfl : fE sl sb _)
 refine WE.aA ?_
 refine WL.box (l := fU kd dp lk lv B sl) H rfl rfl rfl ?_
 intro b1 w1 H
 refine WL.as rfl rfl (WL.as rfl rfl (WL.nil (WE.seq (WE.aA ?_))))
 refine WL.bE rfl nS rfl rfl (aN.aF (H.l 0 rfl) (aK.all _) rfl) (cI lE (by simp only [aS, aY, aB, Tr.aT, bS, bM, aD]; omega)) ?_
 refine WL.call Z4 rfl (tU (kd := kd) (dp := dp) (lk := lk) (lv := lv) (B := B) (sl := sl) (sb := sb) H.aR (by exact (H.bJ 0 rfl : aH _ (fE sl sb) _)) hp) ?_
 rintro _ w2 ⟨rfl, hO⟩
 replace H := H.out hO
 refine WL.as rfl rfl (WL.nil (WE.aA (WL.mv rfl rfl (WL.pv (PV.neq rfl rfl rfl) rfl (WL.nil ?_)))))
 refine WE.bD rfl rfl ?_
 refine WE.skip (WE.aA ?_)
 refine WL.bE rfl nS rfl rfl (aN.aF (H.l 0 rfl) (aK.all _) rfl) (cI lE (by simp only [aS, aY, aB, Tr.aT, bS, bM, aD]; omega)) ?_
 refine WL.call aKj rfl (aDC (kd := kd) (dp := dp) (lk := lk) (lv := lv) (B := B) (sl := sl) (sb := sb) H.aR (by exact (H.bJ 0 rfl : aH _ (fE sl sb) _)) hp) ?_
 rintro _ w3 ⟨rfl, hO⟩
 replace H := H.out hO
 have SP : (if kd = 1 then 100 else 36) ≤ 100 := by split <;> omega
 refine WL.YJ (n := ((if kd = 1 then 100 else 36) + 32 * sb.length)) H rfl iG rfl rfl (by omega) (by unfold maxLen; omega) rfl ?_
 intro b15 w5 H
 refine WL.as rfl rfl (WL.nil (WE.aA (WL.mv rfl rfl (WL.pv (PV.fieldAddr rfl nQ rfl) rfl (WL.aX rfl l9 rfl rfl (aN.aF (H.l 1 rfl) (aK.l (aK.all _)) rfl) (WL.pv (PV.JY (n := kd) rfl tE mM rfl) rfl (WL.pv (PV.fieldAddr rfl r7 rfl) rfl ?_)))))))
 refine WL.aX rfl l9 rfl rfl (aN.aF (H.l 1 rfl) (aK.r (aK.l (aK.all _)) rfl) rfl) (WL.pv (PV.CD (m := dp) (n := 8) rfl rfl rfl (by decide)) rfl (WL.pv (PV.JY (n := dp / 2 ^ 8) rfl tE mM rfl) rfl (WL.pv (PV.fieldAddr rfl r7 rfl) rfl (WL.aX rfl l9 rfl rfl (aN.aF (H.l 1 rfl) (aK.r (aK.l (aK.all _)) rfl) rfl) (WL.pv (PV.JY (n := dp) rfl tE mM rfl) rfl ?_)))))
 refine WL.bA (l0 := [.int .u8 (0), .int .u8 (0), .int .u8 (0), .int .u8 (0)]) H rfl iG (by decide) (cW _ _) (Fl.cons rfl rfl (by simp only [aS, aY, aB, Tr.aT, bS, bM, aD]) Laid.head (Fl.cons rfl rfl (by simp only [aS, aY, aB, Tr.aT, bS, bM, aD]) (Laid.tail Laid.head rfl) (Fl.cons rfl rfl (by simp only [aS, aY, aB, Tr.aT, bS, bM, aD]) (Laid.tail (Laid.tail Laid.head rfl) rfl) (Fl.cons rfl rfl (by simp only [aS, aY, aB, Tr.aT, bS, bM, aD]) (Laid.tail (Laid.tail (Laid.tail Laid.head rfl) rfl) rfl) Fl.nil)))) rfl ?_
 intro b27 w6 H
 refine WL.append (m := 4) H 1 iG (by decide) rfl rfl rfl (cO.cA (n := 4) (H.l 0 rfl) rfl : bL _ ([1, UInt8.ofNat kd, UInt8.ofNat (dp / 2 ^ 8), UInt8.ofNat dp] : List UInt8) _) (bH _) (by omega) (by decide) rfl ?_
 intro v28 w7 H
 replace H := H.forget 0
 replace H := H.conv (L' := [aP.gZ w.heap.size v28 5 1 (([1, UInt8.ofNat kd, UInt8.ofNat (dp / 2 ^ 8), UInt8.ofNat dp] : List UInt8)).length (kc (([1, UInt8.ofNat kd, UInt8.ofNat (dp / 2 ^ 8), UInt8.ofNat dp] : List UInt8))), aP.blk b1 35 (fU kd dp lk lv B sl)]) rfl
 refine WL.as rfl rfl (WL.nil (WE.aA (WL.mv rfl rfl (WL.pv (PV.fieldAddr rfl qK rfl) rfl ?_))))
 refine WL.pv (PV.iH rfl aAi (by rw [gO]; rfl) rfl) rfl ?_
 refine WL.append (m := B.length) H 0 iG (by decide) rfl rfl rfl (bL.oC (a := ⟨b1, 66, none⟩) (aN.aF (H.l 1 rfl) (aK.r (aK.r (aK.r (aK.l (aK.all (kc B))) rfl) rfl) rfl) (by simp [aJ, mV, hlv])) p4 (Nat.le_refl _)) (bH _) (by simp [p4]) (by decide) rfl ?_
 intro v32 w8 H
 replace H := H.conv (L' := [aP.gZ w.heap.size v32 5 1 (([1, UInt8.ofNat kd, UInt8.ofNat (dp / 2 ^ 8), UInt8.ofNat dp] : List UInt8) ++ B).length (kc (([1, UInt8.ofNat kd, UInt8.ofNat (dp / 2 ^ 8), UInt8.ofNat dp] : List UInt8) ++ B)), aP.blk b1 35 (fU kd dp lk lv B sl)]) (by rw [List.length_append, iT]; rfl)
 refine WL.as rfl rfl (WL.nil ?_)
 refine WE.cut (α := Value) (rg [(5, 1), (33, 12)]) (fun g_ => [(5, g_)]) (fun g_ wl => St X w wl [] [aP.gZ w.heap.size g_ 5 1 (nE kd dp lk lv B).length (kc (nE kd dp lk lv B))] [fun w => aN w b1 35 (fU kd dp lk lv B sl), fE sl sb]) ?_ ?_
 ·
  refine WE.aA (WL.pv (PV.fieldAddr rfl nQ rfl) rfl (WL.aX rfl l9 rfl rfl (aN.aF (H.l 1 rfl) (aK.l (aK.all _)) rfl) (WL.pv (PV.eql rfl rfl rfl) rfl (WL.nil ?_))))
  refine WE.cond rfl (fun aCZ => ?_) (fun aCZ => ?_)
  ·
   try simp only [bP] at aCZ
   have wT : kd = 1 := by omega
   refine WE.draw (.take 0 (.take 1 (.take 2 (.take 3 (.take 4 (.take 5 (.take 6 (.aG 7 (.aG 8 (.take 9 .done)))))))))) mixed (by kernel_rfl) ?_
   replace H := H.out (Out.drew _)
   refine WP.mv rfl rfl rfl (WP.aC rfl rfl (PV.fieldAddr rfl pI rfl) (WP.aC rfl rfl (PV.fieldAddr rfl kK rfl) ?_))
   refine WP.aC rfl rfl (PV.iH rfl gW (by rw [gO]; rfl) rfl) ?_
   refine WP.aC rfl rfl (PV.fieldAddr rfl pI rfl) (WP.aC rfl rfl (PV.fieldAddr rfl DJ rfl) ?_)
   refine WP.aC rfl rfl (PV.iH rfl pN (by rw [gO]; rfl) rfl) ?_
   refine WP.aG rfl ?_
   refine WL.bA (l0 := [.slice none 0 0, .slice none 0 0, .slice none 0 0]) H rfl K8 (by decide) (cW _ _) (Fl.cons rfl (cells_one (jI (H.l 0 rfl))) (by simp only [aS, aY, aB, Tr.aT, bS, bM, aD]) Laid.head (Fl.cons rfl rfl (by simp only [aS, aY, aB, Tr.aT, bS, bM, aD]) (Laid.tail Laid.head rfl) (Fl.cons rfl rfl (by simp only [aS, aY, aB, Tr.aT, bS, bM, aD]) (Laid.tail (Laid.tail Laid.head rfl) rfl) Fl.nil))) rfl ?_
   intro b43 w9 H
   replace H := H.freeze (i := 0) rfl
   replace H := H.freeze (i := 0) rfl
   replace H := H.freeze (i := 0) rfl
   replace H := H.add (show aH _ (kN (.slice (some ⟨b43, 0, none⟩) 3 3) [v32, .slice (some ⟨b1, 2, none⟩) 32 32, .slice (some ⟨b1, 34, none⟩) 32 32]) _ from (H.bJ 2 rfl).imp fun _ h => kN.cA h rfl)
   replace H := H.add (show aH _ (qN [v32, .slice (some ⟨b1, 2, none⟩) 32 32, .slice (some ⟨b1, 34, none⟩) 32 32] [([1, UInt8.ofNat kd, UInt8.ofNat (dp / 2 ^ 8), UInt8.ofNat dp] : List UInt8) ++ B, lk, lv]) _ from ((H.bJ 2 rfl).and (H.bJ 1 rfl)).imp fun w h => qN.cons (bL.dM h.1) (qN.cons (bL.oC (a := ⟨b1, 2, none⟩) (aN.aF h.2 (aK.r (aK.r (aK.l (aK.l (aK.all (kc lk)))) rfl) rfl) (by simp [aJ, mV, hlv])) mV (Nat.le_refl _)) (qN.cons (bL.oC (a := ⟨b1, 34, none⟩) (aN.aF h.2 (aK.r (aK.r (aK.l (aK.r (aK.all (kc lv)) rfl)) rfl) rfl) (by simp [aJ, mV, hlv])) hlv (Nat.le_refl _)) (qN.nil w))))
   refine WL.nil ⟨c8, ?_⟩
   refine WP.aG rfl ?_
   refine WL.call aGo rfl (PT (vs := [v32, .slice (some ⟨b1, 2, none⟩) 32 32, .slice (some ⟨b1, 34, none⟩) 32 32]) (ls := [([1, UInt8.ofNat kd, UInt8.ofNat (dp / 2 ^ 8), UInt8.ofNat dp] : List UInt8) ++ B, lk, lv]) H.aR (by exact (H.bJ 1 rfl : aH _ (kN _ _) _)) (by exact (H.bJ 0 rfl : aH _ (qN _ _) _)) (by simp) (by simp [mV, hlv, p4])) ?_
   rintro v44 tX ⟨hO, iE⟩
   replace H := H.push hO (aP.gZ w.heap.size v44 5 1 _ _) (gR iE H.size) (fun b hb => (iE.lt b hb).1)
   have hhd : [([1, UInt8.ofNat kd, UInt8.ofNat (dp / 2 ^ 8), UInt8.ofNat dp] : List UInt8) ++ B, lk, lv].flatten = nE kd dp lk lv B := by unfold nE; rw [if_pos wT]; simp
   rw [hhd] at H
   refine WL.nil ⟨c8, ?_⟩
   refine WP.as rfl rfl rfl (WP.done ?_)
   exact ⟨v44, (by repeat (first | with_reducible exact bK.refl _ _ | refine bK.dG rfl ?_)), ⟨rfl, trivial⟩, rfl, (show St X w _ [] [aP.gZ w.heap.size v44 5 1 (nE kd dp lk lv B).length (kc (nE kd dp lk lv B))] [fun w => aN w b1 35 (fU kd dp lk lv B sl), fE sl sb] from by exact H.rS [2, 5])⟩
  ·
   try simp only [bP] at aCZ
   have PZ : ¬ kd = 1 := by omega
   have hhd : ([1, UInt8.ofNat kd, UInt8.ofNat (dp / 2 ^ 8), UInt8.ofNat dp] : List UInt8) ++ B = nE kd dp lk lv B := by unfold nE; rw [if_neg PZ, List.append_nil]
   rw [hhd] at H
   replace H := H.freeze (i := 1) rfl
   refine WE.skip ?_
   exact ⟨v32, (by repeat (first | with_reducible exact bK.refl _ _ | refine bK.dG rfl ?_)), ⟨rfl, trivial⟩, rfl, (show St X w _ [] [aP.gZ w.heap.size v32 5 1 (nE kd dp lk lv B).length (kc (nE kd dp lk lv B))] [fun w => aN w b1 35 (fU kd dp lk lv B sl), fE sl sb] from H.rS [0, 1])⟩
 ·
  intro g_ γ xG hI
  try dsimp only at hI
  replace H := hI
  refine WE.seq (WE.aA (WL.pv (PV.fieldAddr rfl nP rfl) rfl ?_))
  refine WL.aX rfl vF rfl rfl (aN.aF (H.p 0 rfl) (aK.r (aK.r (aK.r (aK.r (aK.all _) rfl) rfl) rfl) rfl) (by simp [aJ, aQ, *])) ?_
  refine WL.pv (PV.dS (by exact (H.p 1 rfl : (fE sl sb) _)) oZ rfl) rfl ?_
  refine WL.mv rfl rfl (WL.nil (WE.block ?_))
  refine WE.loop (α := Nat × Value) (rg [(5, 1), (7, 1), (48, 8)]) (fun p => [(48, .int .i64 (p.1 : Int)), (5, p.2)]) (fun p wl => p.1 ≤ sb.length ∧ St X w wl [] [aP.gZ w.heap.size p.2 5 1 (encI kd dp lk lv B sb (p.1)).length (kc (encI kd dp lk lv B sb (p.1)))] [fun w => aN w b1 35 (fU kd dp lk lv B sl), fE sl sb]) (fun p => sb.length - p.1) (0, g_) ⟨rfl, rfl, trivial⟩ ⟨Nat.zero_le _, H.conv (L' := [aP.gZ w.heap.size g_ 5 1 (encI kd dp lk lv B sb (0)).length (kc (encI kd dp lk lv B sb (0)))]) (by show _ = _; unfold encI; rw [List.take_zero]; simp)⟩ ?_
  intro ⟨i, g⟩ γ0 HL hI
  try dsimp only at hI
  obtain ⟨hi, H⟩ := hI
  refine WE.aA (WL.pv (PV.lss rfl rfl rfl) rfl (WL.nil (WE.seq ?_)))
  refine WE.cond rfl (fun JL => ?_) (fun JL => ?_)
  ·
   try simp only [bP] at JL
   have hlt : i < sb.length := by omega
   have hsi := hp.sl _ (List.getElem_mem hlt)
   have hes := BO (kd := kd) (dp := dp) (lk := lk) (lv := lv) (B := B) hlt
   have hel := yV hp i (by omega)
   have SP : (if kd = 1 then 100 else 36) ≤ 100 := by split <;> omega
   refine WE.skip (WE.seq (WE.block (WE.aA ?_)))
   refine WL.pv (PV.dX rfl (by exact (H.p 1 rfl : (fE sl sb) _)) oZ dH rfl rfl (by omega) (by omega)) rfl ?_
   refine WL.bE rfl fS rfl rfl ((fE.rd (by exact (H.p 1 rfl : (fE sl sb) _)) hp.sl i hlt)) (cI dH (by simp only [aS, aY, aB, Tr.aT, bS, bM, aD]; omega)) ?_
   refine WL.alloc H rfl lB rfl ?_
   intro b7 DW H
   refine WL.aW H 0 rfl rfl rfl (new := kc sb[i]) rfl (cI dH (by simp only [aS, aY, aB, Tr.aT, bS, bM, aD]; omega)) (bH _) (Laid.at (Laid.all (by simp only [aS, aY, aB, Tr.aT, bS, bM, aD]; omega)) rfl) rfl ?_
   intro H9 H
   refine WL.nil (WE.dW (WL.mv rfl rfl ?_))
   refine WL.pv (PV.iH rfl pN (by rw [gO]; rfl) rfl) rfl ?_
   refine WL.append (m := sb[i].length) H 1 iG (by decide) rfl rfl rfl (bL.cA (H.l 0 rfl) hsi) (bH _) (by omega) (by decide) rfl ?_
   intro v54 ND H
   replace H := H.forget 0
   replace H := H.conv (L' := [aP.gZ w.heap.size v54 5 1 (encI kd dp lk lv B sb (i + 1)).length (kc (encI kd dp lk lv B sb (i + 1)))]) (by rw [hes, List.length_append, iT]; rfl)
   refine WL.as rfl rfl (WL.nil (WE.dW (WL.pv (PV.eq (v' := .int .i64 ((i + 1 : Nat) : Int)) (PV.bV rfl rfl rfl (by omega) (by omega)) rfl) rfl (WL.mv rfl rfl (WL.nil ?_)))))
   exact ⟨(i + 1, v54), (by repeat (first | with_reducible exact bK.refl _ _ | refine bK.dG rfl ?_ | refine bK.bZ rfl ?_ | refine bK.bX rfl ?_)), ⟨rfl, rfl, trivial⟩, rfl, ⟨by dsimp only; omega, H⟩, (by dsimp only; omega)⟩
  ·
   try simp only [bP] at JL
   have vR : i = sb.length := by omega
   refine WE.exit (WE.aA (WL.mv rfl rfl (WL.as rfl rfl (WL.as rfl rfl (WL.nil (WE.ret ⟨[_, _], _, .nil _, ⟨rfl, rfl, trivial⟩, ?_⟩))))))
   subst vR
   rw [GC] at H
   replace H := H.freeze (i := 0) rfl
   exact ⟨g, rfl, H.aL, H.fX ((H.bJ 0 rfl).imp fun _ h => bL.dM h)⟩
theorem PV.aHW {P : Program} {σ : Env} {o : Oper} {t e : TypeId} {x : Operand} {a : Addr} {n m c : Nat} (h : o.op = .sliceToArrayPointer t x) (ht : eX P t = some (n, e)) (hx : ev σ x = .slice (some a) m c) (hm : n ≤ m) : PV P σ o (.pointer (some a)) := fun w => by
 have h1 : ¬ m < n := by omega
 simp [execOp, h, hx, Instr.arrayAt, run_underlying (eS ht), h1]
theorem dD.pre {w : World} {a : Addr} {l m : List Value} (h : dD w a (l ++ m)) : dD w a l := fun j v hj => h j v (by rw [List.getElem?_append_left (List.getElem?_eq_some_iff.1 hj).1]; exact hj)
theorem dD.aCa {w : World} {a : Addr} {l : List UInt8} (h : dD w a (kc l)) (n : Nat) : dD w a (kc (l.take n)) := by
 have e : kc l = kc (l.take n) ++ kc (l.drop n) := by rw [← iT, List.take_append_drop]
 rw [e] at h
 exact dD.pre h
theorem aIE {d : Nat} (h : d ≤ 256) : (UInt8.ofNat (d / 2 ^ 8)).toNat = d / 256 := by rw [UInt8.toNat_ofNat']; omega
theorem aID (d : Nat) : (UInt8.ofNat d).toNat = d % 256 := by rw [UInt8.toNat_ofNat']
theorem aET {d : Nat} (h : d ≤ 256) : IntKind.i64.wrap ((BitVec.ofInt IntKind.i64.bits ((d / 256 * 256 : Nat) : Int) ||| BitVec.ofInt IntKind.i64.bits ((d % 256 : Nat) : Int)).toNat : Int) = (d : Int) := by
 have : ∀ d : Fin 257, IntKind.i64.wrap ((BitVec.ofInt IntKind.i64.bits ((d.val / 256 * 256 : Nat) : Int) ||| BitVec.ofInt IntKind.i64.bits ((d.val % 256 : Nat) : Int)).toNat : Int) = (d.val : Int) := by decide +kernel
 exact this ⟨d, by omega⟩
theorem DF : ∀ (l : List (List UInt8)), (∀ s ∈ l, s.length = 32) → l.flatten.length = 32 * l.length
 | [], _ => rfl
 | s :: l, h => by
  rw [List.flatten_cons, List.length_append, h s (by simp), DF l fun x hx => h x (List.mem_cons_of_mem _ hx), List.length_cons]; omega
theorem BQ {sb : List (List UInt8)} {i : Nat} (h : i < sb.length) : (sb.drop i).flatten = sb[i] ++ (sb.drop (i + 1)).flatten := by rw [List.drop_eq_getElem_cons h]; rfl
theorem x7 {X : Nat → Prop} {w : World} {br : Nat} {s : Value} {l : List UInt8} (hX : c6 X w) (fA : aN w br 277 ([s, .bool false])) (bT : aH (fun c_ => X c_ ∨ c_ = br) (bL s l) w) (hl : 32 ≤ l.length) (hle : l.length ≤ 1000000) :
  bC prog 167 [.pointer (some ⟨br, 0, none⟩)].toArray w fun v w' => ∃ s', v = .agg (kc (l.take 32)).toArray ∧ Out (· = br) w w' ∧ aN w' br 277 [s', .bool false] ∧ aH (fun c => X c ∨ c = br) (bL s' (l.drop 32)) w' := by
 refine bC.aI (N := 28) func167 rfl rfl (by simp) ?_
 have H := (St.dK (b := br) (t := 277) (l := [s, .bool false]) hX fA).add (cC bT)
 have aLE : (l.take 32).length = 32 := by rw [List.length_take]; omega
 obtain ⟨sa, sc, rfl⟩ := bL.some (bT.here) (by omega)
 refine WE.aA ?_
 refine WL.alloc H rfl aIz rfl ?_
 intro b2 w1 H
 refine WL.nil (WE.seq (WE.aA (WL.mv rfl rfl (WL.pv (PV.nilCheck rfl rfl) rfl (WL.pv (PV.fieldAddr rfl qT rfl) rfl (WL.aX rfl eH rfl rfl (aN.aF (H.o 0 rfl) aK.hd rfl) ?_))))))
 refine WL.pv (PV.dS (by exact (H.p 0 rfl : (bL _ l) _)) eN rfl) rfl ?_
 refine WL.pv (PV.lss rfl rfl rfl) rfl (WL.nil ?_)
 refine WE.bD rfl (by simp; omega) ?_
 refine WE.skip (WE.aA (WL.mv rfl rfl (WL.pv (PV.nilCheck rfl rfl) rfl (WL.pv (PV.fieldAddr rfl qT rfl) rfl (WL.aX rfl eH rfl rfl (aN.aF (H.o 0 rfl) aK.hd rfl) (WL.pv (PV.aHW rfl aAi rfl hl) rfl ?_))))))
 refine WL.bE rfl DQ rfl rfl ((dD.aCa (bL.whole (H.p 0 rfl)) 32)) (cI wB (by simp only [aS, aY, aB, aD]; omega)) ?_
 refine WL.aW H 0 rfl rfl rfl (new := kc (l.take 32)) rfl (cI wB (by simp only [aS, aY, aB, aD]; omega)) (bH _) (Laid.at (Laid.all (by simp only [aS, aY, aB, aD]; omega)) rfl) rfl ?_
 intro w2 H
 refine WL.nil (WE.aA (WL.mv rfl rfl (WL.mv rfl rfl (WL.pv (PV.nilCheck rfl rfl) rfl (WL.pv (PV.fieldAddr rfl qT rfl) rfl (WL.aX rfl eH rfl rfl (aN.aF (H.o 0 rfl) aK.hd rfl) (WL.pv (PV.q9 rfl (H.p 0 rfl) eN gO rfl rfl (by omega) (by omega)) rfl ?_)))))))
 refine WL.pv (PV.nilCheck rfl rfl) rfl (WL.pv (PV.fieldAddr rfl qT rfl) rfl ?_)
 refine WL.lQ H 0 rfl rfl rfl (new := [jO (.slice (some sa) l.length sc) 1 32 l.length]) rfl (by exact B9) (bB _ rfl) (Laid.at Laid.head rfl) rfl ?_
 intro w3 H
 refine WL.nil (WE.aA ?_)
 refine WL.bE rfl DQ rfl rfl (aN.aF (H.l 0 rfl) (aK.all _) rfl) (cI wB (by simp only [aS, aY, aB, aD]; omega)) ?_
 refine WL.aW H 0 rfl rfl rfl (new := kc (l.take 32)) rfl (cI wB (by simp only [aS, aY, aB, aD]; omega)) (bH _) (Laid.at (Laid.all rfl) rfl) rfl ?_
 intro w4 H
 refine WL.nil (WE.ret ⟨[_], _, .nil _, ⟨⟨_, rfl, aU DQ (aN.aF (H.l 0 rfl) (aK.all _) rfl) (cI wB (by simp only [aS, aY, aB, aD]; omega))⟩, trivial⟩, ?_⟩)
 refine ⟨_, rfl, H.cT, H.o 0 rfl, (H.gA (H.bJ 0 rfl)).imp fun _ h => ?_⟩
 have h_ := bL.sub h hl (Nat.le_refl _)
 rw [List.take_of_length_le (by rw [List.length_drop]; omega)] at h_
 exact h_
theorem aAK {X : Nat → Prop} {w : World} {s : Value} {kd dp : Nat} {lk lv B : List UInt8} {sb : List (List UInt8)} (hX : c6 X w) (bT : aH X (bL s (fM kd dp lk lv B sb)) w) (hl : 4 ≤ (fM kd dp lk lv B sb).length) (hle : (fM kd dp lk lv B sb).length ≤ 1000000) (wS : kd = 0 ∨ kd = 1) :
  bC prog 166 [s].toArray w fun v w' => v = .tuple [.int .i64 (kd : Int), .int .i64 0].toArray ∧ Out Nil w w' := by
 refine bC.aI (N := 17) func166 rfl rfl (by simp) ?_
 have H := (St.begin hX).add (cE bT)
 have hkn : (UInt8.ofNat kd).toNat = kd := by rw [UInt8.toNat_ofNat']; omega
 refine WE.aA (WL.as rfl rfl (WL.as rfl rfl (WL.nil (WE.seq (WE.block (WE.aA (WL.mv rfl rfl ?_)))))))
 refine WL.pv (PV.dS (by exact (H.p 0 rfl : (bL s (fM kd dp lk lv B sb)) _)) eN rfl) rfl ?_
 refine WL.pv (PV.lss rfl rfl rfl) rfl (WL.as rfl rfl (WL.nil ?_))
 refine WE.bD rfl (by simp; omega) ?_
 refine WE.aA (WL.mv rfl rfl (WL.pv (PV.dX rfl (H.p 0 rfl) eN gO rfl rfl (by omega) (by omega)) rfl ?_))
 refine WL.aX rfl vD rfl rfl ((show dD _ _ [.int .u8 1] from bL.rd (by exact (H.p 0 rfl : (bL s (fM kd dp lk lv B sb)) _)) 0 (by omega))) ?_
 refine WL.pv (PV.neq rfl rfl rfl) rfl (WL.as rfl rfl (WL.nil ?_))
 refine WE.bD rfl rfl ?_
 refine WE.skip (WE.aA (WL.mv rfl rfl (WL.pv (PV.dX rfl (H.p 0 rfl) eN gO rfl rfl (by omega) (by omega)) rfl ?_)))
 refine WL.aX rfl vD rfl rfl ((show dD _ _ [.int .u8 ((UInt8.ofNat kd).toNat : Int)] from bL.rd (by exact (H.p 0 rfl : (bL s (fM kd dp lk lv B sb)) _)) 1 (by omega))) ?_
 refine WL.pv (PV.eq (v' := .int .i64 (kd : Int)) (PV.lX (a := ((UInt8.ofNat kd).toNat : Int)) rfl mM tE rfl (by omega) (by omega)) (by congr 1; omega)) rfl ?_
 refine WL.as rfl rfl (WL.as rfl rfl (WL.nil (WE.ret ⟨[_, _], _, .nil _, ⟨rfl, rfl, trivial⟩, ?_⟩)))
 exact ⟨rfl, H.aL⟩
theorem WR {X : Nat → Prop} {w : World} {s : Value} {kd dp : Nat} {lk lv B : List UInt8} {sb : List (List UInt8)} (hX : c6 X w) (bT : aH X (bL s (fM kd dp lk lv B sb)) w) (hp : jG kd dp lk lv B sb) :
  bC prog 126 [s].toArray w fun v w' => ∃ sl, v = .tuple [.agg (fU kd dp lk lv B sl).toArray, .int .i64 0].toArray ∧ Out Nil w w' ∧ aH X (fE sl sb) w' := by
 refine bC.aI (N := 104) func126 rfl rfl (by simp) ?_
 have H := (St.begin hX).add (cE bT)
 have wS := hp.kd
 have D0 := hp.OP
 have mV := hp.uQ
 have hlv := hp.lvl
 have p4 := hp.bl
 have pY := hp.P6
 have C0 : (List.replicate 32 (0 : UInt8)).length = 32 := List.length_replicate
 have hEl := GB hp
 have FO := DF sb hp.sl
 have hKl : (if kd = 1 then lk ++ lv else []).length = if kd = 1 then 64 else 0 := by split <;> simp [mV, hlv]
 have hEd : (fM kd dp lk lv B sb).drop 4 = (B ++ ((if kd = 1 then lk ++ lv else []) ++ sb.flatten)) := by show ((([1, UInt8.ofNat kd, UInt8.ofNat (dp / 2 ^ 8), UInt8.ofNat dp] ++ B) ++ (if kd = 1 then lk ++ lv else [])) ++ sb.flatten).drop 4 = _; rw [List.append_assoc, List.append_assoc]; rfl
 have hRl : (B ++ ((if kd = 1 then lk ++ lv else []) ++ sb.flatten)).length = 32 + ((if kd = 1 then 64 else 0) + 32 * sb.length) := by rw [List.length_append, List.length_append, p4, hKl, FO]
 have hle1 : (if kd = 1 then 100 else 36) ≤ 100 ∧ 36 ≤ (if kd = 1 then 100 else 36) := by split <;> omega
 have hle2 : (if kd = 1 then 64 else 0) ≤ 64 := by split <;> omega
 refine WE.aA ?_
 refine WL.alloc H rfl D5 rfl ?_
 intro b2 w1 H
 obtain ⟨z2, hz2⟩ : ∃ z2 : List Value, z2 = [.int .i64 0] ++ ([.int .i64 0] ++ ((kc (List.replicate 32 0) ++ kc (List.replicate 32 0)) ++ (kc (List.replicate 32 0) ++ [.slice none 0 0]))) := ⟨_, rfl⟩
 have aLn : z2.length = 99 := by rw [hz2]; rfl
 rw [← hz2] at H
 refine WL.as rfl rfl (WL.nil (WE.seq (WE.aA (WL.mv rfl rfl ?_))))
 refine WL.pv (PV.dS (by exact (H.p 0 rfl : (bL s (fM kd dp lk lv B sb)) _)) eN rfl) rfl ?_
 refine WL.pv (PV.lss rfl rfl rfl) rfl (WL.nil ?_)
 refine WE.bD rfl (by simp; omega) ?_
 refine WE.skip (WE.aA (WL.mv rfl rfl ?_))
 refine WL.call aGU rfl (aAK (kd := kd) (dp := dp) (lk := lk) (lv := lv) (B := B) (sb := sb) H.aR (by exact (H.bJ 0 rfl : aH _ (bL s (fM kd dp lk lv B sb)) _)) (by omega) (by omega) wS) ?_
 rintro _ w2 ⟨rfl, hO⟩
 replace H := H.out hO
 refine WL.mv rfl rfl (WL.pv (PV.extract rfl rfl rfl) rfl (WL.pv (PV.extract rfl rfl rfl) rfl (WL.as rfl rfl (WL.as rfl rfl (WL.nil (WE.seq (WE.aA ?_)))))))
 refine WL.mv rfl rfl (WL.pv (PV.neq rfl rfl rfl) rfl (WL.nil ?_))
 refine WE.bD rfl rfl ?_
 refine WE.skip ?_
 refine WE.cut (α := Unit) (rg [(3, 1), (22, 7)]) (fun _ => []) (fun _ wl => St X w wl [] [aP.blk b2 35 z2] [bL s (fM kd dp lk lv B sb)]) ?_ ?_
 ·
  refine WE.aA (WL.mv rfl rfl (WL.pv (PV.neq rfl rfl rfl) rfl (WL.mv rfl rfl ?_)))
  refine WL.split (t := 24) rfl (fun TA => ?_) (fun TA => ?_)
  ·
   refine WL.known (t := 23) (c := true) rfl TA ?_
   try simp only [bP] at TA
   refine WL.mv rfl rfl (WL.pv (PV.neq rfl rfl rfl) rfl (WL.pv (PV.c5 rfl rfl rfl) rfl (WL.nil ?_)))
   refine WE.bD rfl (by simp; omega) ?_
   refine WE.skip ?_
   exact ⟨(), (by repeat (first | with_reducible exact bK.refl _ _ | refine bK.dG rfl ?_)), trivial, rfl, H⟩
  ·
   refine WL.known (t := 23) (c := false) rfl TA ?_
   try simp only [bP] at TA
   refine WL.off rfl (WL.off rfl (WL.pv (PV.cF rfl rfl rfl) rfl (WL.nil (WE.jF rfl (WE.skip ?_)))))
   exact ⟨(), (by repeat (first | with_reducible exact bK.refl _ _ | refine bK.dG rfl ?_)), trivial, rfl, H⟩
 ·
  intro _ γ w3 hI
  try dsimp only at hI
  replace H := hI
  refine WE.aA (WL.mv rfl rfl ?_)
  refine WL.pv (PV.eq (v' := jO s 1 4 (fM kd dp lk lv B sb).length) (PV.q9 rfl (by exact (H.p 0 rfl : (bL s (fM kd dp lk lv B sb)) _)) eN gO rfl rfl (by omega) (by omega)) rfl) rfl ?_
  replace H := H.add (show aH _ (bL (jO s 1 4 (fM kd dp lk lv B sb).length) (B ++ ((if kd = 1 then lk ++ lv else []) ++ sb.flatten))) _ from ((by exact (H.bJ 0 rfl : aH _ (bL s (fM kd dp lk lv B sb)) _)) : aH _ (bL s (fM kd dp lk lv B sb)) _).imp fun _ h => by have h_ := bL.sub h (show 4 ≤ (fM kd dp lk lv B sb).length by omega) (Nat.le_refl _); rw [List.take_of_length_le (by rw [List.length_drop]; exact Nat.le_refl _), hEd] at h_; exact h_)
  have aBd : (jO s 1 4 (fM kd dp lk lv B sb).length).oneCell' = true := cO.fW (H.p 0 rfl : bL _ (B ++ ((if kd = 1 then lk ++ lv else []) ++ sb.flatten)) _)
  obtain ⟨s4, hs4⟩ : ∃ s4, s4 = jO s 1 4 (fM kd dp lk lv B sb).length := ⟨_, rfl⟩
  rw [← hs4] at H aBd ⊢
  refine WL.pv (PV.dQ rfl aEL aD3 (Fl.cons rfl (cells_one aBd) (by simp only [aS, aY, aB, aD]) Laid.head Fl.nil)) rfl ?_
  refine WL.box (l := [s4, .bool false]) H rfl rfl rfl ?_
  intro J5 w4 H
  refine WL.as rfl rfl (WL.nil (WE.aA (WL.mv rfl rfl (WL.pv (PV.makeFunc rfl) rfl (WL.as rfl rfl (WL.nil ?_))))))
  refine WE.bG (.take 0 (.take 1 (.take 2 (.take 3 (.take 4 (.take 5 (.take 6 (.take 7 (.take 8 (.take 9 (.take 10 (.take 11 (.jT 12 (.take 13 (.aG 14 (.aG 15 .done))) 14 (.aG 12 (.take 13 (.aG 15 .done)))))))))))))))) mixed (by kernel_rfl) ?_
  replace H := H.out (Out.drew _)
  refine WP.mv rfl rfl rfl (WP.mv rfl rfl rfl ?_)
  refine WP.aC rfl rfl (PV.dX rfl (by exact (H.p 1 rfl : (bL s (fM kd dp lk lv B sb)) _)) eN gO rfl rfl (by omega) (by omega)) ?_
  refine WP.aM rfl rfl (RV.aV rfl vD rfl) ((show dD _ _ [.int .u8 ((UInt8.ofNat (dp / 2 ^ 8)).toNat : Int)] from bL.rd (by exact (H.p 1 rfl : (bL s (fM kd dp lk lv B sb)) _)) 2 (by omega))) ?_
  refine WP.aC rfl rfl (PV.eq (v' := .int .i64 ((dp / 256 : Nat) : Int)) (PV.lX (a := ((UInt8.ofNat (dp / 2 ^ 8)).toNat : Int)) rfl mM tE rfl (by omega) (by have := (UInt8.ofNat (dp / 2 ^ 8)).toNat_lt; omega)) (by rw [aIE D0])) ?_
  refine WP.aC rfl rfl (PV.eq (v' := .int .i64 ((dp / 256 * 256 : Nat) : Int)) (PV.XY rfl rfl rfl (by omega)) (by rw [show IntKind.i64.wrap _ = _ from wrap64_in (by simp [IntKind.bits]; omega) (by simp [IntKind.bits]; omega)] <;> ((congr 1; done)))) ?_
  refine WP.mv rfl rfl rfl ?_
  refine WP.aC rfl rfl (PV.dX rfl (by exact (H.p 1 rfl : (bL s (fM kd dp lk lv B sb)) _)) eN gO rfl rfl (by omega) (by omega)) ?_
  refine WP.aM rfl rfl (RV.aV rfl vD rfl) ((show dD _ _ [.int .u8 ((UInt8.ofNat dp).toNat : Int)] from bL.rd (by exact (H.p 1 rfl : (bL s (fM kd dp lk lv B sb)) _)) 3 (by omega))) ?_
  refine WP.aC rfl rfl (PV.eq (v' := .int .i64 ((dp % 256 : Nat) : Int)) (PV.lX (a := ((UInt8.ofNat dp).toNat : Int)) rfl mM tE rfl (by omega) (by have := (UInt8.ofNat dp).toNat_lt; omega)) (by rw [aID])) ?_
  refine WP.aC rfl rfl (PV.eq (v' := .int .i64 (dp : Int)) (PV.orw rfl rfl rfl) (congrArg (Value.int .i64) (aET D0))) ?_
  refine WP.mv rfl rfl rfl ?_
  refine WP.join (α := Nat × Value) (.aG 15 .done) [8, 47, 48] (fun g_ => [(47, .agg (kc B).toArray), (8, .pointer (some ⟨g_.1, 0, none⟩)), (48, .agg (fU kd dp (List.replicate 32 0) (List.replicate 32 0) B (.slice none 0 0)).toArray)]) (fun g_ wl => St X w wl [] [aP.blk g_.1 35 ([.int .i64 0] ++ ([.int .i64 0] ++ ((kc (List.replicate 32 0) ++ kc (List.replicate 32 0)) ++ (kc (List.replicate 32 0) ++ [.slice none 0 0])))), aP.blk J5 277 [g_.2, .bool false], aP.blk b2 35 z2] [bL g_.2 ((if kd = 1 then lk ++ lv else []) ++ sb.flatten), bL s (fM kd dp lk lv B sb)]) ?_ ?_
  ·
   intro jn_
   refine WP.jT rfl rfl ?_ ?_ 
   ·
    refine WL.rK F6 rfl rfl (by exact x7 (br := J5) (l := (B ++ ((if kd = 1 then lk ++ lv else []) ++ sb.flatten))) H.aR (H.l 0 rfl) (by exact (H.iL 0 rfl 0 rfl : aH _ (bL s4 (B ++ ((if kd = 1 then lk ++ lv else []) ++ sb.flatten))) _)) (by omega) (by omega)) ?_
    rintro _ w5 ⟨XZ, rfl, hO, hB, hR⟩
    have LU : (B ++ ((if kd = 1 then lk ++ lv else []) ++ sb.flatten)).take 32 = B := List.take_left' p4
    have hdk : (B ++ ((if kd = 1 then lk ++ lv else []) ++ sb.flatten)).drop 32 = (if kd = 1 then lk ++ lv else []) ++ sb.flatten := List.drop_left' p4
    rw [LU]
    rw [hdk] at hR
    replace H := H.pM 0 rfl hO hB hR
    refine WL.nil ⟨(fa (fun _ _ => ((show dD _ _ [.int .u8 ((UInt8.ofNat dp).toNat : Int)] from bL.rd (by exact (H.p 2 rfl : (bL s (fM kd dp lk lv B sb)) _)) 3 (by omega)))) (fa (fun _ _ => ((show dD _ _ [.int .u8 ((UInt8.ofNat (dp / 2 ^ 8)).toNat : Int)] from bL.rd (by exact (H.p 2 rfl : (bL s (fM kd dp lk lv B sb)) _)) 2 (by omega)))) c8)), ?_⟩
    refine WP.aC rfl rfl (PV.dQ rfl aCq D5 (Fl.cons rfl rfl (by simp only [aS, aY, aB, aD]) (Laid.left (Laid.all (by simp only [aS, aY, aB, aD]))) (Fl.cons rfl rfl (by simp only [aS, aY, aB, aD]) (Laid.right (Laid.left (Laid.all (by simp only [aS, aY, aB, aD]))) (by simp only [aS, aY, aB, aD])) (Fl.cons rfl rfl (by simp only [aS, aY, aB, aD]; omega) (Laid.right (Laid.right (Laid.right (Laid.left (Laid.all (by simp only [aS, aY, aB, aD]; omega))) rfl) rfl) (by simp only [aS, aY, aB, aD])) Fl.nil)))) ?_
    refine WP.aG rfl ?_
    refine WL.alloc H rfl D5 rfl ?_
    intro b8 w6 H
    refine WL.nil ⟨(fa (fun _ _ => ((show dD _ _ [.int .u8 ((UInt8.ofNat dp).toNat : Int)] from bL.rd (by exact (H.p 2 rfl : (bL s (fM kd dp lk lv B sb)) _)) 3 (by omega)))) (fa (fun _ _ => ((show dD _ _ [.int .u8 ((UInt8.ofNat (dp / 2 ^ 8)).toNat : Int)] from bL.rd (by exact (H.p 2 rfl : (bL s (fM kd dp lk lv B sb)) _)) 2 (by omega)))) c8)), ?_⟩
    exact jn_ _ _ ⟨(b8, XZ), (by repeat (first | with_reducible exact bK.refl _ _ | refine bK.dG rfl ?_)), ⟨rfl, rfl, rfl, trivial⟩, (by exact H.rS [0, 2])⟩
   ·
    refine WL.alloc H rfl D5 rfl ?_
    intro b8 w7 H
    refine WL.nil ⟨(fa (fun _ _ => ((show dD _ _ [.int .u8 ((UInt8.ofNat dp).toNat : Int)] from bL.rd (by exact (H.p 1 rfl : (bL s (fM kd dp lk lv B sb)) _)) 3 (by omega)))) (fa (fun _ _ => ((show dD _ _ [.int .u8 ((UInt8.ofNat (dp / 2 ^ 8)).toNat : Int)] from bL.rd (by exact (H.p 1 rfl : (bL s (fM kd dp lk lv B sb)) _)) 2 (by omega)))) c8)), ?_⟩
    refine WP.aG rfl ?_
    refine WL.rK F6 rfl rfl (by exact x7 (br := J5) (l := (B ++ ((if kd = 1 then lk ++ lv else []) ++ sb.flatten))) H.aR (H.l 1 rfl) (by exact (H.iL 1 rfl 0 rfl : aH _ (bL s4 (B ++ ((if kd = 1 then lk ++ lv else []) ++ sb.flatten))) _)) (by omega) (by omega)) ?_
    rintro _ w8 ⟨XZ, rfl, hO, hB, hR⟩
    have LU : (B ++ ((if kd = 1 then lk ++ lv else []) ++ sb.flatten)).take 32 = B := List.take_left' p4
    have hdk : (B ++ ((if kd = 1 then lk ++ lv else []) ++ sb.flatten)).drop 32 = (if kd = 1 then lk ++ lv else []) ++ sb.flatten := List.drop_left' p4
    rw [LU]
    rw [hdk] at hR
    replace H := H.pM 1 rfl hO hB hR
    refine WL.nil ⟨(fa (fun _ _ => ((show dD _ _ [.int .u8 ((UInt8.ofNat dp).toNat : Int)] from bL.rd (by exact (H.p 2 rfl : (bL s (fM kd dp lk lv B sb)) _)) 3 (by omega)))) (fa (fun _ _ => ((show dD _ _ [.int .u8 ((UInt8.ofNat (dp / 2 ^ 8)).toNat : Int)] from bL.rd (by exact (H.p 2 rfl : (bL s (fM kd dp lk lv B sb)) _)) 2 (by omega)))) c8)), ?_⟩
    refine WP.aC rfl rfl (PV.dQ rfl aCq D5 (Fl.cons rfl rfl (by simp only [aS, aY, aB, aD]) (Laid.left (Laid.all (by simp only [aS, aY, aB, aD]))) (Fl.cons rfl rfl (by simp only [aS, aY, aB, aD]) (Laid.right (Laid.left (Laid.all (by simp only [aS, aY, aB, aD]))) (by simp only [aS, aY, aB, aD])) (Fl.cons rfl rfl (by simp only [aS, aY, aB, aD]; omega) (Laid.right (Laid.right (Laid.right (Laid.left (Laid.all (by simp only [aS, aY, aB, aD]; omega))) rfl) rfl) (by simp only [aS, aY, aB, aD])) Fl.nil)))) ?_
    exact jn_ _ _ ⟨(b8, XZ), (by repeat (first | with_reducible exact bK.refl _ _ | refine bK.dG rfl ?_)), ⟨rfl, rfl, rfl, trivial⟩, (by exact H.rS [0, 2])⟩
  ·
   intro ⟨b8, XZ⟩ γ_ w9 hI
   try dsimp only at hI
   replace H := hI
   refine WP.aG rfl ?_
   refine WL.aW H 0 rfl rfl rfl (new := fU kd dp (List.replicate 32 0) (List.replicate 32 0) B (.slice none 0 0)) rfl (cI lE (by simp only [aS, aY, aB, aD]; omega)) (sY rfl) (Laid.at (Laid.all (by simp only [aS, aY, aB, aD]; omega)) rfl) rfl ?_
   intro tX H
   refine WL.nil ⟨(fa (nw 15 8) (fa (nw 15 3) c8)), ?_⟩
   refine WP.done ?_
   refine WE.cut (α := Value) (rg [(49, 10)]) (fun g_ => []) (fun g_ wl => St X w wl [] [aP.blk b8 35 (fU kd dp lk lv B (.slice none 0 0)), aP.blk J5 277 [g_, .bool false], aP.blk b2 35 z2] [bL g_ sb.flatten, bL s (fM kd dp lk lv B sb)]) ?_ ?_
   ·
    refine WE.aA (WL.mv rfl rfl (WL.pv (PV.eql rfl rfl rfl) rfl (WL.nil ?_)))
    refine WE.cond rfl (fun nN => ?_) (fun nN => ?_)
    ·
     try simp only [bP] at nN
     have wT : kd = 1 := by omega
     have hKF : (if kd = 1 then lk ++ lv else []) ++ sb.flatten = lk ++ (lv ++ sb.flatten) := by rw [if_pos wT, List.append_assoc]
     rw [hKF] at H
     have aLC : (lk ++ (lv ++ sb.flatten)).length = 64 + 32 * sb.length := by simp [mV, hlv, FO]; omega
     have aLB : (lv ++ sb.flatten).length = 32 + 32 * sb.length := by simp [hlv, FO]
     refine WE.aA (WL.mv rfl rfl ?_)
     refine WL.rK F6 rfl rfl (x7 (br := J5) (l := (lk ++ (lv ++ sb.flatten))) H.aR (H.l 1 rfl) (by exact (H.iL 1 rfl 0 rfl : aH _ (bL XZ (lk ++ (lv ++ sb.flatten))) _)) (by omega) (by omega)) ?_
     rintro _ xG ⟨s52, rfl, hO, hB, hR⟩
     have LU : (lk ++ (lv ++ sb.flatten)).take 32 = lk := List.take_left' mV
     have hdk : (lk ++ (lv ++ sb.flatten)).drop 32 = lv ++ sb.flatten := List.drop_left' mV
     rw [LU]
     rw [hdk] at hR
     replace H := H.pM 1 rfl hO hB hR
     refine WL.pv (PV.fieldAddr rfl pI rfl) rfl (WL.pv (PV.fieldAddr rfl kK rfl) rfl ?_)
     refine WL.aW H 0 rfl rfl rfl (new := kc lk) rfl (cI cM (by simp only [aS, aY, aB, aD]; omega)) (bH _) (Laid.at (Laid.right (Laid.right (Laid.left (Laid.left (Laid.all (by simp only [aS, aY, aB, aD]; omega)))) rfl) rfl) rfl) rfl ?_
     intro HL H
     replace H := H.conv (L' := [aP.blk b8 35 (fU kd dp lk (List.replicate 32 0) B (.slice none 0 0)), aP.blk J5 277 [s52, .bool false], aP.blk b2 35 z2]) rfl
     refine WL.nil (WE.dW (WL.mv rfl rfl ?_))
     refine WL.rK F6 rfl rfl (x7 (br := J5) (l := (lv ++ sb.flatten)) H.aR (H.l 1 rfl) (by exact (H.iL 1 rfl 0 rfl : aH _ (bL s52 (lv ++ sb.flatten)) _)) (by omega) (by omega)) ?_
     rintro _ DW ⟨s56, rfl, hO, hB, hR⟩
     have LU : (lv ++ sb.flatten).take 32 = lv := List.take_left' hlv
     have hdk : (lv ++ sb.flatten).drop 32 = sb.flatten := List.drop_left' hlv
     rw [LU]
     rw [hdk] at hR
     replace H := H.pM 1 rfl hO hB hR
     refine WL.pv (PV.fieldAddr rfl pI rfl) rfl (WL.pv (PV.fieldAddr rfl DJ rfl) rfl ?_)
     refine WL.aW H 0 rfl rfl rfl (new := kc lv) rfl (cI dH (by simp only [aS, aY, aB, aD]; omega)) (bH _) (Laid.at (Laid.right (Laid.right (Laid.left (Laid.right (Laid.all (by simp only [aS, aY, aB, aD]; omega)) rfl)) rfl) rfl) (by simp [aJ, aQ, *])) rfl ?_
     intro H9 H
     replace H := H.conv (L' := [aP.blk b8 35 (fU kd dp lk lv B (.slice none 0 0)), aP.blk J5 277 [s56, .bool false], aP.blk b2 35 z2]) rfl
     refine WL.nil ?_
     exact ⟨s56, (by repeat (first | with_reducible exact bK.refl _ _ | refine bK.dG rfl ?_)), trivial, rfl, (show St X w _ [] [aP.blk b8 35 (fU kd dp lk lv B (.slice none 0 0)), aP.blk J5 277 [s56, .bool false], aP.blk b2 35 z2] [bL s56 sb.flatten, bL s (fM kd dp lk lv B sb)] from (by exact H.rS [0, 3]))⟩
    ·
     try simp only [bP] at nN
     have PZ : kd = 0 := by omega
     have hKF : (if kd = 1 then lk ++ lv else []) ++ sb.flatten = sb.flatten := by rw [if_neg (by omega)]; rfl
     rw [hKF] at H
     obtain ⟨hlz, hvz⟩ := hp.lz PZ
     have aFi : lk = List.replicate 32 0 := hlz
     have aE3 : lv = List.replicate 32 0 := hvz
     replace H := H.conv (L' := [aP.blk b8 35 (fU kd dp lk lv B (.slice none 0 0)), aP.blk J5 277 [XZ, .bool false], aP.blk b2 35 z2]) (by rw [aFi, aE3]; rfl)
     refine WE.skip ?_
     exact ⟨XZ, (by repeat (first | with_reducible exact bK.refl _ _ | refine bK.dG rfl ?_)), trivial, rfl, (show St X w _ [] [aP.blk b8 35 (fU kd dp lk lv B (.slice none 0 0)), aP.blk J5 277 [XZ, .bool false], aP.blk b2 35 z2] [bL XZ sb.flatten, bL s (fM kd dp lk lv B sb)] from (by exact H.rS [0, 1]))⟩
   ·
    intro g_ γ ND hI
    try dsimp only at hI
    replace H := hI
    replace H := H.kU 30 32
    refine WE.seq (WE.block ?_)
    refine WE.loop (α := Nat × Value × Value) (rg [(59, 26)]) (fun p => []) (fun p wl => p.1 ≤ sb.length ∧ St X w wl [] [aP.gZ w.heap.size p.2.1 30 32 (sb.take (p.1)).length ((sb.take (p.1)).flatMap kc), aP.blk b8 35 (fU kd dp lk lv B p.2.1), aP.blk J5 277 [p.2.2, .bool false], aP.blk b2 35 z2] [bL p.2.2 (sb.drop (p.1)).flatten, bL s (fM kd dp lk lv B sb)]) (fun p => sb.length - p.1) (0, .slice none 0 0, g_) trivial ⟨Nat.zero_le _, H⟩ ?_
    intro ⟨i, q, g⟩ γ0 QL hI
    try dsimp only at hI
    obtain ⟨hi, H⟩ := hI
    refine WE.seq (WE.aA (WL.mv rfl rfl (WL.pv (PV.nilCheck rfl rfl) rfl (WL.pv (PV.fieldAddr rfl qT rfl) rfl (WL.aX rfl eH rfl rfl (aN.aF (H.l 2 rfl) aK.hd rfl) ?_)))))
    refine WL.pv (PV.dS (by exact (H.p 0 rfl : (bL g (sb.drop i).flatten) _)) eN rfl) rfl ?_
    refine WL.pv (PV.gtr rfl rfl rfl) rfl (WL.mv rfl rfl ?_)
    refine WL.split (t := 65) rfl (fun S7 => ?_) (fun S7 => ?_)
    ·
     refine WL.known (t := 64) (c := true) rfl S7 ?_
     try simp only [bP] at S7
     have hlt : i < sb.length := by rcases Nat.lt_or_ge i sb.length with h_ | h_; exact h_; (have P5 : (sb.drop i).flatten.length = 0 := by rw [List.drop_eq_nil_of_le h_]; rfl); omega
     have hsi := hp.sl _ (List.getElem_mem hlt)
     have TC : (sb.drop i).flatten.length = 32 * (sb.length - i) := by rw [DF _ (fun x hx => hp.sl x (List.mem_of_mem_drop hx)), List.length_drop]
     have htl : (sb.take i).length = i := by rw [List.length_take]; omega
     refine WL.mv rfl rfl (WL.pv (PV.nilCheck rfl rfl) rfl (WL.pv (PV.fieldAddr rfl L7 rfl) rfl (WL.aX rfl vE rfl rfl (aN.aF (H.l 2 rfl) (aK.tl aK.hd rfl) rfl) (WL.pv (PV.not rfl rfl) rfl (WL.pv (PV.c5 rfl rfl rfl) rfl (WL.mv rfl rfl (WL.known (t := 72) (c := true) rfl rfl ?_)))))))
     refine WL.pv (PV.fieldAddr rfl nP rfl) rfl ?_
     refine WL.aX rfl vF rfl rfl (aN.aF (H.l 1 rfl) (aK.r (aK.r (aK.r (aK.r (aK.all _) rfl) rfl) rfl) rfl) (by simp [aJ, aQ, *])) ?_
     refine WL.pv (PV.eq (v' := .int .i64 ((sb.take i).length : Int)) (PV.dS (cO.dM (H.l 0 rfl)) oZ rfl) rfl) rfl (WL.pv (PV.leq rfl rfl rfl) rfl (WL.pv (PV.c5 rfl rfl rfl) rfl (WL.nil ?_)))
     refine WE.cR rfl (by simp; omega) ?_
     refine WE.skip (WE.block ?_)
     refine WE.draw (.take 0 (.take 1 (.take 2 (.aG 3 (.aG 4 (.aG 5 (.take 6 (.aG 7 .done)))))))) mixed (by kernel_rfl) ?_
     replace H := H.out (Out.drew _)
     refine WP.aC rfl rfl (PV.fieldAddr rfl nP rfl) ?_
     refine WP.aM rfl rfl (RV.aV rfl vF rfl) (aN.aF (H.l 1 rfl) (aK.r (aK.r (aK.r (aK.r (aK.all _) rfl) rfl) rfl) rfl) (by simp [aJ, aQ, *])) ?_
     refine WP.mv rfl rfl rfl (WP.aG rfl ?_)
     refine WL.rK F6 rfl rfl (x7 (br := J5) (l := (sb.drop i).flatten) H.aR (H.l 2 rfl) (by exact (H.iL 2 rfl 0 rfl : aH _ (bL g (sb.drop i).flatten) _)) (by omega) (by omega)) ?_
     rintro _ QK ⟨s81, rfl, hO, hB, hR⟩
     have LU : (sb.drop i).flatten.take 32 = sb[i] := by rw [BQ hlt]; exact List.take_left' hsi
     have hdk : (sb.drop i).flatten.drop 32 = (sb.drop (i + 1)).flatten := by rw [BQ hlt]; exact List.drop_left' hsi
     rw [LU]
     rw [hdk] at hR
     replace H := H.pM 2 rfl hO hB hR
     refine WL.nil ⟨(fa (fun _ _ => (aN.aF (H.l 1 rfl) (aK.r (aK.r (aK.r (aK.r (aK.all _) rfl) rfl) rfl) rfl) (by simp [aJ, aQ, *]))) c8), ?_⟩
     refine WP.aG rfl ?_
     refine WL.bA (l0 := (kc (List.replicate 32 0))) H rfl EI (by decide) rfl (Fl.cons rfl rfl (by simp only [aS, aY, aB, aD]; omega) (Laid.all (by simp only [aS, aY, aB, aD]; omega)) Fl.nil) rfl ?_
     intro b82 QJ H
     refine WL.nil ⟨(fa (fun _ _ => (aN.aF (H.l 2 rfl) (aK.r (aK.r (aK.r (aK.r (aK.all _) rfl) rfl) rfl) rfl) (by simp [aJ, aQ, *]))) c8), ?_⟩
     refine WP.aG rfl ?_
     refine WL.append (m := 1) H 1 EI (by decide) rfl rfl rfl (cO.cA (n := 1) (H.l 0 rfl) (by rw [aJ, hsi]; simp [aJ])) (bH _) (by omega) (by decide) rfl ?_
     intro v83 w19 H
     replace H := H.forget 0
     refine WL.nil ⟨(fa (nw 5 1) c8), ?_⟩
     refine WP.aC rfl rfl (PV.fieldAddr rfl nP rfl) (WP.aG rfl ?_)
     refine WL.aW H 1 rfl rfl rfl (new := _) (cells_one (jI (H.l 0 rfl))) (by exact aCb) (eF (jI (H.l 0 rfl))) (Laid.at (Laid.right (Laid.right (Laid.right (Laid.right (Laid.all (by simp only [aS, aY, aB, aD])) rfl) rfl) rfl) rfl) (by simp [aJ, aQ, *])) rfl ?_
     intro w20 H
     replace H := H.conv (L' := [aP.gZ w.heap.size v83 30 32 (sb.take (i + 1)).length ((sb.take (i + 1)).flatMap kc), aP.blk b8 35 (fU kd dp lk lv B v83), aP.blk J5 277 [s81, .bool false], aP.blk b2 35 z2]) (by rw [List.take_succ_eq_append_getElem hlt, List.length_append, List.flatMap_append, List.flatMap_singleton]; rfl)
     refine WL.nil ⟨(fa (nw 7 1) c8), ?_⟩
     refine WP.done ?_
     exact ⟨(i + 1, v83, s81), (by repeat (first | with_reducible exact bK.refl _ _ | refine bK.dG rfl ?_ | refine bK.bZ rfl ?_ | refine bK.bX rfl ?_)), trivial, rfl, ⟨by dsimp only; omega, (show St X w _ [] [aP.gZ w.heap.size v83 30 32 (sb.take (i + 1)).length ((sb.take (i + 1)).flatMap kc), aP.blk b8 35 (fU kd dp lk lv B v83), aP.blk J5 277 [s81, .bool false], aP.blk b2 35 z2] [bL s81 (sb.drop (i + 1)).flatten, bL s (fM kd dp lk lv B sb)] from (by exact H.rS [0, 2]))⟩, (by dsimp only; omega)⟩
    ·
     refine WL.known (t := 64) (c := false) rfl S7 ?_
     try simp only [bP] at S7
     have vR : i = sb.length := by rcases Nat.lt_or_ge i sb.length with h_ | h_; (have P5 : (sb.drop i).flatten.length = 32 * (sb.length - i) := by rw [DF _ (fun x hx => hp.sl x (List.mem_of_mem_drop hx)), List.length_drop]); omega; omega
     subst vR
     rw [List.take_length, List.drop_length] at H
     have hoq := jI (H.l 0 rfl)
     replace H := H.freeze (i := 0) rfl
     replace H := H.add (show aH _ (fE q sb) _ from (H.bJ 0 rfl).imp fun _ h => cO.dM h)
     replace H := H.add (show aH _ (bL g []) _ from (H.bJ 2 rfl).imp fun _ h => h)
     refine WL.off rfl (WL.off rfl (WL.off rfl (WL.off rfl (WL.off rfl (WL.pv (PV.cF rfl rfl rfl) rfl (WL.mv rfl rfl (WL.off rfl ?_)))))))
     refine WL.off rfl (WL.off rfl (WL.off rfl (WL.pv (PV.cF rfl rfl rfl) rfl (WL.nil (WE.jF rfl (WE.exit (WE.seq ?_)))))))
     refine WE.aA (WL.mv rfl rfl (WL.pv (PV.nilCheck rfl rfl) rfl (WL.pv (PV.fieldAddr rfl L7 rfl) rfl (WL.aX rfl vE rfl rfl (aN.aF (H.l 1 rfl) (aK.tl aK.hd rfl) rfl) (WL.mv rfl rfl (WL.known (t := 89) (c := false) rfl rfl (WL.mv rfl rfl ?_)))))))
     refine WL.pv (PV.nilCheck rfl rfl) rfl (WL.pv (PV.fieldAddr rfl qT rfl) rfl (WL.aX rfl eH rfl rfl (aN.aF (H.l 1 rfl) aK.hd rfl) ?_))
     refine WL.pv (PV.dS (by exact (H.p 0 rfl : (bL g []) _)) eN rfl) rfl ?_
     refine WL.pv (PV.gtr rfl rfl rfl) rfl (WL.pv (PV.cF rfl rfl rfl) rfl (WL.mv rfl rfl (WL.known (t := 97) (c := false) rfl rfl ?_)))
     refine WL.bE rfl nS rfl rfl (aN.aF (H.l 0 rfl) (aK.all _) rfl) (cI lE (by simp only [aS, aY, aB, aD]; omega)) ?_
     refine WL.call Z4 rfl (tU (kd := kd) (dp := dp) (lk := lk) (lv := lv) (B := B) (sl := q) (sb := sb) H.aR (by exact (H.bJ 1 rfl : aH _ (fE q sb) _)) hp) ?_
     rintro _ w21 ⟨rfl, hO⟩
     replace H := H.out hO
     refine WL.pv (PV.neq rfl rfl rfl) rfl (WL.pv (PV.cF rfl rfl rfl) rfl (WL.nil ?_))
     refine WE.bD rfl rfl ?_
     refine WE.skip (WE.aA ?_)
     refine WL.bE rfl nS rfl rfl (aN.aF (H.l 0 rfl) (aK.all _) rfl) (cI lE (by simp only [aS, aY, aB, aD]; omega)) ?_
     refine WL.aW H 2 rfl rfl rfl (new := fU kd dp lk lv B q) rfl (cI lE (by simp only [aS, aY, aB, aD]; omega)) (sY hoq) (Laid.at (Laid.all (by simp only [aS, aY, aB, aD]; omega)) rfl) rfl ?_
     intro w22 H
     refine WL.as rfl rfl (WL.nil (WE.ret ⟨[_, _], _, .nil _, ⟨⟨_, rfl, aU nS (aN.aF (H.l 2 rfl) (aK.all _) rfl) (cI lE (by simp only [aS, aY, aB, aD]; omega))⟩, rfl, trivial⟩, ?_⟩))
     exact ⟨q, rfl, H.aL, H.fX (by exact (H.bJ 1 rfl : aH _ (fE q sb) _))⟩
theorem rN {n : Nat} (h : n < 4294967296) : IntKind.u64.wrap ((BitVec.ofInt IntKind.u64.bits (n : Int) &&& BitVec.ofInt IntKind.u64.bits 4294967295).toNat : Int) = (n : Int) := by
 have e : (BitVec.ofInt IntKind.u64.bits (n : Int) &&& BitVec.ofInt IntKind.u64.bits 4294967295).toNat = n := by
  show (BitVec.ofInt 64 (n : Int) &&& 4294967295#64).toNat = _
  rw [BitVec.ofInt_natCast, BitVec.toNat_and]
  simp only [BitVec.toNat_ofNat]
  rw [Nat.mod_eq_of_lt (show n < 2 ^ 64 by omega), Nat.mod_eq_of_lt (show 4294967295 < 2 ^ 64 by decide), show 4294967295 = 2 ^ 32 - 1 by decide, Nat.and_two_pow_sub_one_of_lt_two_pow h]
 rw [e, oU]; congr 1; omega
def rep (n : Nat) (e : List UInt8) (c : Nat) : List (List UInt8) := List.replicate c e ++ List.replicate (n - c) (List.replicate 32 0)
theorem lH (c : Nat) {e : List UInt8} (he : e.length = 32) : ((List.replicate c e).flatMap kc).length = c * 32 := by
 rw [List.flatMap_replicate, List.length_flatten, List.map_replicate, List.sum_replicate_nat, aJ, he]
theorem LC (n : Nat) {e : List UInt8} (he : e.length = 32) {c : Nat} (hc : c ≤ n) : ((rep n e c).flatMap kc).length = n * 32 := by
 unfold rep
 rw [List.flatMap_append, List.length_append, lH c he, lH (n - c) (by rw [List.length_replicate]), ← Nat.add_mul]
 congr 1; omega
theorem RC (n : Nat) (e : List UInt8) : (rep n e 0).flatMap kc = jY n (kc (List.replicate 32 0)) := by
 have e0 : kc (List.replicate 32 0) = List.replicate 32 (.int .u8 0) := by rfl
 unfold rep
 rw [List.replicate_zero, List.nil_append, Nat.sub_zero, List.flatMap_replicate, e0, List.flatten_replicate_replicate, xC _ _ _ (by decide)]
theorem RD (n : Nat) (e : List UInt8) : rep n e n = List.replicate n e := by unfold rep; rw [Nat.sub_self]; simp
theorem ES {n c m : Nat} {e : List UInt8} (he : e.length = 32) (h : c + m ≤ n) : Laid ((rep n e c).flatMap kc) (c * 32) ((List.replicate m e).flatMap kc) ((rep n e (c + m)).flatMap kc) := by
 have e1 : rep n e c = List.replicate c e ++ (List.replicate m (List.replicate 32 0) ++ List.replicate (n - (c + m)) (List.replicate 32 0)) := by
  unfold rep
  rw [List.replicate_append_replicate, show m + (n - (c + m)) = n - c by omega]
 have e2 : rep n e (c + m) = List.replicate c e ++ (List.replicate m e ++ List.replicate (n - (c + m)) (List.replicate 32 0)) := by
  unfold rep
  rw [← List.append_assoc, List.replicate_append_replicate]
 rw [e1, e2, List.flatMap_append, List.flatMap_append, List.flatMap_append, List.flatMap_append]
 refine Laid.right (Laid.left (Laid.all ?_)) (by rw [lH c he]; rfl)
 rw [lH m he, lH m (by rw [List.length_replicate])]
theorem EF {e : List UInt8} (he : e.length = 32) (c q : Nat) : ((List.replicate c e).flatMap kc).take (q * 32) = (List.replicate (min q c) e).flatMap kc := by
 rcases Nat.lt_or_ge q c with h | h
 ·
  have e1 : List.replicate c e = List.replicate q e ++ List.replicate (c - q) e := by rw [List.replicate_append_replicate]; congr 1; omega
  rw [Nat.min_eq_left (by omega), e1, List.flatMap_append, List.take_left' (lH q he)]
 ·
  rw [Nat.min_eq_right h, List.take_of_length_le (by rw [lH c he]; omega)]
theorem NH {e : List UInt8} (he : e.length = 32) (n : Nat) : (kc e).take (min 1 n * 32) = (List.replicate (min 1 n) e).flatMap kc := by
 have h := EF he 1 (min 1 n)
 have e1 : (List.replicate 1 e).flatMap kc = kc e := by simp
 rw [e1, show min (min 1 n) 1 = min 1 n by omega] at h; exact h
theorem YE (l : List (List UInt8)) : eO (l.flatMap kc) := fun v hv => by
 obtain ⟨x, _, hx⟩ := List.mem_flatMap.1 hv
 exact bH x v hx
theorem aAz {X : Nat → Prop} {w : World} {n : Nat} (hX : c6 X w) (hn : n < 4294967296) :
  bC prog 222 [.int .u64 1, .int .u64 (n : Int)].toArray w fun v w' => v = .tuple [.int .u64 0, .int .u64 (n : Int)].toArray ∧ Out Nil w w' := by
 refine bC.aI (N := 51) func222 rfl rfl (by simp) ?_
 have H := St.begin hX
 have hdz : n / 2 ^ 32 = 0 := Nat.div_eq_of_lt hn
 refine WE.aA (WL.as rfl rfl (WL.as rfl rfl (WL.nil (WE.aA (WL.mv rfl rfl (WL.pv (PV.eq (v' := .int .u64 1) (PV.J9 rfl rfl rfl) rfl) rfl (WL.as rfl rfl ?_)))))))
 refine WL.nil (WE.aA (WL.mv rfl rfl (WL.pv (PV.eq (v' := .int .u64 0) (PV.CD (m := 1) (n := 32) rfl rfl rfl (by decide)) rfl) rfl (WL.as rfl rfl (WL.nil (WE.aA (WL.mv rfl rfl ?_)))))))
 refine WL.pv (PV.eq (v' := .int .u64 (n : Int)) (PV.J9 rfl rfl rfl) (congrArg (Value.int .u64) (rN hn))) rfl (WL.as rfl rfl (WL.nil (WE.aA (WL.mv rfl rfl ?_))))
 refine WL.pv (PV.eq (v' := .int .u64 0) (PV.CD (m := n) (n := 32) rfl rfl rfl (by decide)) (by rw [hdz]; rfl)) rfl ?_
 refine WL.as rfl rfl (WL.nil (WE.aA (WL.mv rfl rfl (WL.mv rfl rfl (WL.pv (PV.I5 (m := 1) (n := n) (q := n) rfl rfl rfl (by omega) (by omega)) rfl (WL.as rfl rfl (WL.nil ?_)))))))
 refine WE.aA (WL.mv rfl rfl (WL.mv rfl rfl (WL.pv (PV.I5 (m := 0) (n := n) (q := 0) rfl rfl rfl (by omega) (by omega)) rfl (WL.mv rfl rfl ?_))))
 refine WL.pv (PV.eq (v' := .int .u64 0) (PV.CD (m := n) (n := 32) rfl rfl rfl (by decide)) (by rw [hdz]; rfl)) rfl ?_
 refine WL.pv (PV.eq (v' := .int .u64 0) (PV.KB rfl rfl rfl) rfl) rfl (WL.as rfl rfl (WL.nil (WE.aA (WL.mv rfl rfl (WL.pv (PV.eq (v' := .int .u64 0) (PV.J9 rfl rfl rfl) rfl) rfl (WL.as rfl rfl (WL.nil ?_)))))))
 refine WE.aA (WL.mv rfl rfl (WL.pv (PV.eq (v' := .int .u64 0) (PV.CD (m := 0) (n := 32) rfl rfl rfl (by decide)) rfl) rfl (WL.as rfl rfl (WL.nil (WE.aA (WL.mv rfl rfl (WL.mv rfl rfl ?_)))))))
 refine WL.mv rfl rfl (WL.pv (PV.I5 (m := 1) (n := 0) (q := 0) rfl rfl rfl (by omega) (by omega)) rfl (WL.pv (PV.eq (v' := .int .u64 0) (PV.KB rfl rfl rfl) rfl) rfl (WL.as rfl rfl (WL.nil (WE.aA (WL.mv rfl rfl (WL.mv rfl rfl ?_)))))))
 refine WL.pv (PV.I5 (m := 0) (n := 0) (q := 0) rfl rfl rfl (by omega) (by omega)) rfl (WL.mv rfl rfl (WL.pv (PV.eq (v' := .int .u64 0) (PV.KB rfl rfl rfl) rfl) rfl (WL.mv rfl rfl (WL.pv (PV.eq (v' := .int .u64 0) (PV.CD (m := 0) (n := 32) rfl rfl rfl (by decide)) rfl) rfl (WL.pv (PV.eq (v' := .int .u64 0) (PV.KB rfl rfl rfl) rfl) rfl (WL.as rfl rfl (WL.nil ?_)))))))
 refine WE.aA (WL.mv rfl rfl (WL.mv rfl rfl (WL.pv (PV.I5 (m := 1) (n := n) (q := n) rfl rfl rfl (by omega) (by omega)) rfl (WL.as rfl rfl (WL.nil (WE.ret ⟨[_, _], _, .nil _, ⟨rfl, rfl, trivial⟩, ?_⟩))))))
 exact ⟨rfl, H.aL⟩
theorem aIk {X : Nat → Prop} {w : World} {n : Nat} (hX : c6 X w) (hn : n < 4294967296) :
  bC prog 218 [.int .u64 1, .int .u64 (n : Int)].toArray w fun v w' => v = .tuple [.int .u64 0, .int .u64 (n : Int)].toArray ∧ Out Nil w w' := by
 refine bC.aI (N := 30) func218 rfl rfl (by simp) ?_
 have H := St.begin hX
 refine WE.aA (WL.as rfl rfl (WL.as rfl rfl (WL.nil (WE.seq (WE.jF rfl (WE.skip (WE.aA ?_)))))))
 refine WL.mv rfl rfl (WL.mv rfl rfl ?_)
 refine WL.call aGt rfl (aAz (n := n) H.aR  (by assumption)) ?_
 rintro _ w1 ⟨rfl, hO⟩
 replace H := H.out hO
 refine WL.mv rfl rfl (WL.pv (PV.extract rfl rfl rfl) rfl (WL.pv (PV.extract rfl rfl rfl) rfl (WL.as rfl rfl (WL.as rfl rfl (WL.nil (WE.aA (WL.mv rfl rfl ?_)))))))
 refine WL.mv rfl rfl (WL.as rfl rfl (WL.as rfl rfl (WL.nil (WE.ret ⟨[_, _], _, .nil _, ⟨rfl, rfl, trivial⟩, ?_⟩))))
 exact ⟨rfl, H.aL⟩
theorem V3 {X : Nat → Prop} {w : World} {s : Value} {e : List UInt8} {n : Nat} (hX : c6 X w) (bT : aH X (fE s [e]) w) (he : e.length = 32) (hn : n ≤ 256) :
  bC prog 211 [s, .int .i64 (n : Int)].toArray w fun v w' => ∃ b, v = .slice (some ⟨b, 0, none⟩) n n ∧ Out Nil w w' ∧ w.heap.size ≤ b ∧ aN w' b 30 ((List.replicate n e).flatMap kc) := by
 refine bC.aI (N := 48) func211 rfl rfl (by simp) ?_
 have H := (St.begin hX).add (cE bT)
 refine WE.aA (WL.as rfl rfl (WL.nil (WE.seq (WE.aA (WL.mv rfl rfl (WL.pv (PV.lss rfl rfl rfl) rfl (WL.nil ?_)))))))
 refine WE.bD rfl (by simp) ?_
 refine WE.skip (WE.aA (WL.mv rfl rfl ?_))
 refine WL.pv (PV.dS (by exact (H.p 0 rfl : (fE s [e]) _)) oZ rfl) rfl ?_
 refine WL.pv (PV.BT (n := 1) rfl tE AA rfl rfl (by omega)) rfl (WL.mv rfl rfl (WL.pv (PV.BT (n := n) rfl tE AA rfl rfl (by omega)) rfl ?_))
 refine WL.call aGw rfl (aIk (n := n) H.aR  (by omega)) ?_
 rintro _ w1 ⟨rfl, hO⟩
 replace H := H.out hO
 refine WL.mv rfl rfl (WL.pv (PV.extract rfl rfl rfl) rfl (WL.pv (PV.extract rfl rfl rfl) rfl (WL.as rfl rfl (WL.as rfl rfl (WL.nil (WE.seq (WE.aA ?_)))))))
 refine WL.mv rfl rfl (WL.pv (PV.gtr rfl rfl rfl) rfl (WL.mv rfl rfl (WL.known (t := 23) (c := false) rfl rfl (WL.mv rfl rfl (WL.pv (PV.gtr rfl rfl rfl) rfl (WL.pv (PV.cF rfl rfl rfl) rfl (WL.nil ?_)))))))
 refine WE.bD rfl (by simp; omega) ?_
 refine WE.skip (WE.aA (WL.mv rfl rfl (WL.pv (PV.lX rfl AA tE rfl (by omega) (by omega)) rfl ?_)))
 refine WL.makeSlice (n := n) H rfl EI rfl (by omega) (by omega) rfl ?_
 intro VA w3 H
 replace H := H.conv (L' := [aP.blk VA 30 ((rep n e (0)).flatMap kc)]) (by rw [RC])
 have D2 : 0 ≤ n := Nat.zero_le _
 refine WL.as rfl rfl (WL.nil (WE.aA (WL.mv rfl rfl (WL.mv rfl rfl ?_))))
 refine WL.MG (sz := 32) (m := 1) (cs := kc e) (l' := (rep n e (0 + min 1 n)).flatMap kc) H 0 oZ dH rfl rfl rfl (show cO _ s 32 1 (kc e) from by have h_ := (by exact (H.p 0 rfl : (fE s [e]) _)); unfold fE at h_; simpa using h_) (qE (bH _) _) (by have h_ := ES (n := n) (c := 0) (m := min 1 n) he (by omega); rw [NH he]; rwa [Nat.zero_mul] at h_) rfl ?_
 intro w7 H
 refine WL.as rfl rfl (WL.nil (WE.seq (WE.block ?_)))
 refine WE.loop (α := Nat) (rg [(8, 1), (34, 13)]) (fun c => [(8, .int .i64 (c : Int))]) (fun c wl => (c ≤ n ∧ (c = 0 → n = 0)) ∧ St X w wl [] [aP.blk VA 30 ((rep n e (c)).flatMap kc)] [fE s [e]]) (fun c => n - c) (min 1 n) ⟨rfl, trivial⟩ ⟨⟨by omega, by omega⟩, H.conv (by simp)⟩ ?_
 intro c γ0 w8 hI
 try dsimp only at hI
 obtain ⟨⟨D2, hz⟩, H⟩ := hI
 refine WE.seq (WE.aA (WL.mv rfl rfl (WL.mv rfl rfl (WL.pv (PV.A8 oZ rfl) rfl (WL.pv (PV.lss rfl rfl rfl) rfl (WL.nil ?_))))))
 refine WE.cond rfl (fun JM => ?_) (fun JM => ?_)
 ·
  try simp only [bP] at JM
  have qH : c < n := by omega
  have hc0 : 0 < c := by rcases Nat.eq_zero_or_pos c with h_ | h_; (have := hz h_; omega); exact h_
  have hlz : c + min c (n - c) ≤ n := by omega
  refine WE.skip (WE.block ?_)
  refine WE.draw (.take 0 (.take 1 (.take 2 (.take 3 (.take 4 (.take 5 (.take 6 (.aG 7 (.take 8 (.take 9 .done)))))))))) mixed (by kernel_rfl) ?_
  replace H := H.out (Out.drew _)
  refine WP.mv rfl rfl rfl (WP.mv rfl rfl rfl (WP.mv rfl rfl rfl ?_))
  refine WP.aC rfl rfl (PV.eq (v' := .slice (some ⟨VA, c * 32, none⟩) (n - c) (n - c)) (PV.q9 rfl (cO.cA (n := n) (H.l 0 rfl) (LC n he D2)) oZ dH rfl rfl (by omega) (by omega)) (by simp only [jO, Int.toNat_natCast]; rw [if_neg (by omega)]; simp [Addr.add]; omega)) ?_
  refine WP.mv rfl rfl rfl (WP.mv rfl rfl rfl ?_)
  refine WP.aC rfl rfl (PV.eq (v' := .slice (some ⟨VA, 0, none⟩) c n) (PV.XQ rfl (cO.cA (n := n) (H.l 0 rfl) (LC n he D2)) oZ dH rfl rfl (by omega) (by omega)) (by simp only [jO, Int.toNat_natCast]; rw [if_neg (by omega)]; simp [Addr.add])) ?_
  refine WP.aG rfl ?_
  refine WL.MG (sz := 32) (m := c) (cs := (List.replicate c e).flatMap kc) (l' := (rep n e (c + min c (n - c))).flatMap kc) H 0 oZ dH rfl rfl rfl (cO.oC (by have h_ := dD.sub (aN.rd (H.l 0 rfl)) (o := 0) (l := (List.replicate c e).flatMap kc) (by unfold rep; rw [List.flatMap_append]; exact aK.l (aK.all _)); exact h_) (lH c he) (by omega)) (qE (YE _) _) (by rw [EF he, Nat.min_eq_left (show min c (n - c) ≤ c by omega)]; exact ES he hlz) rfl ?_
  intro tX H
  refine WL.nil ⟨c8, ?_⟩
  refine WP.aC rfl rfl (PV.eq (v' := .int .i64 ((c + min c (n - c) : Nat) : Int)) (PV.bV rfl rfl rfl (by omega) (by omega)) (by congr 1)) ?_
  refine WP.as rfl rfl rfl (WP.done ?_)
  exact ⟨(c + min c (n - c)), (by repeat (first | with_reducible exact bK.refl _ _ | refine bK.dG rfl ?_ | refine bK.bZ rfl ?_ | refine bK.bX rfl ?_)), ⟨rfl, trivial⟩, rfl, ⟨⟨by omega, by omega⟩, H⟩, (by omega)⟩
 ·
  try simp only [bP] at JM
  have hce : c = n := by omega
  refine WE.exit (WE.aA (WL.mv rfl rfl (WL.as rfl rfl (WL.nil (WE.ret ⟨[_], _, .nil _, ⟨rfl, trivial⟩, ?_⟩)))))
  subst hce
  rw [RD] at H
  exact ⟨VA, rfl, H.aL, H.kI _ (List.mem_of_getElem? (i := 0) rfl) _ rfl, H.l 0 rfl⟩
theorem jG.lt {kd dp : Nat} {lk lv B : List UInt8} {sb : List (List UInt8)} (h : jG kd dp lk lv B sb) : ∀ d ∈ bitsOf B 256, d < dp := by
 intro d hd
 have hl := h.last
 have hp := wJ B 256
 by_cases h0 : dp = 0
 ·
  rw [if_pos h0] at hl
  rw [List.getLast?_eq_none_iff.1 hl] at hd
  cases hd
 ·
  rw [if_neg h0] at hl
  obtain ⟨ys, hy⟩ := List.getLast?_eq_some_iff.1 hl
  rw [hy] at hd hp
  rcases List.mem_append.1 hd with hd | hd
  ·
   have := (List.pairwise_append.1 hp).2.2 d hd (dp - 1) (by simp)
   omega
  ·
   have := List.mem_singleton.1 hd
   omega
theorem yP : ∀ (ds : List Nat) (sb out : List (List UInt8)) (d : Nat) (s : List UInt8), ds.length = sb.length → nF out (ds ++ [d]) (sb ++ [s]) = (nF out ds sb).set d s
 | [], [], out, d, s, _ => rfl
 | [], _ :: _, _, _, _, h => by cases h
 | _ :: _, [], _, _, _, h => by cases h
 | x :: ds, y :: sb, out, d, s, h => by
  show nF (out.set x y) (ds ++ [d]) (sb ++ [s]) = (nF (out.set x y) ds sb).set d s
  exact yP ds sb _ d s (by simpa using h)
theorem uY : ∀ (ds : List Nat) (sb out : List (List UInt8)) (x : List UInt8), x ∈ nF out ds sb → x ∈ out ∨ x ∈ sb
 | [], sb, out, x, h => .inl (by cases sb <;> exact h)
 | d :: ds, [], out, x, h => .inl h
 | d :: ds, s :: sb, out, x, h => by
  rcases uY ds sb (out.set d s) x h with h | h
  ·
   rcases List.mem_or_eq_of_mem_set h with h | h
   ·
    exact .inl h
   ·
    exact .inr (by rw [h]; simp)
  ·
   exact .inr (List.mem_cons_of_mem _ h)
def gI (bits : Int) (dp : Nat) (B : List UInt8) (sb : List (List UInt8)) : List (List UInt8) := nF (List.replicate dp (lW bits)) (bitsOf B 256) sb
theorem tP (bits : Int) (dp : Nat) (B : List UInt8) (sb : List (List UInt8)) : (gI bits dp B sb).length = dp := by unfold gI; rw [uZ, List.length_replicate]
theorem yT {bits : Int} {dp : Nat} {B : List UInt8} {sb : List (List UInt8)} (h : ∀ s ∈ sb, s.length = 32) : ∀ s ∈ gI bits dp B sb, s.length = 32 := fun s hs => by
 rcases uY _ _ _ _ hs with hs | hs
 ·
  rw [(List.mem_replicate.1 hs).2]; exact cB _ _
 ·
  exact h s hs
def yS (bits : Int) (dp : Nat) (B : List UInt8) (sb : List (List UInt8)) (i : Nat) : List (List UInt8) := nF (List.replicate dp (lW bits)) ((bitsOf B 256).take i) (sb.take i)
theorem F8 (bits : Int) (dp : Nat) (B : List UInt8) (sb : List (List UInt8)) (i : Nat) : (yS bits dp B sb i).length = dp := by unfold yS; rw [uZ, List.length_replicate]
theorem UI {bits : Int} {dp : Nat} {B : List UInt8} {sb : List (List UInt8)} (h : ∀ s ∈ sb, s.length = 32) (i : Nat) : ∀ s ∈ yS bits dp B sb i, (kc s).length = 32 := fun s hs => by
 rw [aJ]
 rcases uY _ _ _ _ hs with hs | hs
 ·
  rw [(List.mem_replicate.1 hs).2]; exact cB _ _
 ·
  exact h s (List.mem_of_mem_take hs)
theorem OM {bits : Int} {dp : Nat} {B : List UInt8} {sb : List (List UInt8)} {i : Nat} (h1 : i < (bitsOf B 256).length) (h2 : i < sb.length) : (yS bits dp B sb i).set (bitsOf B 256)[i] sb[i] = yS bits dp B sb (i + 1) := by
 unfold yS
 rw [List.take_succ_eq_append_getElem h1, List.take_succ_eq_append_getElem h2, yP _ _ _ _ _ (by rw [List.length_take, List.length_take]; omega)]
theorem UJ {bits : Int} {dp : Nat} {B : List UInt8} {sb : List (List UInt8)} (h : sb.length = (bitsOf B 256).length) : yS bits dp B sb (bitsOf B 256).length = gI bits dp B sb := by
 unfold yS gI
 rw [List.take_length, ← h, List.take_length]
theorem aCw {v : Value} {l : List Nat} {w : World} (h : kN v (l.map yB) w) (i : Nat) (hi : i < l.length) : dD w (jS v (i * 1)) [.int .i64 (l[i] : Int)] := by
 have h2 := kN.rd h i (by rw [List.length_map]; exact hi)
 rw [List.getElem_map] at h2
 exact h2
def eT (kd : Nat) (lk lv : List UInt8) : List UInt8 := if kd = 1 then 0 :: (lk ++ lv) else [3]
theorem WM {X : Nat → Prop} {w : World} {bh bc : Nat} {bits n0 : Int} {kd dp : Nat} {lk lv B : List UInt8} {sl : Value} {sb : List (List UInt8)} (hX : c6 X w) (fA : aN w bc 213 ([.int .i64 n0])) (bT : aH (fun c_ => X c_ ∨ c_ = bc) (fO bh bc bits) w) (dJ : aH (fun c_ => X c_ ∨ c_ = bc) (fE sl sb) w) (fQ : aH (fun c_ => X c_ ∨ c_ = bc) (aZ) w) (bU : 0 ≤ bits ∧ bits ≤ 256) (hp : jG kd dp lk lv B sb) :
  bC prog 207 [.pointer (some ⟨bh, 0, none⟩), .agg (fU kd dp lk lv B sl).toArray].toArray w fun v w' => ∃ (m : Int) (s : Value), v = .tuple [s, .int .i64 0].toArray ∧ Out (· = bc) w w' ∧ aN w' bc 213 [.int .i64 m] ∧ aH (fun c => X c ∨ c = bc) (fE s (gI bits dp B sb)) w' := by
 refine bC.aI (N := 40) func207 rfl rfl (by simp) ?_
 have H := (((St.dK (b := bc) (t := 213) (l := [.int .i64 n0]) hX fA).add (cC fQ)).add (cC dJ)).add (cC bT)
 have wS := hp.kd
 have D0 := hp.OP
 have mV := hp.uQ
 have hlv := hp.lvl
 have p4 := hp.bl
 have pY := hp.P6
 have D2 := hp.gC
 have wE : (fU kd dp lk lv B sl).length = 99 := gQ hp.uQ hp.lvl hp.bl
 have hs1 : sl.oneCell' = true := cO.fW (dJ.here)
 refine WE.aA ?_
 refine WL.box (l := fU kd dp lk lv B sl) H rfl (by rfl) rfl ?_
 intro b3 w1 H
 refine WL.as rfl rfl (WL.as rfl rfl (WL.nil (WE.seq (WE.aA ?_))))
 refine WL.bE rfl nS rfl rfl (by exact aN.aF (H.l 0 rfl) (aK.all _) (by rfl)) (cI lE (by simp only [aS, aY, aB, aD]; omega)) ?_
 refine WL.call Z4 rfl (tU (kd := kd) (dp := dp) (lk := lk) (lv := lv) (B := B) (sl := sl) (sb := sb) H.aR (by exact (H.bJ 1 rfl : aH _ (fE sl sb) _)) hp) ?_
 rintro _ w2 ⟨rfl, hO⟩
 replace H := H.out hO
 refine WL.as rfl rfl (WL.nil (WE.aA (WL.mv rfl rfl (WL.pv (PV.neq rfl rfl rfl) rfl (WL.nil ?_)))))
 refine WE.bD rfl rfl ?_
 refine WE.skip ?_
 refine WE.bG (.take 0 (.take 3 (.take 4 (.aG 1 (.aG 2 (.aG 5 (.take 6 .done))))))) mixed (by kernel_rfl) ?_
 replace H := H.out (Out.drew _)
 refine WP.mv rfl rfl rfl (WP.aC rfl rfl (PV.fieldAddr rfl r7 rfl) ?_)
 refine WP.aM rfl rfl (RV.aV rfl l9 rfl) (by exact aN.aF (H.l 0 rfl) (aK.r (aK.l (aK.all _)) (by with_reducible rfl)) (by rfl)) ?_
 refine WP.aG rfl ?_
 refine WL.call T6 rfl (wA (bits := bits) H.aR (H.o 0 rfl) (by exact (H.aO 0 rfl 0 rfl : aH _ (fO bh bc bits) _)) (by exact (H.aO 0 rfl 2 rfl : aH _ (aZ) _)) bU) ?_
 rintro _ w3 ⟨aEX, rfl, hO, hB⟩
 replace H := H.eZ 0 rfl hO hB
 refine WL.nil ⟨(fa (fun _ _ => (by exact aN.aF (H.l 0 rfl) (aK.r (aK.l (aK.all _)) (by with_reducible rfl)) (by rfl))) c8), ?_⟩
 refine WP.aG rfl ?_
 refine WL.bA (l0 := (kc (List.replicate 32 0))) H rfl EI (by decide) (by rfl) (Fl.cons rfl (by rfl) (by rfl) (Laid.all (by rfl)) Fl.nil) rfl ?_
 intro b17 w4 H
 replace H := H.freeze (i := 0) rfl
 replace H := H.add (show aH _ (fE (.slice (some ⟨b17, 0, none⟩) 1 1) [lW bits]) _ from (H.bJ 0 rfl).imp fun _ h => (cO.cA (n := 1) h (by rw [aJ]; exact cB _ _) : cO _ (.slice (some ⟨b17, 0, none⟩) 1 1) 32 1 _))
 refine WL.nil ⟨(fa (fun _ _ => (by exact aN.aF (H.l 0 rfl) (aK.r (aK.l (aK.all _)) (by with_reducible rfl)) (by rfl))) c8), ?_⟩
 refine WP.aG rfl ?_
 refine WL.call aGB rfl (V3 (s := (.slice (some ⟨b17, 0, none⟩) 1 1)) (e := lW bits) (n := dp) H.aR (by exact (H.bJ 0 rfl : aH _ (fE (.slice (some ⟨b17, 0, none⟩) 1 1) [lW bits]) _)) (cB _ _) hp.OP) ?_
 rintro _ w5 ⟨aAe, rfl, hO, hge, hB⟩
 replace H := H.push hO (aP.blk aAe 30 _) hB (fun c hc => by cases hc; exact hge)
 refine WL.nil ⟨(fa (nw 5 4) c8), ?_⟩
 refine WP.as rfl rfl rfl (WP.done (WE.seq (WE.aA (WL.pv (PV.fieldAddr rfl qK rfl) rfl ?_))))
 refine WL.bE rfl DQ rfl rfl (by exact aN.aF (H.l 1 rfl) (aK.r (aK.r (aK.r (aK.l (aK.all _)) (by with_reducible rfl)) (by with_reducible rfl)) (by with_reducible rfl)) (by simp [aJ, aQ, *])) (cI wB (by simp only [aS, aY, aB, aD]; omega)) ?_
 refine WL.call aGA rfl (aAM (B := B) H.aR hp.bl) ?_
 rintro v23 w6 ⟨hO, hR⟩
 replace H := (H.out hO).add hR
 refine WL.pv (PV.dS (by exact (H.p 0 rfl : (kN v23 ((bitsOf B 256).map yB)) _)) EK rfl) rfl ?_
 refine WL.mv rfl rfl (WL.nil (WE.block ?_))
 refine WE.loop (α := Nat) [8, 9, 25, 26, 27, 28, 29, 30, 31, 32, 33, 34, 35, 36, 37, 38] (fun i => [(25, .int .i64 (i : Int))]) (fun i wl => i ≤ (bitsOf B 256).length ∧ St X w wl [aP.blk bc 213 [.int .i64 aEX]] [aP.blk aAe 30 ((yS bits dp B sb (i)).flatMap kc), aP.blk b3 35 (fU kd dp lk lv B sl)] [kN v23 ((bitsOf B 256).map yB), fE sl sb]) (fun i => (bitsOf B 256).length - i) 0 ⟨rfl, trivial⟩ ⟨Nat.zero_le _, (show St X w _ [aP.blk bc 213 [.int .i64 aEX]] [aP.blk aAe 30 ((yS bits dp B sb (0)).flatMap kc), aP.blk b3 35 (fU kd dp lk lv B sl)] [kN v23 ((bitsOf B 256).map yB), fE sl sb] from by exact H.rS [0, 4])⟩ ?_
 intro i γ0 w7 hI
 try dsimp only at hI
 obtain ⟨hi, H⟩ := hI
 refine WE.aA (WL.pv (PV.lss rfl rfl rfl) rfl (WL.nil (WE.seq ?_)))
 refine WE.cond rfl (fun TO => ?_) (fun TO => ?_)
 ·
  try simp only [bP] at TO
  have hlt : i < (bitsOf B 256).length := by (rw [List.length_map] at TO; omega)
  have qG : i < sb.length := by omega
  have hsi := hp.sl _ (List.getElem_mem qG)
  have TC := hp.lt _ (List.getElem_mem hlt)
  have hel := F8 bits dp B sb i
  refine WE.skip (WE.seq (WE.block (WE.aA (WL.mv rfl rfl ?_))))
  refine WL.pv (PV.dX rfl (by exact (H.p 0 rfl : (kN v23 ((bitsOf B 256).map yB)) _)) EK sz3 rfl rfl (by omega) (by rw [List.length_map]; omega)) rfl ?_
  refine WL.aX rfl l9 rfl rfl ((aCw (by exact (H.p 0 rfl : (kN v23 ((bitsOf B 256).map yB)) _)) i hlt)) ?_
  refine WL.as rfl rfl (WL.as rfl rfl (WL.nil (WE.dW (WL.mv rfl rfl (WL.mv rfl rfl (WL.pv (PV.fieldAddr rfl nP rfl) rfl ?_))))))
  refine WL.aX rfl vF rfl rfl (by exact aN.aF (H.l 1 rfl) (aK.r (aK.r (aK.r (aK.r (aK.all _) (by with_reducible rfl)) (by with_reducible rfl)) (by with_reducible rfl)) (by with_reducible rfl)) (by simp [aJ, aQ, *])) ?_
  refine WL.mv rfl rfl ?_
  refine WL.pv (PV.dX rfl (by exact (H.p 1 rfl : (fE sl sb) _)) oZ dH rfl rfl (by omega) (by omega)) rfl ?_
  refine WL.bE rfl fS rfl rfl ((fE.rd (by exact (H.p 1 rfl : (fE sl sb) _)) hp.sl i qG)) (cI dH (by simp only [aS, aY, aB, aD]; omega)) ?_
  refine WL.pv (PV.eq (v' := .pointer (some ⟨aAe, (bitsOf B 256)[i] * 32, none⟩)) (PV.wQ rfl oZ dH rfl rfl (by omega) (by omega)) (by simp)) rfl ?_
  refine WL.aW H 0 rfl rfl rfl (new := kc sb[i]) rfl (cI dH (by simp only [aS, aY, aB, aD]; omega)) (by exact bH _) (by have h_ := qI (C := kc) (yS bits dp B sb i) (UI hp.sl i) [] (i := (bitsOf B 256)[i]) (x := sb[i]) (by rw [F8]; exact TC) (by rw [aJ]; exact hsi) rfl; rw [List.append_nil, List.append_nil] at h_; exact h_) rfl ?_
  intro w8 H
  refine WL.nil (WE.dW ?_)
  refine WL.pv (PV.eq (v' := .int .i64 ((i + 1 : Nat) : Int)) (PV.bV rfl rfl rfl (by omega) (by omega)) (by rfl)) rfl ?_
  refine WL.mv rfl rfl (WL.nil ?_)
  exact ⟨i + 1, (by repeat (first | with_reducible exact bK.refl _ _ | refine bK.dG rfl ?_ | refine bK.bZ rfl ?_ | refine bK.bX rfl ?_)), ⟨rfl, trivial⟩, rfl, ⟨by omega, H.conv (by rw [← OM hlt qG]; rfl)⟩, (by omega)⟩
 ·
  try simp only [bP] at TO
  have vR : i = (bitsOf B 256).length := by (rw [List.length_map] at TO; omega)
  refine WE.exit (WE.aA (WL.mv rfl rfl (WL.as rfl rfl (WL.as rfl rfl (WL.nil (WE.ret ⟨[_, _], _, .nil _, ⟨rfl, rfl, trivial⟩, ?_⟩))))))
  subst vR
  rw [UJ hp.gC] at H
  replace H := H.freeze (i := 0) rfl
  refine ⟨_, _, rfl, H.cT, H.o 0 rfl, (H.gA (H.bJ 0 rfl)).imp fun _ h => ?_⟩
  have h_ := cO.cA (n := dp) h (by rw [dL _ (fun k hk => by rw [aJ]; exact yT hp.sl k hk), tP])
  unfold fE; rw [tP]; exact h_
theorem OJ {X : Nat → Prop} {w : World} {kd dp : Nat} {lk lv B : List UInt8} {sl : Value} (hX : c6 X w) (mV : lk.length = 32) (hlv : lv.length = 32) (p4 : B.length = 32) (hs1 : sl.oneCell' = true) :
  bC prog 214 [.agg (fU kd dp lk lv B sl).toArray].toArray w fun v w' => Out Nil w w' ∧ aH X (bL v (eT kd lk lv)) w' := by
 refine bC.aI (N := 10) func214 rfl rfl (by simp) ?_
 have H := St.begin hX
 have wE : (fU kd dp lk lv B sl).length = 99 := gQ mV hlv p4
 refine WE.aA ?_
 refine WL.box (l := fU kd dp lk lv B sl) H rfl rfl rfl ?_
 intro b1 w1 H
 refine WL.as rfl rfl (WL.nil (WE.seq (WE.aA (WL.pv (PV.fieldAddr rfl nQ rfl) rfl (WL.aX rfl l9 rfl rfl (aN.aF (H.l 0 rfl) (aK.l (aK.all _)) rfl) (WL.pv (PV.eql rfl rfl rfl) rfl (WL.nil ?_)))))))
 refine WE.cond rfl (fun uW => ?_) (fun uW => ?_)
 ·
  try simp only [bP] at uW
  have wT : kd = 1 := by omega
  have he : eT kd lk lv = 0 :: (lk ++ lv) := if_pos wT
  refine WE.aA (WL.pv (PV.fieldAddr rfl pI rfl) rfl ?_)
  refine WL.bE rfl G0 rfl rfl (aN.aF (H.l 0 rfl) (aK.r (aK.r (aK.l (aK.all _)) rfl) rfl) rfl) (cI xJ (by simp only [aS, aY, aB, aD]; omega)) ?_
  refine WL.call aBu rfl (WB (k := lk) (l := lv) H.aR mV hlv) ?_
  rintro v8 w2 ⟨hO, hR⟩
  replace H := (H.out hO).add hR
  refine WL.as rfl rfl (WL.nil (WE.ret ⟨[_], _, .nil _, ⟨rfl, trivial⟩, ?_⟩))
  exact ⟨H.aL, by rw [he]; exact H.fX (H.bJ 0 rfl)⟩
 ·
  try simp only [bP] at uW
  have PZ : ¬ kd = 1 := by omega
  have he : eT kd lk lv = [3] := if_neg PZ
  refine WE.skip (WE.aA ?_)
  refine WL.call aGj rfl (M1 H.aR) ?_
  rintro v9 w3 ⟨hO, hR⟩
  replace H := (H.out hO).add hR
  refine WL.as rfl rfl (WL.nil (WE.ret ⟨[_], _, .nil _, ⟨rfl, trivial⟩, ?_⟩))
  exact ⟨H.aL, by rw [he]; exact H.fX (H.bJ 0 rfl)⟩
def aCj (C : Nat → Prop) (w : World) (l : Nat) (W : World) (S : World → Prop) : EPost
 | .normal, _, _, W' => aBW C w l W W' ∧ S W'
 | _, _, _, _ => False
theorem WE.aCn {P : Program} {N : Nat} {σ : Env} {ds : List Deferred} {w : World} {g : Operand} {ps : List Tmp} {assign body : Code} {Q : EPost}
  {gf : FuncId} {gfn : Func} {fs cs : List Value} {n : Nat} {V : Nat → List Value → World → Prop} {C : Nat → Prop} (S : Nat → World → Prop)
  (hg : ev σ g = .func (.func gf) fs.toArray cs.toArray) (hb : Body P gf gfn) (hC : ∀ b, C b → b < w.heap.size)
  (SI : ∀ W0, Out Nil w W0 → VY P gf fs cs n V (fun b => C b ∨ (w.heap.size ≤ b ∧ b < W0.heap.size)) W0) (hV : ∀ i xs W, V i xs W → xs.length = ps.length)
  (start : ∀ W1, Out Nil w W1 → w.heap.size + 2 ≤ W1.heap.size → W1.heap[w.heap.size]? = some (.deferred (some [])) → S 0 W1)
  (calm : ∀ i W W', S i W → Out (· = w.heap.size + 1) W W' → S i W')
  (round : ∀ (i : Nat) (xs : List Value) (W : World), i < n → S i W → V i xs W → w.heap.size + 2 ≤ W.heap.size →
   WE (some (w.heap.size + 1)) P N assign (fun e σ1 ds1 W' => e = .normal ∧ ds1 = [] ∧ Out Nil W W' ∧ ∀ Wb, Out (· = w.heap.size + 1) W' Wb → WE (some (w.heap.size + 1)) P N body (aCj C w (w.heap.size + 1) Wb (S (i + 1))) σ1 [] Wb) (uH N σ ps xs) [] W)
  (done : ∀ W', S n W' → Q .normal σ ({ target := .collected w.heap.size, args := #[] } :: ds) W') :
  WE none P N (.rangeFunc g ps.toArray assign body) Q σ ds w := fun a ha => by
 refine wpIn_rangeFunc ?_
 intro fn _
 obtain ⟨rec, kH⟩ : ∃ rec : LoopState → Option Code → Loop, rec = fun st pe => { state := st, pending := pe, fn, tmps := a.tmps, params := ps.toArray, assign, body, defers := w.heap.size } := ⟨_, rfl⟩
 obtain ⟨W1, FV⟩ : ∃ W1, (w.alloc (.deferred (some []))).alloc (.loop (rec .ready none)) = W1 := ⟨_, rfl⟩
 have D3 : Out Nil w W1 := by rw [← FV]; exact (Out.alloc _ _).trans (Out.alloc _ _)
 have hsz : W1.heap.size = w.heap.size + 2 := by rw [← FV]; simp
 have hL1 : W1.heap[w.heap.size + 1]? = some (.loop (rec .ready none)) := by
  rw [← FV]; have := World.alloc_heap_new (w.alloc (.deferred (some []))) (.loop (rec .ready none)); rwa [World.size_alloc] at this
 have hK1 : W1.heap[w.heap.size]? = some (.deferred (some [])) := by
  rw [← FV]; exact (Below.heap_alloc _ _ _ (by simp)).trans (World.alloc_heap_new w _)
 refine ⟨w.heap.size + 1, [{ target := .collected w.heap.size, args := #[] }], W1, { target := .fn (.func gf) cs.toArray, args := (fs ++ [Value.func (.yield (w.heap.size + 1)) #[] #[]]).toArray }, W1, gf,
  (fs ++ [Value.func (.yield (w.heap.size + 1)) #[] #[]] ++ cs).toArray, W1, ?_, ?_, ?_, ?_, (fun h => (by cases h)), ?_⟩
 ·
  rw [← FV, kH]; exact run_enterLoop_outer _ _ _ _ _
 ·
  have e : a.eval g = .func (.func gf) fs.toArray cs.toArray := by rw [ha.eval]; exact hg
  simp only [resolve, e]
  simp [Deferred.ofValue]
  rfl
 ·
  intro _ _; trivial
 ·
  have := fV hb (fs ++ [Value.func (.yield (w.heap.size + 1)) #[] #[]] ++ cs).toArray W1
  simp only [invoke, List.append_toArray]
  exact this
 obtain ⟨B, hB⟩ : ∃ B : World → Prop, B = fun W => W.os = w.os ∧ W.tape = w.tape ∧ W.output = w.output ∧ w.heap.size + 2 ≤ W.heap.size ∧ ∀ b, b < w.heap.size → ¬ C b → W.heap[b]? = w.heap[b]? := ⟨_, rfl⟩
 have hBo : ∀ M W W', B W → Out M W W' → (∀ b, b < w.heap.size → ¬ M b) → B W' := fun M W W' h ho hM => by
  rw [hB] at h ⊢
  obtain ⟨h1, h2, h3, h4, h5⟩ := h
  exact ⟨ho.os.trans h1, ho.tape.trans h2, ho.output.trans h3, Nat.le_trans h4 ho.size, fun b hb hc => (ho.block b (by omega) (hM b hb)).trans (h5 b hb hc)⟩
 have uX : B W1 := by rw [hB]; exact ⟨D3.os, D3.tape, D3.output, by omega, fun b hb _ => D3.block b hb id⟩
 have yK := SI W1 D3 (.func (.yield (w.heap.size + 1)) #[] #[]) (fun i W => S i W ∧ W.heap[w.heap.size + 1]? = some (.loop (rec .ready none)) ∧ B W)
  (fun _ => False)
  ⟨start W1 D3 (by omega) hK1, hL1, uX⟩
  (by
   rintro i W W' ⟨h1, h2, h3⟩ ho
   have h4 : w.heap.size + 2 ≤ W.heap.size := by rw [hB] at h3; exact h3.2.2.2.1
   exact ⟨calm i W W' h1 (ho.mono fun _ _ h => h.elim), (ho.block _ (by omega) id).trans h2, hBo _ W W' h3 ho (fun _ _ h => h)⟩)
  (fun _ _ h _ => h)
  (by
   rintro i xs W W2 hi ⟨hS0, hl0, hB0⟩ hout JF
   have h40 : w.heap.size + 2 ≤ W.heap.size := by rw [hB] at hB0; exact hB0.2.2.2.1
   have hS2 := calm i W W2 hS0 (hout.mono fun _ _ h => h.elim)
   have hl : W2.heap[w.heap.size + 1]? = some (.loop (rec .ready none)) := (hout.block _ (by omega) id).trans hl0
   have qS := hBo _ W W2 hB0 hout (fun _ _ h => h)
   have h42 : w.heap.size + 2 ≤ W2.heap.size := by rw [hB] at qS; exact qS.2.2.2.1
   have hv : V i xs W2 := JF.here
   have hlt := (Array.getElem?_eq_some_iff.1 hl).1
   refine .inr ⟨w.heap.size + 1, fn, (ps.toArray.zip xs.toArray).foldl (fun tmps (p : Tmp × Value) => tmps.setIfInBounds p.1 p.2) a.tmps, assign, body, rfl, ?_, ?_⟩
   ·
    have := run_yield (P := P) (args := xs.toArray) hl (by rw [kH]; simpa using hV i xs W2 hv)
    rw [this, kH]
   ·
    refine roundIn_of_wpIn trivial ?_
    have ez : ((ps.toArray.zip xs.toArray).foldl (fun tmps (p : Tmp × Value) => tmps.setIfInBounds p.1 p.2) a.tmps) = ((ps.zip xs).foldl (fun tmps (p : Tmp × Value) => tmps.setIfInBounds p.1 p.2) a.tmps) := by
     rw [← Array.foldl_toList]; simp
    show Code.wpIn _ _ _ _ _ { tmps := ((ps.toArray.zip xs.toArray).foldl (fun tmps (p : Tmp × Value) => tmps.setIfInBounds p.1 p.2) a.tmps), defers := [] } _
    rw [ez]
    have aJb := round i xs W2 hi hS2 hv h42
    have hh := aJb _ (mT.uH ps xs σ [] { tmps := a.tmps, defers := [] } ⟨ha.size, ha.env, rfl⟩)
    refine wpIn_mono (F := FW (some (w.heap.size + 1))) hh ?_
    rintro e a1 W3 ⟨hs1, rfl, D1, hO3, FU⟩
    have hl3 : W3.heap[w.heap.size + 1]? = some (.loop (rec .ready none)) := (hO3.block _ (by omega) id).trans hl
    have hlt3 := (Array.getElem?_eq_some_iff.1 hl3).1
    have hB3 := hBo _ W2 W3 qS hO3 (fun _ _ h => h)
    obtain ⟨Wb, tZ⟩ : ∃ Wb, W3.putObj (w.heap.size + 1) (.loop { rec .ready none with state := .busy }) = Wb := ⟨_, rfl⟩
    have BD : Out (· = w.heap.size + 1) W3 Wb := by rw [← tZ]; exact fP _
    have FL : Wb.heap[w.heap.size + 1]? = some (.loop { rec .ready none with state := .busy }) := by rw [← tZ]; exact World.putObj_heap_same hlt3
    have hBb := hBo _ W3 Wb hB3 BD (fun b hb h => by omega)
    refine ⟨_, run_beginRound hl3 (by rw [kH]), ?_⟩
    rw [tZ]
    have hbd := FU Wb BD a1 ⟨hs1, rfl, D1⟩
    refine wpIn_mono (F := FW (some (w.heap.size + 1))) hbd ?_
    rintro e a4 W4 ⟨hs4, hq⟩
    cases e with
    | normal =>
     obtain ⟨hk, hS4⟩ := hq
     have W6 : W4.heap[w.heap.size + 1]? = some (.loop { rec .ready none with state := .busy }) := hk.loop.trans FL
     have JJ := (Array.getElem?_eq_some_iff.1 W6).1
     have ho5 : Out (· = w.heap.size + 1) W4 (W4.putObj (w.heap.size + 1) (.loop (rec .ready none))) := fP _
     have hB4 : B W4 := by
      rw [hB] at hBb ⊢
      obtain ⟨h1, h2, h3, h4, h5⟩ := hBb
      exact ⟨hk.os.trans h1, hk.tape.trans h2, hk.output.trans h3, hk.size, fun b hb hc => (hk.old b hb hc).trans (h5 b hb hc)⟩
     have hB5 := hBo _ W4 _ hB4 ho5 (fun b hb h => by omega)
     refine ⟨_, W4.putObj (w.heap.size + 1) (.loop (rec .ready none)), ?_, _, rfl, ?_, .inl ⟨rfl, calm _ _ _ hS4 ho5, World.putObj_heap_same JJ, hB5⟩⟩
     ·
      have := run_endRound (P := P) none W6
      rw [kH] at this ⊢
      exact this
     ·
      rw [hB] at hB5
      obtain ⟨h1, h2, h3, h4, h5⟩ := hB5
      refine ⟨h1.trans D3.os.symm, h2.trans D3.tape.symm, h3.trans D3.output.symm, by omega, fun b hb => hb.elim, fun b hb hc _ => ?_⟩
      rcases Nat.lt_or_ge b w.heap.size with FK | hge
      ·
       exact (h5 b FK fun h => hc (.inl h)).trans (D3.block b FK id).symm
      ·
       exact absurd (show C b ∨ (w.heap.size ≤ b ∧ b < W1.heap.size) from .inr ⟨hge, hb⟩) hc
    | ret => exact hq.elim
    | exit id => exact hq.elim
    | goto t => exact hq.elim
    | panic c => exact hq.elim
    | outgrown => exact hq.elim)
  (.inr ⟨_, _, _, rfl⟩)
 refine CallsIn.mono (F := FW none) (n := 0) yK ?_
 rintro e W2 ⟨v, rfl, _, ⟨hS, hl, _⟩ | h⟩
 ·
  refine ⟨none, _, by have := run_endLoop (P := P) hl (by rw [kH]; simp); rw [kH] at this; exact this, ?_⟩
  have hd := done _ (calm _ _ _ hS (fP (W := W2) (l := w.heap.size + 1) (.loop { rec .ready none with state := .exhausted })))
  refine ⟨ha.size, ?_⟩
  rw [kH] at hd
  have e1 : gL { a with defers := [{ target := .collected w.heap.size, args := #[] }] ++ a.defers } = σ := ha.env
  show Q .normal (gL _) _ _
  rw [e1]
  simp only [ha.defers, List.singleton_append]
  exact hd
 ·
  exact h.elim
def aHS (ds : List (List UInt8)) (j : Nat) (xs : List Value) (_ : World) : Prop := ∃ h : ds.length - 1 - j < ds.length, xs = [.int .i64 ((ds.length - 1 - j : Nat) : Int), .agg (kc ds[ds.length - 1 - j]).toArray]
theorem HJ {X : Nat → Prop} {w : World} {s : Value} {ds : List (List UInt8)} (hX : c6 X w) (bT : aH X (fE s ds) w) :
  bC prog 215 [s].toArray w fun r w' => ∃ b1, r = .func (.func 220) [].toArray [.pointer (some ⟨b1, 0, none⟩)].toArray ∧ Out Nil w w' ∧ aH X (fun w => dD w ⟨b1, 0, none⟩ [s]) w' := by
 refine bC.aI (N := 4) func215 rfl rfl (by simp) ?_
 have H := (St.begin hX).add (cE bT)
 refine WE.aA ?_
 refine WL.box (l := [s]) H rfl (cO.cells (H.p 0 rfl)) rfl ?_
 intro b1 w1 H
 refine WL.as rfl rfl (WL.nil (WE.aA (WL.pv (PV.makeFunc rfl) rfl (WL.as rfl rfl (WL.nil (WE.ret ⟨[_], _, .nil _, ⟨rfl, trivial⟩, ?_⟩))))))
 replace H := H.freeze (i := 0) rfl
 exact ⟨_, rfl, H.aL, H.fX ((H.bJ 0 rfl).imp fun _ h => h.rd)⟩
theorem O7 {C : Nat → Prop} {w : World} {b1 : Nat} {s : Value} {ds : List (List UInt8)} (hC : ∀ b, C b → b < w.heap.size) (bT : aH C (fun w => dD w ⟨b1, 0, none⟩ [s]) w) (dJ : aH C (fE s ds) w) (uU : ∀ d ∈ ds, d.length = 32) (hlen : ds.length ≤ 1000000) : VY prog 220 [] [.pointer (some ⟨b1, 0, none⟩)] (ds.length) (aHS ds) C w := by
 intro f J Jx hJ0 j9 N6 iK hf
 show bC prog 220 ([f, .pointer (some ⟨b1, 0, none⟩)] : List Value).toArray w _
 refine bC.aI (N := 19) func220 rfl rfl (by simp) ?_
 have H := ((St.begin (X := C) hC).add (cE dJ)).add (cE bT)
 refine WE.aA (WL.aX rfl vF rfl rfl (H.p 0 rfl) (WL.pv (PV.dS (H.p 1 rfl : fE s ds _) oZ rfl) rfl ?_))
 refine WL.pv (PV.eq (v' := .int .i64 (((ds.length - 0 : Nat) : Int) - 1)) (PV.gE rfl rfl rfl (by omega) (by omega)) rfl) rfl ?_
 refine WL.as rfl rfl (WL.nil (WE.block ?_))
 refine WE.loop (α := Nat) (rg [(3, 1), (7, 12)]) (fun j => [(3, .int .i64 (((ds.length - j : Nat) : Int) - 1))]) (fun j wl => j ≤ ds.length ∧ J j wl ∧ St C wl wl [] [] [fun w => dD w ⟨b1, 0, none⟩ [s], fE s ds]) (fun j => ds.length - j) 0 ⟨rfl, trivial⟩ ⟨Nat.zero_le _, hJ0, H⟩ ?_
 intro j γ0 w1 hI
 try dsimp only at hI
 obtain ⟨hj, hJ, H⟩ := hI
 have C1 : ∃ HY, HY = w1 := ⟨_, rfl⟩
 obtain ⟨HY, C1⟩ := C1
 rw [← C1] at hJ H ⊢
 clear C1
 refine WE.seq (WE.aA (WL.mv rfl rfl (WL.pv (PV.geq rfl rfl rfl) rfl (WL.nil ?_))))
 refine WE.cond rfl (fun l8 => ?_) (fun l8 => ?_)
 ·
  try simp only [bP] at l8
  have hlt : j < ds.length := by omega
  have hkj := uU _ (List.getElem_mem (show ds.length - 1 - j < ds.length by omega))
  have P0 : ((ds.length - j : Nat) : Int) - 1 = ((ds.length - 1 - j : Nat) : Int) := by omega
  rw [P0]
  refine WE.skip (WE.seq (WE.block (WE.aA (WL.mv rfl rfl (WL.mv rfl rfl (WL.aX rfl vF rfl rfl (H.p 0 rfl) (WL.mv rfl rfl ?_)))))))
  refine WL.pv (PV.dX rfl (H.p 1 rfl : fE s ds _) oZ dH rfl rfl (by omega) (by omega)) rfl ?_
  refine WL.bE rfl fS rfl rfl (fE.rd (H.p 1 rfl) uU (ds.length - 1 - j) (by omega)) (cI dH (by simp only [aS, aY, aB, aD]; omega)) ?_
  refine WL.iZ rfl rfl (iK j _ HY _ (by omega) hJ H.aL (aH.pure ⟨by omega, rfl⟩)) ?_
  rintro _ w2 ⟨hk, ⟨rfl, hJ⟩ | ⟨rfl, hJ⟩⟩
  ·
   replace H := St.KA (Ps := [fun w => dD w ⟨b1, 0, none⟩ [s], fE s ds]) hC hk (fun _ h => h.elim) (by intro p hp; simp at hp; rcases hp with rfl | rfl <;> assumption)
   refine WL.pv (PV.not rfl rfl) rfl (WL.nil (WE.jF rfl (WE.skip (WE.dW (WL.mv rfl rfl ?_)))))
   refine WL.pv (PV.eq (v' := .int .i64 (((ds.length - (j + 1) : Nat) : Int) - 1)) (PV.gE rfl rfl rfl (by omega) (by omega)) (by congr 1; omega)) rfl ?_
   refine WL.as rfl rfl (WL.nil ?_)
   exact ⟨j + 1, (by repeat (first | with_reducible exact bK.refl _ _ | refine bK.dG rfl ?_ | refine bK.bZ rfl ?_ | refine bK.bX rfl ?_)), ⟨rfl, trivial⟩, rfl, ⟨by omega, hJ, H⟩, (by omega)⟩
  ·
   refine WL.pv (PV.not rfl rfl) rfl (WL.nil (WE.kZ rfl (WE.ret ?_)))
   refine ⟨[], _, .nil _, trivial, ?_⟩
   exact ⟨rfl, .inr hJ⟩
 ·
  try simp only [bP] at l8
  have hj_ : j = ds.length := by omega
  refine WE.exit ?_
  refine ⟨[], _, .nil _, trivial, ?_⟩
  subst hj_
  exact ⟨rfl, .inl (j9 _ _ _ hJ H.aL)⟩
def fI (bits : Int) (k : List UInt8) (ds : List (List UInt8)) (e : List UInt8) : Nat → List UInt8
 | 0 => e
 | j + 1 => sO bits k (ds.length - 1 - j) (ds.getD (ds.length - 1 - j) []) (fI bits k ds e j)
theorem MO {bits : Int} {k : List UInt8} {ds : List (List UInt8)} {e : List UInt8} : ∀ j, j ≤ ds.length → upD bits k ds (ds.length - j) (fI bits k ds e j) = upD bits k ds ds.length e
 | 0, _ => rfl
 | j + 1, h => by
  rw [← MO j (by omega), show ds.length - j = (ds.length - 1 - j) + 1 by omega, show ds.length - (j + 1) = ds.length - 1 - j by omega]
  rfl
theorem U8 {bits : Int} {k : List UInt8} {ds : List (List UInt8)} {e : List UInt8} : fI bits k ds e ds.length = upD bits k ds ds.length e := by
 have h := MO (bits := bits) (k := k) (e := e) ds.length (Nat.le_refl _)
 rw [Nat.sub_self] at h
 exact h
theorem NK (bits : Int) (k : List UInt8) (d : Nat) (s b : List UInt8) : (sO bits k d s b).length = 32 := by
 unfold sO vO
 split <;> exact cB _ _
theorem oO {bits : Int} {k : List UInt8} {ds : List (List UInt8)} {e : List UInt8} (he : e.length = 32) : ∀ j, (fI bits k ds e j).length = 32
 | 0 => he
 | j + 1 => NK _ _ _ _ _
def aIC (MP : Nat → List UInt8) (i : Nat) (xs : List Value) (_ : World) : Prop := ∃ s, xs = [s, .agg (kc (MP i)).toArray]
def PX (b : Nat) (x y : List UInt8) : List UInt8 := if b = 0 then y else x
def PW (b : Nat) (x y : List UInt8) : List UInt8 := if b = 0 then x else y
theorem X9 {b : Nat} {x y : List UInt8} (hx : x.length = 32) (hy : y.length = 32) : (PX b x y).length = 32 := by unfold PX; split <;> assumption
theorem X8 {b : Nat} {x y : List UInt8} (hx : x.length = 32) (hy : y.length = 32) : (PW b x y).length = 32 := by unfold PW; split <;> assumption
theorem X7 {b : Nat} {x y : List UInt8} (hb : b < 2) (hx : x.length = 32) (hy : y.length = 32) : Laid (kc x ++ kc x) (b * 32) (kc y) (kc (PX b x y) ++ kc (PW b x y)) := by
 unfold PX PW
 rcases Nat.lt_or_ge b 1 with h | h
 ·
  have h0 : b = 0 := by omega
  subst h0
  rw [if_pos rfl, if_pos rfl]
  exact Laid.left (Laid.all (by rw [aJ, aJ, hx, hy]))
 ·
  have h1 : b = 1 := by omega
  subst h1
  rw [if_neg (by decide), if_neg (by decide)]
  exact Laid.right (Laid.all (by rw [aJ, aJ, hx, hy])) (by rw [aJ, hx])
theorem XU {bits : Int} {k : List UInt8} {d : Nat} {s b : List UInt8} : sO bits k d s b = vO bits (PX (bI k d) s b) (PW (bI k d) s b) := by
 unfold sO PX PW
 split <;> rfl
theorem AJ.one {f : Value} (h : AJ f) : f.oneCell' = true := by
 rcases h with ⟨g, a, b, rfl⟩ | ⟨l, a, b, rfl⟩ <;> rfl
theorem uM : ∀ (es : List aP) (ns : List Nat), es.map aP.fp = ns.map (fun n => (· = n)) → ns.Nodup → es.Pairwise aP.rQ
 | [], _, _, _ => .nil
 | e :: es, [], h, _ => by simp at h
 | e :: es, n :: ns, h, hn => by
  injection h with h1 h2
  have hn' := List.nodup_cons.1 hn
  refine List.pairwise_cons.2 ⟨fun e' he' x hx => ?_, uM es ns h2 hn'.2⟩
  have hx1 : x = n := by have h3 := hx.1; rw [h1] at h3; exact h3
  obtain ⟨n', SP, hn2⟩ : ∃ n', n' ∈ ns ∧ e'.fp = (· = n') := by
   have h4 : e'.fp ∈ es.map aP.fp := List.mem_map_of_mem he'
   rw [h2] at h4
   obtain ⟨n', h5, h6⟩ := List.mem_map.1 h4
   exact ⟨n', h5, h6.symm⟩
  have hx2 : x = n' := by have h3 := hx.2; rw [hn2] at h3; exact h3
  exact hn'.1 (by rw [← hx1, hx2]; exact SP)
theorem St.IJ {C C' : Nat → Prop} {w w1 W : World} {O1 L1 : List aP} {Ps : List (World → Prop)} (H1 : St C w w1 O1 L1 Ps) (ho : vZ C' w1 W) (hC' : ∀ b, C' b → YY C O1 L1 b) (O : List aP) (hO : ∀ e ∈ O, e.ok W) (hd : O.Pairwise aP.rQ)
  (hY : ∀ e ∈ O, ∀ b, b < w1.heap.size → e.fp b → YY C O1 L1 b) : St C W W O [] Ps := by
 refine St.start (fun b hb => Nat.lt_of_lt_of_le (H1.AM b hb) (Nat.le_trans H1.size ho.size)) hO hd fun p hp w'' hw => (H1.jC p hp) w'' fun b hb hn => ?_
 refine (hw b (Nat.lt_of_lt_of_le hb ho.size) fun h => ?_).trans (ho.old b hb fun hc => hn (hC' b hc))
 rcases h with h | ⟨e, he, h⟩ | ⟨_, h, _⟩
 ·
  exact hn (.inl h)
 ·
  exact hn (hY e he b hb h)
 ·
  cases h
def CW (C : Nat → Prop) (bc b6 b7 : Nat) : Nat → Prop := fun b => C b ∨ b = bc ∨ b = b6 ∨ b = b7
structure rO (C : Nat → Prop) (w w1 : World) (bc b6 b7 : Nat) (J : (Nat → Prop) → Nat → World → Prop) (MP : Nat → List UInt8) (T : Nat → Prop) (i : Nat) (W : World) : Prop where
 j : J T i W
 tb : ∀ b, b = bc ∨ (w.heap.size ≤ b ∧ b < w1.heap.size + 2) → T b
 tl : ∀ b, T b → b = bc ∨ w.heap.size ≤ b
 I2 : vZ (CW C bc b6 b7) w1 W
 sz : w1.heap.size + 2 ≤ W.heap.size
 d : W.heap[w1.heap.size]? = some (.deferred (some []))
 c : ∃ m : Int, aN W bc 213 [.int .i64 m]
 s : ∃ s : Value, s.oneCell' = true ∧ aN W b6 41 [s]
 e : aN W b7 30 (kc (MP i))
section
variable {C : Nat → Prop} {w w1 W W' Wl : World} {bc b6 b7 : Nat} {J : (Nat → Prop) → Nat → World → Prop} {MP : Nat → List UInt8} {T T' : Nat → Prop} {i : Nat} {lc l7 l6 : List Value} {Ps : List (World → Prop)}
theorem rO.step (j9 : ∀ T T' i W W', J T i W → Out T W W' → (∀ b, T b → T' b) → (∀ b, T' b → T b ∨ (W.heap.size ≤ b ∧ b < W'.heap.size)) → J T' i W') (h : rO C w w1 bc b6 b7 J MP T i W)
  (hl : bc < w1.heap.size ∧ b6 < w1.heap.size ∧ b7 < w1.heap.size) (h0 : w.heap.size ≤ w1.heap.size) (ho : Out (· = w1.heap.size + 1) W W') (h1 : ∀ b, T b → T' b) (h2 : ∀ b, T' b → T b ∨ (W.heap.size ≤ b ∧ b < W'.heap.size)) : rO C w w1 bc b6 b7 J MP T' i W' where
 j := j9 T T' i W W' h.j (ho.mono fun b _ hb => h.tb b (.inr (by have hb' : b = w1.heap.size + 1 := hb; omega))) h1 h2
 tb := fun b hb => h1 b (h.tb b hb)
 tl := fun b hb => by
  rcases h2 b hb with h3 | h3
  ·
   exact h.tl b h3
  ·
   have := h.sz; exact .inr (by omega)
 I2 := ⟨ho.os.trans h.I2.os, ho.tape.trans h.I2.tape, ho.output.trans h.I2.output, Nat.le_trans h.I2.size ho.size, fun b hb hc => (ho.block b (Nat.lt_of_lt_of_le hb h.I2.size) (fun hh => by have hh' : b = w1.heap.size + 1 := hh; omega)).trans (h.I2.old b hb hc)⟩
 sz := Nat.le_trans h.sz ho.size
 d := (ho.block _ (by have := h.sz; omega) (fun hh => by have hh' : w1.heap.size = w1.heap.size + 1 := hh; omega)).trans h.d
 c := by
  obtain ⟨m, hm⟩ := h.c
  exact ⟨m, hm.of_eq (ho.block _ hm.lt (fun hh => by have hh' : bc = w1.heap.size + 1 := hh; omega))⟩
 s := by
  obtain ⟨s, hs, hm⟩ := h.s
  exact ⟨s, hs, hm.of_eq (ho.block _ hm.lt (fun hh => by have hh' : b6 = w1.heap.size + 1 := hh; omega))⟩
 e := h.e.of_eq (ho.block _ h.e.lt (fun hh => by have hh' : b7 = w1.heap.size + 1 := hh; omega))
theorem rO.kept (H1 : St C w w1 [aP.blk bc 213 lc] [aP.blk b7 30 l7, aP.blk b6 41 l6] Ps) (h : rO C w w1 bc b6 b7 J MP T i W) (hk : Kept T C w W W') : vZ (CW C bc b6 b7) w1 W' := by
 have hl := hk.blk (w1.heap.size + 1) (h.tb _ (.inr (by have := H1.size; omega)))
 refine ⟨hk.os.trans H1.os.symm, hk.tape.trans H1.tape.symm, hk.output.trans H1.output.symm, by omega, fun b hb hc => ?_⟩
 rcases Nat.lt_or_ge b w.heap.size with hlt | hge
 ·
  refine (hk.old b hlt (fun h3 => hc (.inl h3)) (fun ht => ?_)).trans (H1.old b hlt fun e he h3 => ?_).symm
  ·
   rcases h.tl b ht with h4 | h4
   ·
    exact hc (.inr (.inl h4))
   ·
    omega
  ·
   rw [List.mem_singleton.1 he] at h3
   exact hc (.inr (.inl h3))
 ·
  exact (hk.blk b (h.tb b (.inr (by omega)))).2.trans (h.I2.old b hb hc)
theorem uC (H1 : St C w w1 [aP.blk bc 213 lc] [aP.blk b7 30 l7, aP.blk b6 41 l6] Ps) : bc < w1.heap.size ∧ b6 < w1.heap.size ∧ b7 < w1.heap.size :=
 ⟨(H1.o 0 (e := aP.blk bc 213 lc) rfl).lt, (H1.l 1 (e := aP.blk b6 41 l6) rfl).lt, (H1.l 0 (e := aP.blk b7 30 l7) rfl).lt⟩
theorem mH (H1 : St C w w1 [aP.blk bc 213 lc] [aP.blk b7 30 l7, aP.blk b6 41 l6] Ps) : ∀ b, CW C bc b6 b7 b → YY C [aP.blk bc 213 lc] [aP.blk b7 30 l7, aP.blk b6 41 l6] b := fun b hb => by
 rcases hb with h | h | h | h
 ·
  exact .inl h
 ·
  exact .inr (.inl ⟨_, List.mem_cons_self, h⟩)
 ·
  exact .inr (.inr ⟨aP.blk b6 41 l6, by simp, h⟩)
 ·
  exact .inr (.inr ⟨aP.blk b7 30 l7, by simp, h⟩)
theorem EB (H1 : St C w w1 [aP.blk bc 213 lc] [aP.blk b7 30 l7, aP.blk b6 41 l6] Ps) (ho : vZ (CW C bc b6 b7) w1 W) {m : Int} {e : List UInt8} {s : Value} {x : List Value} {b9 : Nat} (hc : aN W bc 213 [.int .i64 m]) (he : aN W b7 30 (kc e)) (hs : aN W b6 41 [s])
  (hl : w1.heap.size + 1 < W.heap.size ∧ W.heap[w1.heap.size + 1]? = Wl.heap[w1.heap.size + 1]?) (hd : W.heap[w1.heap.size]? = some (.deferred (some []))) (h9 : aN W b9 30 x) (hge : w1.heap.size + 2 ≤ b9) :
  St C W W [aP.blk bc 213 [.int .i64 m], aP.blk b7 30 (kc e), aP.blk b6 41 [s], aP.sn (· = w1.heap.size + 1) Wl, aP.obj w1.heap.size (.deferred (some [])), aP.blk b9 30 x] [] Ps := by
 have hlt := uC H1
 have aJl := H1.uP _ (List.mem_of_getElem? (i := 0) rfl) bc rfl
 have aJk := H1.kI _ (List.mem_of_getElem? (i := 0) rfl) b7 rfl
 have aJj := H1.kI _ (List.mem_of_getElem? (i := 1) rfl) b6 rfl
 have aJi : b7 ≠ b6 := fun h => fC H1.iR (i := 0) (j := 1) (by decide) rfl rfl b7 ⟨rfl, h⟩
 refine St.IJ H1 ho (mH H1) _ ?_ (uM _ [bc, b7, b6, w1.heap.size + 1, w1.heap.size, b9] rfl (by simp; omega)) ?_
 ·
  intro x hx
  simp only [List.mem_cons, List.not_mem_nil, or_false] at hx
  rcases hx with rfl | rfl | rfl | rfl | rfl | rfl
  ·
   exact hc
  ·
   exact he
  ·
   exact hs
  ·
   intro b hb
   have hb' : b = w1.heap.size + 1 := hb
   rw [hb']; exact hl
  ·
   exact hd
  ·
   exact h9
 ·
  intro x hx b hb hf
  simp only [List.mem_cons, List.not_mem_nil, or_false] at hx
  rcases hx with rfl | rfl | rfl | rfl | rfl | rfl
  ·
   exact mH H1 b (.inr (.inl hf))
  ·
   exact mH H1 b (.inr (.inr (.inr hf)))
  ·
   exact mH H1 b (.inr (.inr (.inl hf)))
  ·
   have FQ : b = w1.heap.size + 1 := hf
   omega
  ·
   have FQ : b = w1.heap.size := hf
   omega
  ·
   have FQ : b = b9 := hf
   omega
theorem XG {i : Nat} (H1 : St C w w1 [aP.blk bc 213 lc] [aP.blk b7 30 l7, aP.blk b6 41 l6] Ps) {Wb W4 : World} (hb : rO C w w1 bc b6 b7 J MP T i Wb) (ho : vZ (CW C bc b6 b7) w1 W') (j9 : ∀ T T' i W W', J T i W → Out T W W' → (∀ b, T b → T' b) → (∀ b, T' b → T b ∨ (W.heap.size ≤ b ∧ b < W'.heap.size)) → J T' i W') (hJ : J T (i + 1) W')
  {m : Int} {e : List UInt8} {s : Value} {x : List Value} {b9 : Nat} {L4 : List aP} {P4 : List (World → Prop)} (H : St C W' W4 [aP.blk bc 213 [.int .i64 m], aP.blk b7 30 (kc e), aP.blk b6 41 [s], aP.sn (· = w1.heap.size + 1) Wb, aP.obj w1.heap.size (.deferred (some [])), aP.blk b9 30 x] L4 P4)
  (hs : s.oneCell' = true) (h9 : T b9) (hge : w1.heap.size + 2 ≤ b9) (he : e = MP (i + 1)) : aBW (CW C bc b6 b7) w1 (w1.heap.size + 1) Wb W4 ∧ ∃ T, rO C w w1 bc b6 b7 J MP T (i + 1) W4 := by
 have hlt := uC H1
 have h01 := H1.size
 have hfp : ∀ b, (∃ e_ ∈ [aP.blk bc 213 [.int .i64 m], aP.blk b7 30 (kc e), aP.blk b6 41 [s], aP.sn (· = w1.heap.size + 1) Wb, aP.obj w1.heap.size (.deferred (some [])), aP.blk b9 30 x], e_.fp b) → T b ∧ (b < w1.heap.size → CW C bc b6 b7 b) := by
  rintro b ⟨x', hx, hf⟩
  have g7 := H1.kI _ (List.mem_of_getElem? (i := 0) rfl) b7 rfl
  have g6 := H1.kI _ (List.mem_of_getElem? (i := 1) rfl) b6 rfl
  simp only [List.mem_cons, List.not_mem_nil, or_false] at hx
  rcases hx with rfl | rfl | rfl | rfl | rfl | rfl
  ·
   have FQ : b = bc := hf
   exact ⟨hb.tb b (.inl FQ), fun _ => .inr (.inl FQ)⟩
  ·
   have FQ : b = b7 := hf
   exact ⟨hb.tb b (.inr (by omega)), fun _ => .inr (.inr (.inr FQ))⟩
  ·
   have FQ : b = b6 := hf
   exact ⟨hb.tb b (.inr (by omega)), fun _ => .inr (.inr (.inl FQ))⟩
  ·
   have FQ : b = w1.heap.size + 1 := hf
   exact ⟨hb.tb b (.inr (by omega)), fun _ => by omega⟩
  ·
   have FQ : b = w1.heap.size := hf
   exact ⟨hb.tb b (.inr (by omega)), fun _ => by omega⟩
  ·
   have FQ : b = b9 := hf
   exact ⟨FQ ▸ h9, fun _ => by omega⟩
 have W6 := H.o 3 (e := aP.sn (· = w1.heap.size + 1) Wb) rfl (w1.heap.size + 1) rfl
 have hold : ∀ b, b < w1.heap.size → ¬ CW C bc b6 b7 b → W4.heap[b]? = w1.heap[b]? := fun b HR hc =>
  (H.old b (Nat.lt_of_lt_of_le HR ho.size) (fun e_ P0 hf => hc ((hfp b ⟨e_, P0, hf⟩).2 HR))).trans (ho.old b HR hc)
 refine ⟨⟨(H.os.trans ho.os).trans hb.I2.os.symm, (H.tape.trans ho.tape).trans hb.I2.tape.symm, (H.output.trans ho.output).trans hb.I2.output.symm, by omega, fun b HR hc => (hold b HR hc).trans (hb.I2.old b HR hc).symm, W6.2⟩, T, ?_⟩
 exact ⟨j9 T T (i + 1) W' W4 hJ (H.nA.mono fun b _ h => (hfp b h).1) (fun _ h => h) (fun _ h => .inl h), hb.tb, hb.tl,
  ⟨H.os.trans ho.os, H.tape.trans ho.tape, H.output.trans ho.output, Nat.le_trans ho.size H.size, hold⟩, by omega, H.o 4 (e := aP.obj w1.heap.size (.deferred (some []))) rfl, ⟨m, H.o 0 rfl⟩, ⟨s, hs, H.o 2 rfl⟩, by rw [← he]; exact H.o 1 rfl⟩
end
section
variable {C : Nat → Prop} {w w1 W W' W0 W1 : World} {bc b6 b7 : Nat} {J : (Nat → Prop) → Nat → World → Prop} {MP : Nat → List UInt8} {T : Nat → Prop} {lc l7 l6 : List Value} {Ps : List (World → Prop)}
theorem KZ {p : World → Prop} (H1 : St C w w1 [aP.blk bc 213 lc] [aP.blk b7 30 l7, aP.blk b6 41 l6] Ps) (hO : Out Nil w1 W0) (i : Nat) (hp : Ps[i]? = some p) : aH (fun b => CW C bc b6 b7 b ∨ (w1.heap.size ≤ b ∧ b < W0.heap.size)) p W0 :=
 (H1.bJ i hp).out hO (fun _ _ h => h.elim) fun b hb h => by
  rcases h with h | h
  ·
   exact mH H1 b h
  ·
   omega
theorem XH (H1 : St C w w1 [aP.blk bc 213 lc] [aP.blk b7 30 l7, aP.blk b6 41 l6] Ps) (hO : Out Nil w1 W0) : ∀ b, CW C bc b6 b7 b ∨ (w1.heap.size ≤ b ∧ b < W0.heap.size) → b < W0.heap.size := fun b hb => by
 rcases hb with h | h
 ·
  exact Nat.lt_of_lt_of_le (H1.aR b (mH H1 b h)) hO.size
 ·
  exact h.2
theorem NC {m : Int} {e : List UInt8} {s : Value} (H1 : St C w w1 [aP.blk bc 213 [.int .i64 m]] [aP.blk b7 30 (kc e), aP.blk b6 41 [s]] Ps) (hst : ∀ T W1, Out (· = bc) w W1 → (∀ b, T b → b = bc ∨ (w.heap.size ≤ b ∧ b < W1.heap.size)) → T bc → J T 0 W1)
  (hO : Out Nil w1 W1) (hsz : w1.heap.size + 2 ≤ W1.heap.size) (hd : W1.heap[w1.heap.size]? = some (.deferred (some []))) (hs : s.oneCell' = true) (he : e = MP 0) : ∃ T, rO C w w1 bc b6 b7 J MP T 0 W1 := by
 have hlt := uC H1
 refine ⟨fun b => b = bc ∨ (w.heap.size ≤ b ∧ b < w1.heap.size + 2), ?_, fun b hb => hb, fun b hb => hb.imp id fun h => h.1, ?_, hsz, hd, ⟨m, (H1.o 0 (e := aP.blk bc 213 [.int .i64 m]) rfl).of_eq (hO.block _ hlt.1 id)⟩, ⟨s, hs, (H1.l 1 (e := aP.blk b6 41 [s]) rfl).of_eq (hO.block _ hlt.2.1 id)⟩, he ▸ (H1.l 0 (e := aP.blk b7 30 (kc e)) rfl).of_eq (hO.block _ hlt.2.2 id)⟩
 ·
  exact hst _ _ (H1.cT.trans (hO.mono fun _ _ h => h.elim)) (fun b hb => hb.imp id fun h => ⟨h.1, by omega⟩) (.inl rfl)
 ·
  exact ⟨hO.os, hO.tape, hO.output, hO.size, fun b hb _ => hO.block b hb id⟩
theorem AN (H1 : St C w w1 [aP.blk bc 213 lc] [aP.blk b7 30 l7, aP.blk b6 41 l6] Ps) (ho : vZ (CW C bc b6 b7) w1 W) {m : Int} {e : List UInt8} {s : Value} (hc : aN W bc 213 [.int .i64 m]) (he : aN W b7 30 (kc e)) (hs : aN W b6 41 [s])
  (hd : W.heap[w1.heap.size]? = some (.deferred (some []))) :
  St C W W [aP.blk bc 213 [.int .i64 m], aP.blk b7 30 (kc e), aP.blk b6 41 [s], aP.obj w1.heap.size (.deferred (some []))] [] Ps := by
 have hlt := uC H1
 have aJl := H1.uP _ (List.mem_of_getElem? (i := 0) rfl) bc rfl
 have aJk := H1.kI _ (List.mem_of_getElem? (i := 0) rfl) b7 rfl
 have aJj := H1.kI _ (List.mem_of_getElem? (i := 1) rfl) b6 rfl
 have aJi : b7 ≠ b6 := fun h => fC H1.iR (i := 0) (j := 1) (by decide) rfl rfl b7 ⟨rfl, h⟩
 refine St.IJ H1 ho (mH H1) _ ?_ (uM _ [bc, b7, b6, w1.heap.size] rfl (by simp; omega)) ?_
 ·
  intro x hx
  simp only [List.mem_cons, List.not_mem_nil, or_false] at hx
  rcases hx with rfl | rfl | rfl | rfl
  ·
   exact hc
  ·
   exact he
  ·
   exact hs
  ·
   exact hd
 ·
  intro x hx b hb hf
  simp only [List.mem_cons, List.not_mem_nil, or_false] at hx
  rcases hx with rfl | rfl | rfl | rfl
  ·
   exact mH H1 b (.inr (.inl hf))
  ·
   exact mH H1 b (.inr (.inr (.inr hf)))
  ·
   exact mH H1 b (.inr (.inr (.inl hf)))
  ·
   have FQ : b = w1.heap.size := hf
   omega
theorem XF {i : Nat} {Wb W4 : World} (H1 : St C w w1 [aP.blk bc 213 lc] [aP.blk b7 30 l7, aP.blk b6 41 l6] Ps) (hb : rO C w w1 bc b6 b7 J MP T i Wb) {m : Int} {e : List UInt8} {s : Value} {L4 : List aP} {P4 : List (World → Prop)}
  (H : St C W' W4 [aP.blk bc 213 [.int .i64 m], aP.blk b7 30 (kc e), aP.blk b6 41 [s], aP.set (· = w1.heap.size)] L4 P4) : Out T W' W4 := by
 have hlt := uC H1
 have g7 := H1.kI _ (List.mem_of_getElem? (i := 0) rfl) b7 rfl
 have g6 := H1.kI _ (List.mem_of_getElem? (i := 1) rfl) b6 rfl
 have h01 := H1.size
 refine H.nA.mono fun b _ h => ?_
 obtain ⟨x, hx, hf⟩ := h
 simp only [List.mem_cons, List.not_mem_nil, or_false] at hx
 rcases hx with rfl | rfl | rfl | rfl
 ·
  exact hb.tb b (.inl hf)
 ·
  have FQ : b = b7 := hf
  exact hb.tb b (.inr (by omega))
 ·
  have FQ : b = b6 := hf
  exact hb.tb b (.inr (by omega))
 ·
  have FQ : b = w1.heap.size := hf
  exact hb.tb b (.inr (by omega))
end
theorem NB {C : Nat → Prop} {w : World} {bh bc c1 c2 c3 c4 : Nat} {bits n0 : Int} {kd dp : Nat} {lk lv B k : List UInt8} {sl s : Value} {ds : List (List UInt8)} (hC : ∀ b, C b → b < w.heap.size) (fA : aN w bc 213 ([.int .i64 n0])) (bT : aH (fun c_ => C c_ ∨ c_ = bc) (fO bh bc bits) w) (dJ : aH (fun c_ => C c_ ∨ c_ = bc) (fun w => dD w ⟨c1, 0, none⟩ (fU kd dp lk lv B sl)) w) (fQ : aH (fun c_ => C c_ ∨ c_ = bc) (fun w => dD w ⟨c2, 0, none⟩ [.pointer (some ⟨bh, 0, none⟩)]) w) (jW : aH (fun c_ => C c_ ∨ c_ = bc) (fun w => dD w ⟨c3, 0, none⟩ [s]) w) (nM : aH (fun c_ => C c_ ∨ c_ = bc) (fun w => dD w ⟨c4, 0, none⟩ (kc k)) w) (sK : aH (fun c_ => C c_ ∨ c_ = bc) (fE s ds) w) (DZ : aH (fun c_ => C c_ ∨ c_ = bc) (aZ) w) (bU : 0 ≤ bits ∧ bits ≤ 256) (mV : lk.length = 32) (hlv : lv.length = 32) (p4 : B.length = 32) (hsl : sl.oneCell' = true) (hk : k.length = 32) (uU : ∀ d ∈ ds, d.length = 32) (hlen : ds.length ≤ 256) : aIf prog 213 [] [.pointer (some ⟨c1, 0, none⟩), .pointer (some ⟨c2, 0, none⟩), .pointer (some ⟨c3, 0, none⟩), .pointer (some ⟨c4, 0, none⟩)] (ds.length + 1) (aIC (fI bits k ds (eB (cZ (eT kd lk lv)) bits))) bc 213 C w := by
 intro f J hst j9 iK hf
 show bC prog 213 ([f, .pointer (some ⟨c1, 0, none⟩), .pointer (some ⟨c2, 0, none⟩), .pointer (some ⟨c3, 0, none⟩), .pointer (some ⟨c4, 0, none⟩)] : List Value).toArray w _
 refine bC.aI (N := 45) func213 rfl rfl (by simp) ?_
 have H := (((((((St.dK (X := C) (b := bc) (t := 213) (l := [.int .i64 n0]) hC fA).add (cC DZ)).add (cC sK)).add (cC nM)).add (cC jW)).add (cC fQ)).add (cC dJ)).add (cC bT)
 have wE : (fU kd dp lk lv B sl).length = 99 := gQ mV hlv p4
 have hfo := AJ.one hf
 refine WE.aA ?_
 refine WL.box (l := [f]) H rfl (cells_one hfo) rfl ?_
 intro b5 w1 H
 refine WL.nil (WE.aA ?_)
 refine WL.bE rfl nS rfl rfl (by exact H.p 1 rfl) (cI lE (by simp only [aS, aY, aB, aD]; omega)) ?_
 refine WL.call aGy rfl (OJ (kd := kd) (dp := dp) (lk := lk) (lv := lv) (B := B) (sl := sl) H.aR mV hlv p4 hsl) ?_
 rintro v12 w2 ⟨hO, hR⟩
 have aCG := cO.fW (hR.here)
 replace H := (H.out hO).add hR
 refine WL.alloc H rfl aD1 rfl ?_
 intro b6 w3 H
 refine WL.aW H 0 rfl rfl rfl (new := [v12]) (cells_one aCG) (by exact B9) (eF aCG) (Laid.at (Laid.all (by simp only [aS, aY, aB, aD])) rfl) rfl ?_
 intro w4 H
 refine WL.nil (WE.aA ?_)
 refine WL.aX rfl wK rfl rfl (by exact H.p 3 rfl) ?_
 refine WL.aX rfl eH rfl rfl (aN.aF (H.l 0 rfl) (aK.all _) rfl) ?_
 refine WL.call JR rfl (sJ (la := eT kd lk lv) (bits := bits) H.aR (H.o 0 rfl) (by exact (H.aO 0 rfl 1 rfl : aH _ (fO bh bc bits) _)) (by exact (H.aO 0 rfl 0 rfl : aH _ (bL v12 (eT kd lk lv)) _)) (by exact (H.aO 0 rfl 7 rfl : aH _ (aZ) _)) bU (by unfold eT; split <;> simp [mV, hlv])) ?_
 rintro _ w5 ⟨rfl, hO, hB⟩
 replace H := H.eZ 0 rfl hO hB
 refine WL.alloc H rfl lB rfl ?_
 intro b7 w6 H
 refine WL.aW H 0 rfl rfl rfl (new := kc (eB (cZ (eT kd lk lv)) bits)) rfl (by exact dH) (bH _) (Laid.at (Laid.all (by simp only [aS, aY, aB, aD])) rfl) rfl ?_
 intro w7 H
 refine WL.nil (WE.seq (WE.aA ?_))
 refine WL.aX rfl vF rfl rfl (by exact H.p 4 rfl) ?_
 refine WL.call aGx rfl (HJ (s := s) (ds := ds) H.aR (by exact (H.bJ 6 rfl : aH _ (fE s ds) _))) ?_
 rintro _ w8 ⟨aHP, rfl, hO, hR⟩
 replace H := (H.out hO).add hR
 refine WL.nil (WE.block ?_)
 replace H := H.freeze (i := 2) rfl
 have H1 : St C w w8 [aP.blk bc 213 [.int .i64 (IntKind.i64.wrap (n0 + 1))]] [aP.blk b7 30 (kc (eB (cZ (eT kd lk lv)) bits)), aP.blk b6 41 [v12]] _ := H
 have N8 := uC H1
 have aF8 := H1.size
 have aF2 := mH H1
 have aFt := H1.kI _ (List.mem_of_getElem? (i := 0) rfl) b7 rfl
 have aFu := H1.kI _ (List.mem_of_getElem? (i := 1) rfl) b6 rfl
 refine WE.aCn (C := (CW C bc b6 b7)) (fun i W => ∃ T, rO C w w8 bc b6 b7 J (fI bits k ds (eB (cZ (eT kd lk lv)) bits)) T i W) rfl aGu (fun b hb => H1.aR b (aF2 b hb)) (fun W0 hO => O7 (b1 := aHP) (s := s) (ds := ds) (XH H1 hO) (by exact KZ H1 hO 1 rfl) (by exact KZ H1 hO 8 rfl) uU (by omega)) (fun i xs W h => by obtain ⟨_, rfl⟩ := h; rfl) (fun W1 hO hsz hd => NC H1 hst hO hsz hd aCG rfl) (fun i W W2 hS ho => by obtain ⟨T, h⟩ := hS; exact ⟨T, h.step j9 N8 aF8 ho (fun _ h => h) (fun _ h => .inl h)⟩) ?_ ?_
 ·
  intro i xs_ Wa_ jM aJI OE aKT
  obtain ⟨Ta_, hWa⟩ := aJI
  obtain ⟨aCN, rfl⟩ := OE
  have hkx : ds[ds.length - 1 - i].length = 32 := uU _ (List.getElem_mem aCN)
  have hbl : ((fI bits k ds (eB (cZ (eT kd lk lv)) bits)) i).length = 32 := oO (cB _ _) i
  have hb2 := eA k (ds.length - 1 - i)
  have hp0 : (PX (bI k (ds.length - 1 - i)) ds[ds.length - 1 - i] ((fI bits k ds (eB (cZ (eT kd lk lv)) bits)) i)).length = 32 := X9 hkx hbl
  have hp1 : (PW (bI k (ds.length - 1 - i)) ds[ds.length - 1 - i] ((fI bits k ds (eB (cZ (eT kd lk lv)) bits)) i)).length = 32 := X8 hkx hbl
  have aKW := hWa.sz
  have H := St.IJ H1 hWa.I2 aF2 [] (fun _ h => by cases h) .nil (fun _ h => by cases h)
  refine WE.aA (WL.as rfl rfl (WL.nil (WE.dW ?_)))
  refine WL.alloc H rfl lB rfl ?_
  intro b9 w9 H
  refine WL.aW H 0 rfl rfl rfl (new := kc ds[ds.length - 1 - i]) rfl (cI dH (by simp only [aS, aY, aB, aD]; omega)) (bH _) (Laid.at (Laid.all (by simp only [aS, aY, aB, aD]; omega)) rfl) rfl ?_
  intro tX H
  refine WL.nil ?_
  have aFY := H.aL
  have aF5 : aN tX b9 30 (kc ds[ds.length - 1 - i]) := H.l 0 rfl
  have aFr := H.kI _ (List.mem_of_getElem? (i := 0) rfl) b9 rfl
  have aBj := aF5.lt
  refine ⟨rfl, rfl, aFY, ?_⟩
  intro Wb aCK
  have tZ := hWa.step (T' := fun b => Ta_ b ∨ b = b9) j9 N8 aF8 ((aFY.mono fun _ _ h => h.elim).trans aCK) (fun _ h => .inl h) (fun b h => h.imp id fun e => by subst e; exact ⟨aFr, Nat.lt_of_lt_of_le aBj aCK.size⟩)
  have hB9 : aN Wb b9 30 (kc ds[ds.length - 1 - i]) := aF5.of_eq (aCK.block _ aBj (fun h => by have h_ : b9 = w8.heap.size + 1 := h; omega))
  obtain ⟨mb_, aF4⟩ := tZ.c
  obtain ⟨sb_, aLu, aF6⟩ := tZ.s
  have aKV := tZ.sz
  replace H := EB (Wl := Wb) H1 tZ.I2 aF4 tZ.e aF6 ⟨by omega, rfl⟩ tZ.d hB9 (by omega)
  refine WE.block (WE.seq (WE.aA ?_))
  refine WL.aX rfl aBO rfl rfl (by exact (show aN _ b5 _ [f] from H.p 0 rfl).rd) ?_
  refine WL.aX rfl eH rfl rfl (aN.aF (H.o 2 rfl) (aK.all _) rfl) ?_
  refine WL.bE rfl fS rfl rfl (aN.aF (H.o 1 rfl) (aK.all _) rfl) (cI dH (by simp only [aS, aY, aB, aD]; omega)) ?_
  refine WL.iZ rfl rfl (iK _ i _ Wb Wb (by omega) tZ.j (Out.refl _ _) (aH.pure ⟨sb_, rfl⟩)) ?_
  rintro _ Wk_ ⟨N9, rfl, aC1⟩
  have ZM := tZ.kept H1 N9
  replace H := EB (W := Wk_) (Wl := Wb) H1 ZM (aF4.of_eq (N9.blk bc (tZ.tb _ (.inl rfl))).2) (tZ.e.of_eq (N9.blk b7 (tZ.tb _ (.inr ⟨aFt, by omega⟩))).2) (aF6.of_eq (N9.blk b6 (tZ.tb _ (.inr ⟨aFu, by omega⟩))).2) (N9.blk _ (tZ.tb _ (.inr ⟨by omega, by omega⟩))) ((N9.blk _ (tZ.tb _ (.inr ⟨by omega, by omega⟩))).2.trans tZ.d) (hB9.of_eq (N9.blk b9 (.inr rfl)).2) (by omega)
  refine WL.pv (PV.not rfl rfl) rfl (WL.nil ?_)
  refine WE.bD rfl rfl ?_
  refine WE.skip (WE.aA ?_)
  refine WL.bE rfl fS rfl rfl (aN.aF (H.o 5 rfl) (aK.all _) rfl) (cI dH (by simp only [aS, aY, aB, aD]; omega)) ?_
  refine WL.bE rfl fS rfl rfl (aN.aF (H.o 5 rfl) (aK.all _) rfl) (cI dH (by simp only [aS, aY, aB, aD]; omega)) ?_
  refine WL.pv (PV.lY rfl zA dH QA (Fl.cons rfl rfl (by simp only [aS, aY, aB, aD]; omega) (Laid.left (Laid.all (by simp only [aS, aY, aB, aD]; omega))) (Fl.cons rfl rfl (by simp only [aS, aY, aB, aD]; omega) (Laid.right (Laid.all (by simp only [aS, aY, aB, aD]; omega)) (by simp only [aS, aY, aB, aD]; omega)) Fl.nil))) rfl ?_
  refine WL.alloc H rfl QA rfl ?_
  intro vB ND H
  refine WL.aW H 0 rfl rfl rfl (new := kc ds[ds.length - 1 - i] ++ kc ds[ds.length - 1 - i]) rfl (cI aEm (by simp only [aS, aY, aB, aD]; omega)) (by exact bN (bH _) (bH _)) (Laid.at (Laid.all (by simp only [aS, aY, aB, aD]; omega)) rfl) rfl ?_
  intro QL H
  refine WL.nil ?_
  refine WE.bG (.take 0 (.take 1 (.take 3 (.aG 2 (.take 4 (.aG 5 .done)))))) mixed (by kernel_rfl) ?_
  replace H := H.out (Out.drew _)
  refine WP.dO rfl rfl rfl c7 rfl (by exact H.p 7 rfl) (cI cM (by simp only [aS, aY, aB, aD]; omega)) ?_
  refine WP.mv rfl rfl rfl ?_
  refine WP.dO rfl rfl rfl fS rfl (aN.aF (H.o 1 rfl) (aK.all _) rfl) (cI dH (by simp only [aS, aY, aB, aD]; omega)) ?_
  refine WP.aG rfl ?_
  refine WL.call F4 rfl (j7 (k := k) (d := ds.length - 1 - i) H.aR  (by assumption) (by omega)) ?_
  rintro _ QK ⟨rfl, hO⟩
  replace H := H.out hO
  refine WL.nil ⟨(fa (rk hO) (fa (nw 2 0) c8)), ?_⟩
  refine WP.aC rfl rfl (PV.eq (v' := .pointer (some ⟨vB, (bI k (ds.length - 1 - i)) * 32, none⟩)) (PV.bF rfl zA dH rfl rfl (by omega) (by omega)) (by simp)) ?_
  refine WP.aG rfl ?_
  refine WL.aW H 0 rfl rfl rfl (new := _) rfl (cI dH (by simp only [aS, aY, aB, aD]; omega)) (bH _) (X7 hb2 hkx hbl) rfl ?_
  intro QJ H
  refine WL.nil ⟨(fa (nw 5 3) (fa (nw 5 0) c8)), ?_⟩
  refine WP.done (WE.aA (WL.pv (PV.bF rfl zA dH rfl rfl (by omega) (by omega)) rfl ?_))
  refine WL.bE rfl fS rfl rfl (aN.aF (H.l 0 rfl) (aK.l (aK.all _)) rfl) (cI dH (by simp only [aS, aY, aB, aD]; omega)) ?_
  refine WL.pv (PV.bF rfl zA dH rfl rfl (by omega) (by omega)) rfl ?_
  refine WL.bE rfl fS rfl rfl (aN.aF (H.l 0 rfl) (aK.r (aK.all _) rfl) (by simp [aJ, aQ, *])) (cI dH (by simp only [aS, aY, aB, aD]; omega)) ?_
  refine WL.call aBv rfl (V7 (k := (PX (bI k (ds.length - 1 - i)) ds[ds.length - 1 - i] ((fI bits k ds (eB (cZ (eT kd lk lv)) bits)) i))) (l := (PW (bI k (ds.length - 1 - i)) ds[ds.length - 1 - i] ((fI bits k ds (eB (cZ (eT kd lk lv)) bits)) i))) H.aR hp0 hp1) ?_
  rintro v37 w19 ⟨hO, hR⟩
  have aCF := cO.fW (hR.here)
  replace H := (H.out hO).add hR
  refine WL.lQ H 2 rfl rfl rfl (new := [v37]) (cells_one aCF) (by exact B9) (eF aCF) (Laid.at (Laid.all (by simp only [aS, aY, aB, aD])) rfl) rfl ?_
  intro w20 H
  refine WL.nil (WE.dW ?_)
  refine WL.aX rfl wK rfl rfl (by exact H.p 6 rfl) ?_
  refine WL.aX rfl eH rfl rfl (aN.aF (H.o 2 rfl) (aK.all _) rfl) ?_
  refine WL.call JR rfl (sJ (la := 1 :: ((PX (bI k (ds.length - 1 - i)) ds[ds.length - 1 - i] ((fI bits k ds (eB (cZ (eT kd lk lv)) bits)) i)) ++ (PW (bI k (ds.length - 1 - i)) ds[ds.length - 1 - i] ((fI bits k ds (eB (cZ (eT kd lk lv)) bits)) i)))) (bits := bits) H.aR (H.o 0 rfl) (by exact (H.aO 0 rfl 4 rfl : aH _ (fO bh bc bits) _)) (by exact (H.aO 0 rfl 0 rfl : aH _ (bL v37 (1 :: ((PX (bI k (ds.length - 1 - i)) ds[ds.length - 1 - i] ((fI bits k ds (eB (cZ (eT kd lk lv)) bits)) i)) ++ (PW (bI k (ds.length - 1 - i)) ds[ds.length - 1 - i] ((fI bits k ds (eB (cZ (eT kd lk lv)) bits)) i))))) _)) (by exact (H.aO 0 rfl 10 rfl : aH _ (aZ) _)) bU (by simp; omega)) ?_
  rintro _ w21 ⟨rfl, hO, hB⟩
  replace H := H.eZ 0 rfl hO hB
  refine WL.lQ H 1 rfl rfl rfl (new := kc (eB (cZ (1 :: ((PX (bI k (ds.length - 1 - i)) ds[ds.length - 1 - i] ((fI bits k ds (eB (cZ (eT kd lk lv)) bits)) i)) ++ (PW (bI k (ds.length - 1 - i)) ds[ds.length - 1 - i] ((fI bits k ds (eB (cZ (eT kd lk lv)) bits)) i))))) bits)) rfl (by exact dH) (bH _) (Laid.at (Laid.all (by simp only [aS, aY, aB, aD]; omega)) rfl) rfl ?_
  intro w22 H
  refine WL.nil ?_
  exact XG H1 tZ ZM j9 aC1 H aCF (.inr rfl) (by omega) (by show vO bits (PX (bI k (ds.length - 1 - i)) ds[ds.length - 1 - i] ((fI bits k ds (eB (cZ (eT kd lk lv)) bits)) i)) (PW (bI k (ds.length - 1 - i)) ds[ds.length - 1 - i] ((fI bits k ds (eB (cZ (eT kd lk lv)) bits)) i)) = sO bits k (ds.length - 1 - i) (ds.getD (ds.length - 1 - i) []) ((fI bits k ds (eB (cZ (eT kd lk lv)) bits)) i); rw [XU, fD aCN])
 ·
  intro w23 hS_
  obtain ⟨Tz_, r5⟩ := hS_
  obtain ⟨mz_, aF3⟩ := r5.c
  obtain ⟨sz_, aLq, aBr⟩ := r5.s
  have aKU := r5.sz
  have aLK : ((fI bits k ds (eB (cZ (eT kd lk lv)) bits)) ds.length).length = 32 := oO (cB _ _) _
  replace H := AN H1 r5.I2 aF3 r5.e aBr r5.d
  refine WE.dW ?_
  refine WL.aX rfl aBO rfl rfl (by exact (show aN _ b5 _ [f] from H.p 0 rfl).rd) ?_
  refine WL.aX rfl eH rfl rfl (aN.aF (H.o 2 rfl) (aK.all _) rfl) ?_
  refine WL.bE rfl fS rfl rfl (aN.aF (H.o 1 rfl) (aK.all _) rfl) (cI dH (by simp only [aS, aY, aB, aD]; omega)) ?_
  refine WL.iZ rfl rfl (iK _ ds.length _ _ _ (by omega) r5.j (Out.refl _ _) (aH.pure ⟨sz_, rfl⟩)) ?_
  rintro _ Wk_ ⟨N9, rfl, aC1⟩
  have ZM := r5.kept H1 N9
  replace H := AN (W := Wk_) H1 ZM (aF3.of_eq (N9.blk bc (r5.tb _ (.inl rfl))).2) (r5.e.of_eq (N9.blk b7 (r5.tb _ (.inr ⟨aFt, by omega⟩))).2) (aBr.of_eq (N9.blk b6 (r5.tb _ (.inr ⟨aFu, by omega⟩))).2) ((N9.blk _ (r5.tb _ (.inr ⟨by omega, by omega⟩))).2.trans r5.d)
  refine WL.nil ?_
  (obtain ⟨w28, uT, H⟩ := H.XM 3 rfl)
  refine ⟨[], _, (uT _ (.nil _)), trivial, ?_⟩
  exact ⟨rfl, ⟨_, H.o 0 rfl⟩, Tz_, j9 Tz_ Tz_ _ _ _ aC1 (XF H1 r5 H) (fun _ h => h) (fun _ h => .inl h)⟩
def aEc (c1 c2 c3 c4 : Nat) : Value := .func (.func 213) [].toArray [.pointer (some ⟨c1, 0, none⟩), .pointer (some ⟨c2, 0, none⟩), .pointer (some ⟨c3, 0, none⟩), .pointer (some ⟨c4, 0, none⟩)].toArray
theorem aB2 {X : Nat → Prop} {w : World} {bh : Nat} {kd dp : Nat} {lk lv B k : List UInt8} {sl s : Value} (hX : c6 X w) (mV : lk.length = 32) (hlv : lv.length = 32) (p4 : B.length = 32) (hsl : sl.oneCell' = true) (hs : s.oneCell' = true) (hk : k.length = 32) :
  bC prog 208 [.pointer (some ⟨bh, 0, none⟩), .agg (fU kd dp lk lv B sl).toArray, s, .agg (kc k).toArray].toArray w fun v w' => ∃ c1 c2 c3 c4, v = aEc c1 c2 c3 c4 ∧ Out Nil w w' ∧ aH X (fun w => dD w ⟨c1, 0, none⟩ (fU kd dp lk lv B sl)) w' ∧ aH X (fun w => dD w ⟨c2, 0, none⟩ [.pointer (some ⟨bh, 0, none⟩)]) w' ∧ aH X (fun w => dD w ⟨c3, 0, none⟩ [s]) w' ∧ aH X (fun w => dD w ⟨c4, 0, none⟩ (kc k)) w' := by
 refine bC.aI (N := 10) func208 rfl rfl (by simp) ?_
 have H := St.begin hX
 refine WE.aA ?_
 refine WL.box (l := [.pointer (some ⟨bh, 0, none⟩)]) H rfl (rfl) rfl ?_
 intro b4 w1 H
 refine WL.box (l := fU kd dp lk lv B sl) H rfl rfl rfl ?_
 intro b5 w2 H
 refine WL.box (l := [s]) H rfl (cells_one hs) rfl ?_
 intro b6 w3 H
 refine WL.box (l := kc k) H rfl rfl rfl ?_
 intro b7 w4 H
 refine WL.as rfl rfl (WL.nil (WE.aA (WL.pv (PV.makeFunc rfl) rfl (WL.as rfl rfl (WL.nil (WE.ret ⟨[_], _, .nil _, ⟨rfl, trivial⟩, ?_⟩))))))
 replace H := H.freeze (i := 0) rfl
 replace H := H.freeze (i := 0) rfl
 replace H := H.freeze (i := 0) rfl
 replace H := H.freeze (i := 0) rfl
 exact ⟨_, _, _, _, rfl, H.aL, (H.fX (H.bJ 1 rfl)).imp fun _ h => h.rd, (H.fX (H.bJ 0 rfl)).imp fun _ h => h.rd, (H.fX (H.bJ 2 rfl)).imp fun _ h => h.rd, (H.fX (H.bJ 3 rfl)).imp fun _ h => h.rd⟩
theorem aAq {X : Nat → Prop} {w : World} {bh bc : Nat} {bits n0 : Int} {kd dp : Nat} {lk lv B k : List UInt8} {sl : Value} {sb : List (List UInt8)} (hX : c6 X w) (fA : aN w bc 213 ([.int .i64 n0])) (bT : aH (fun c_ => X c_ ∨ c_ = bc) (fO bh bc bits) w) (dJ : aH (fun c_ => X c_ ∨ c_ = bc) (fE sl sb) w) (fQ : aH (fun c_ => X c_ ∨ c_ = bc) (aZ) w) (bU : 0 ≤ bits ∧ bits ≤ 256) (hp : jG kd dp lk lv B sb) (hk : k.length = 32) :
  bC prog 196 [.pointer (some ⟨bh, 0, none⟩), .agg (fU kd dp lk lv B sl).toArray, .agg (kc k).toArray].toArray w fun v w' => ∃ (m : Int) (s : Value), v = .tuple [s, .int .i64 0].toArray ∧ Out (· = bc) w w' ∧ aN w' bc 213 [.int .i64 m] ∧ aH (fun c => X c ∨ c = bc) (fE s ((List.range (dp + 1)).map (fI bits k (gI bits dp B sb) (eB (cZ (eT kd lk lv)) bits)))) w' := by
 refine bC.aI (N := 34) func196 rfl rfl (by simp) ?_
 have H := (((St.dK (b := bc) (t := 213) (l := [.int .i64 n0]) hX fA).add (cC fQ)).add (cC dJ)).add (cC bT)
 have wS := hp.kd
 have D0 := hp.OP
 have mV := hp.uQ
 have hlv := hp.lvl
 have p4 := hp.bl
 have pY := hp.P6
 have wE : (fU kd dp lk lv B sl).length = 99 := gQ hp.uQ hp.lvl hp.bl
 have hs1 : sl.oneCell' = true := cO.fW (dJ.here)
 have TC := tP bits dp B sb
 have hdk := yT (bits := bits) (dp := dp) (B := B) hp.sl
 refine WE.aA ?_
 refine WL.box (l := fU kd dp lk lv B sl) H rfl (by rfl) rfl ?_
 intro b4 w1 H
 refine WL.box (l := kc k) H rfl (by rfl) rfl ?_
 intro b5 w2 H
 refine WL.as rfl rfl (WL.as rfl rfl (WL.nil (WE.aA (WL.mv rfl rfl ?_))))
 refine WL.bE rfl nS rfl rfl (by exact aN.aF (H.l 1 rfl) (aK.all _) (by rfl)) (cI lE (by simp only [aS, aY, aB, aD]; omega)) ?_
 refine WL.call aGE rfl (WM (kd := kd) (dp := dp) (lk := lk) (lv := lv) (B := B) (sl := sl) (sb := sb) (bits := bits) H.aR (H.o 0 rfl) (by exact (H.aO 0 rfl 0 rfl : aH _ (fO bh bc bits) _)) (by exact (H.aO 0 rfl 1 rfl : aH _ (fE sl sb) _)) (by exact (H.aO 0 rfl 2 rfl : aH _ (aZ) _)) bU hp) ?_
 rintro _ w3 ⟨m16, NI, rfl, hO, hB, hR⟩
 have aKX := cO.fW (hR.here)
 replace H := H.dP 0 rfl hO hB hR
 refine WL.mv rfl rfl (WL.pv (PV.extract rfl rfl rfl) rfl (WL.pv (PV.extract rfl rfl rfl) rfl (WL.as rfl rfl (WL.as rfl rfl (WL.nil (WE.seq (WE.aA ?_)))))))
 refine WL.mv rfl rfl (WL.pv (PV.neq rfl rfl rfl) rfl (WL.nil ?_))
 refine WE.bD rfl rfl ?_
 refine WE.skip (WE.aA ?_)
 refine WL.alloc H rfl aIx rfl ?_
 intro vB w4 H
 replace H := H.kU 30 32
 refine WL.nil (WE.seq (WE.aA (WL.mv rfl rfl ?_)))
 refine WL.bE rfl nS rfl rfl (by exact aN.aF (H.l 3 rfl) (aK.all _) (by rfl)) (cI lE (by simp only [aS, aY, aB, aD]; omega)) ?_
 refine WL.mv rfl rfl ?_
 refine WL.bE rfl c7 rfl rfl (by exact aN.aF (H.l 2 rfl) (aK.all _) (by rfl)) (cI cM (by simp only [aS, aY, aB, aD]; omega)) ?_
 refine WL.call aGD rfl (aB2 (kd := kd) (dp := dp) (lk := lk) (lv := lv) (B := B) (k := k) (sl := sl) (s := NI) H.aR  (by assumption) (by assumption) (by assumption) (by assumption) (by assumption) (by assumption)) ?_
 rintro _ w5 ⟨c1_, c2_, c3_, c4_, rfl, hO, LY, HU, hR3, hR4⟩
 replace H := ((((H.out hO).add hR4).add hR3).add HU).add LY
 refine WL.nil (WE.block ?_)
 replace H := (show St X w w5 [aP.blk bc 213 [.int .i64 m16]] [aP.gZ w.heap.size (.slice none 0 0) 30 32 (0) (((List.range (0)).map (fI bits k (gI bits dp B sb) (eB (cZ (eT kd lk lv)) bits))).flatMap kc), aP.blk vB 33 [(.slice none 0 0)], aP.blk b5 24 (kc k), aP.blk b4 35 (fU kd dp lk lv B sl)] [fun w => dD w ⟨c1_, 0, none⟩ (fU kd dp lk lv B sl), fun w => dD w ⟨c2_, 0, none⟩ [.pointer (some ⟨bh, 0, none⟩)], fun w => dD w ⟨c3_, 0, none⟩ [NI], fun w => dD w ⟨c4_, 0, none⟩ (kc k), fE NI (gI bits dp B sb), fO bh bc bits, fE sl sb, aZ] from H)
 refine WE.aCm (α := Value) (fun i vv => True) (fun i vv => []) (fun i vv => [aP.gZ w.heap.size vv 30 32 (i) (((List.range (i)).map (fI bits k (gI bits dp B sb) (eB (cZ (eT kd lk lv)) bits))).flatMap kc), aP.blk vB 33 [vv], aP.blk b5 24 (kc k), aP.blk b4 35 (fU kd dp lk lv B sl)]) (fun i vv => [fun w => dD w ⟨c1_, 0, none⟩ (fU kd dp lk lv B sl), fun w => dD w ⟨c2_, 0, none⟩ [.pointer (some ⟨bh, 0, none⟩)], fun w => dD w ⟨c3_, 0, none⟩ [NI], fun w => dD w ⟨c4_, 0, none⟩ (kc k), fE NI (gI bits dp B sb), fO bh bc bits, fE sl sb, aZ]) (.slice none 0 0) H rfl aGz (fun W0 hO => NB (ds := (gI bits dp B sb)) (s := NI) (bits := bits) (kd := kd) (dp := dp) (lk := lk) (lv := lv) (B := B) (k := k) (sl := sl) (H.aHL hO) ((H.o 0 (e := aP.blk bc 213 [.int .i64 m16]) rfl).of_eq (hO.block _ (H.o 0 (e := aP.blk bc 213 [.int .i64 m16]) rfl).lt id)) (H.sC hO 5 rfl) (H.sC hO 0 rfl) (H.sC hO 1 rfl) (H.sC hO 2 rfl) (H.sC hO 3 rfl) (H.sC hO 4 rfl) (H.sC hO 7 rfl) bU mV hlv p4 hs1 hk hdk (by omega)) (fun i xs W h => by obtain ⟨_, rfl⟩ := h; rfl) ⟨trivial, rfl, rfl, rfl⟩ ?_ ?_
 ·
  intro i vv xs_ l_ d_ oo_ o_ T_ sc_ w6 jM tK OE H
  obtain ⟨sx_, rfl⟩ := OE
  have hbl : ((fI bits k (gI bits dp B sb) (eB (cZ (eT kd lk lv)) bits)) i).length = 32 := oO (cB _ _) i
  refine WE.dW ?_
  refine WL.alloc H rfl lB rfl ?_
  intro b12 w7 H
  refine WL.aW H 0 rfl rfl rfl (new := kc ((fI bits k (gI bits dp B sb) (eB (cZ (eT kd lk lv)) bits)) i)) rfl (cI dH (by simp only [aS, aY, aB, aD]; omega)) (by exact bH _) (Laid.at (Laid.all (by simp only [aS, aY, aB, aD]; omega)) (by rfl)) rfl ?_
  intro w8 H
  refine WL.nil ?_
  refine ⟨rfl, rfl, _, [aP.blk b12 30 (kc ((fI bits k (gI bits dp B sb) (eB (cZ (eT kd lk lv)) bits)) i)), aP.gZ w.heap.size vv 30 32 (i) (((List.range (i)).map (fI bits k (gI bits dp B sb) (eB (cZ (eT kd lk lv)) bits))).flatMap kc), aP.blk vB 33 [vv], aP.blk b5 24 (kc k), aP.blk b4 35 (fU kd dp lk lv B sl)], _, H, ?_⟩
  intro w9 H
  refine WE.block (WE.dW ?_)
  refine WL.aX rfl vF rfl rfl (by exact aN.aF (H.l 2 rfl) (aK.all _) (by rfl)) ?_
  refine WL.bE rfl fS rfl rfl (by exact aN.aF (H.l 0 rfl) (aK.all _) (by rfl)) (cI dH (by simp only [aS, aY, aB, aD]; omega)) ?_
  refine WL.bA (l0 := (kc (List.replicate 32 0))) H rfl EI (by decide) (by rfl) (Fl.cons rfl (by rfl) (by simp only [aS, aY, aB, aD]; omega) (Laid.all (by simp only [aS, aY, aB, aD]; omega)) Fl.nil) rfl ?_
  intro b31 tX H
  refine WL.append (m := 1) H 2 EI (by decide) rfl rfl rfl (cO.cA (n := 1) (H.l 0 rfl) (by rw [aJ, hbl]; simp [aJ])) (bH _) (by omega) (by decide) rfl ?_
  intro v32 xG H
  replace H := H.forget 0
  have aE6 := jI (H.l 1 rfl)
  refine WL.aW H 2 rfl rfl rfl (new := [v32]) (cells_one aE6) (by exact aCb) (eF aE6) (Laid.at (Laid.all (by simp only [aS, aY, aB, aD])) (by rfl)) rfl ?_
  intro HL H
  refine WL.nil ?_
  replace H := H.forget 0
  replace H := H.conv (L' := [aP.gZ w.heap.size v32 30 32 (i + 1) (((List.range (i + 1)).map (fI bits k (gI bits dp B sb) (eB (cZ (eT kd lk lv)) bits))).flatMap kc), aP.blk vB 33 [v32], aP.blk b5 24 (kc k), aP.blk b4 35 (fU kd dp lk lv B sl), aP.obj l_ o_, aP.obj d_ (.deferred (some [])), aP.sn T_ w9]) (by rw [List.range_succ, List.map_append, List.flatMap_append]; simp only [List.map_cons, List.map_nil, List.flatMap_cons, List.flatMap_nil, List.append_nil]; rfl)
  replace H := H.drop (fun p hp => List.mem_cons_of_mem _ hp)
  exact ⟨v32, trivial, H⟩
 ·
  intro vv US DW mc_ tK H
  refine WE.aA ?_
  refine WL.aX rfl vF rfl rfl (by exact aN.aF (H.l 2 rfl) (aK.all _) (by rfl)) ?_
  refine WL.as rfl rfl (WL.as rfl rfl (WL.nil (WE.ret ?_)))
  (obtain ⟨H9, uT, H⟩ := H.uE 0 rfl)
  refine ⟨[_, _], _, (uT _ (.nil _)), ⟨rfl, rfl, trivial⟩, ?_⟩
  rw [TC] at H
  replace H := H.freeze (i := 0) rfl
  refine ⟨_, vv, rfl, H.cT, H.o 0 rfl, (H.gA (H.bJ 0 rfl)).imp fun _ h => ?_⟩
  have h_ := cO.dM h
  unfold fE; rw [List.length_map, List.length_range]; exact h_
theorem DT {X : Nat → Prop} {w : World} {bh bc : Nat} {bits n0 : Int} {kd dp : Nat} {lk lv B k : List UInt8} {sl : Value} {sb : List (List UInt8)} (hX : c6 X w) (fA : aN w bc 213 ([.int .i64 n0])) (bT : aH (fun c_ => X c_ ∨ c_ = bc) (fO bh bc bits) w) (dJ : aH (fun c_ => X c_ ∨ c_ = bc) (fE sl sb) w) (fQ : aH (fun c_ => X c_ ∨ c_ = bc) (aZ) w) (bU : 0 ≤ bits ∧ bits ≤ 256) (hp : jG kd dp lk lv B sb) (hk : k.length = 32) :
  bC prog 170 [.pointer (some ⟨bh, 0, none⟩), .agg (fU kd dp lk lv B sl).toArray, .agg (kc k).toArray].toArray w fun v w' => ∃ (m : Int), v = .tuple [.agg (kc (fI bits k (gI bits dp B sb) (eB (cZ (eT kd lk lv)) bits) dp)).toArray, .int .i64 0].toArray ∧ Out (· = bc) w w' ∧ aN w' bc 213 [.int .i64 m] := by
 refine bC.aI (N := 27) func170 rfl rfl (by simp) ?_
 have H := (((St.dK (b := bc) (t := 213) (l := [.int .i64 n0]) hX fA).add (cC fQ)).add (cC dJ)).add (cC bT)
 have wS := hp.kd
 have D0 := hp.OP
 have mV := hp.uQ
 have hlv := hp.lvl
 have p4 := hp.bl
 have pY := hp.P6
 have wE : (fU kd dp lk lv B sl).length = 99 := gQ hp.uQ hp.lvl hp.bl
 have hs1 : sl.oneCell' = true := cO.fW (dJ.here)
 have TC := tP bits dp B sb
 have hdk := yT (bits := bits) (dp := dp) (B := B) hp.sl
 have hrl : (fI bits k (gI bits dp B sb) (eB (cZ (eT kd lk lv)) bits) dp).length = 32 := oO (cB _ _) _
 refine WE.aA ?_
 refine WL.box (l := fU kd dp lk lv B sl) H rfl rfl rfl ?_
 intro b4 w1 H
 refine WL.box (l := kc k) H rfl rfl rfl ?_
 intro b5 w2 H
 refine WL.alloc H rfl lB rfl ?_
 intro b6 w3 H
 refine WL.as rfl rfl (WL.nil (WE.aA (WL.mv rfl rfl ?_)))
 refine WL.bE rfl nS rfl rfl (aN.aF (H.l 2 rfl) (aK.all _) rfl) (cI lE (by simp only [aS, aY, aB, aD]; omega)) ?_
 refine WL.bE rfl c7 rfl rfl (aN.aF (H.l 1 rfl) (aK.all _) rfl) (cI cM (by simp only [aS, aY, aB, aD]; omega)) ?_
 refine WL.call aGI rfl (aAq (kd := kd) (dp := dp) (lk := lk) (lv := lv) (B := B) (sl := sl) (sb := sb) (bits := bits) (k := k) H.aR (H.o 0 rfl) (by exact (H.aO 0 rfl 0 rfl : aH _ (fO bh bc bits) _)) (by exact (H.aO 0 rfl 1 rfl : aH _ (fE sl sb) _)) (by exact (H.aO 0 rfl 2 rfl : aH _ (aZ) _)) bU hp hk) ?_
 rintro _ w4 ⟨m14, aCc, rfl, hO, hB, hR⟩
 replace H := H.dP 0 rfl hO hB hR
 refine WL.mv rfl rfl (WL.pv (PV.extract rfl rfl rfl) rfl (WL.pv (PV.extract rfl rfl rfl) rfl (WL.as rfl rfl (WL.as rfl rfl (WL.nil (WE.seq (WE.aA ?_)))))))
 refine WL.mv rfl rfl (WL.pv (PV.neq rfl rfl rfl) rfl (WL.nil ?_))
 refine WE.bD rfl rfl ?_
 refine WE.skip (WE.aA (WL.mv rfl rfl (WL.mv rfl rfl ?_)))
 refine WL.pv (PV.eq (v' := .int .i64 ((dp + 1 : Nat) : Int)) (PV.dS (by exact (H.p 0 rfl : (fE aCc ((List.range (dp + 1)).map (fI bits k (gI bits dp B sb) (eB (cZ (eT kd lk lv)) bits)))) _)) oZ rfl) (by rw [List.length_map, List.length_range])) rfl ?_
 refine WL.pv (PV.eq (v' := .int .i64 ((dp : Nat) : Int)) (PV.gE rfl rfl rfl (by omega) (by omega)) (by (congr 1; omega))) rfl ?_
 refine WL.pv (PV.dX rfl (by exact (H.p 0 rfl : (fE aCc ((List.range (dp + 1)).map (fI bits k (gI bits dp B sb) (eB (cZ (eT kd lk lv)) bits)))) _)) oZ dH rfl rfl (by omega) (by rw [List.length_map, List.length_range]; omega)) rfl ?_
 refine WL.bE rfl fS rfl rfl ((by have h_ := fE.rd (by exact (H.p 0 rfl : (fE aCc ((List.range (dp + 1)).map (fI bits k (gI bits dp B sb) (eB (cZ (eT kd lk lv)) bits)))) _)) (fun x hx => by obtain ⟨j, _, rfl⟩ := List.mem_map.1 hx; exact oO (cB _ _) _) dp (by rw [List.length_map, List.length_range]; omega); rw [List.getElem_map, List.getElem_range] at h_; exact h_)) (cI dH (by simp only [aS, aY, aB, aD]; omega)) ?_
 refine WL.aW H 0 rfl rfl rfl (new := kc (fI bits k (gI bits dp B sb) (eB (cZ (eT kd lk lv)) bits) dp)) rfl (cI dH (by simp only [aS, aY, aB, aD]; omega)) (bH _) (Laid.at (Laid.all (by simp only [aS, aY, aB, aD]; omega)) rfl) rfl ?_
 intro w5 H
 refine WL.as rfl rfl (WL.nil (WE.ret ⟨[_, _], _, .nil _, ⟨⟨_, rfl, aU fS (aN.aF (H.l 0 rfl) (aK.all _) rfl) (cI dH (by simp only [aS, aY, aB, aD]; omega))⟩, rfl, trivial⟩, ?_⟩))
 exact ⟨_, rfl, H.cT, H.o 0 rfl⟩
theorem ZQ {bits : Int} {T : Tr} {k : List UInt8} : eB (cZ (eT (pK T k) (T.fin k).key ((T.fin k).vd bits))) bits = (T.fin k).er.nV bits := by
 have h2 : (T.fin k).er.kind ≠ 2 := Tr.q5 _ 0 T rfl
 unfold pK
 revert h2
 cases (T.fin k) with
 | nil => intro _; exact congrArg (fun x => eB (cZ x) bits) (show eT 0 _ _ = [3] from if_neg (by decide))
 | leaf a q v s => intro _; exact congrArg (fun x => eB (cZ x) bits) (show eT 1 _ _ = 0 :: (q ++ nI bits v) from if_pos rfl)
 | inner => intro h; exact absurd rfl h
theorem IW {bits : Int} {T : Tr} {k : List UInt8} (hd : T.dp k 0 ≤ 256) : fI bits k (gI bits (T.dp k 0) (pA T k (T.dp k 0)) (jB bits T k (T.dp k 0))) (eB (cZ (eT (pK T k) (T.fin k).key ((T.fin k).vd bits))) bits) (T.dp k 0) = T.er.nV bits := by
 have e1 : gI bits (T.dp k 0) (pA T k (T.dp k 0)) (jB bits T k (T.dp k 0)) = (List.range (T.dp k 0)).map fun d => (p6 T k d).er.nV bits := by
  unfold gI
  rw [x6 hd, UH]
 rw [e1, ZQ]
 have hl : ((List.range (T.dp k 0)).map fun d => (p6 T k d).er.nV bits).length = T.dp k 0 := by simp
 have h := U8 (bits := bits) (k := k) (ds := (List.range (T.dp k 0)).map fun d => (p6 T k d).er.nV bits) (e := (T.fin k).er.nV bits)
 rw [hl] at h
 rw [h]
 refine EE (T.dp k 0) (Nat.le_refl _) fun d hd => ?_
 rw [fD (by rw [hl]; exact hd), List.getElem_map, List.getElem_range]
def zF (kd dp : Nat) (lk lv k vd : List UInt8) (LD : Bool) : Prop :=
 (LD = true → kd = 1 ∧ lk = k ∧ lv = vd) ∧ (LD = false → kd = 1 → lk ≠ k ∧ dp ≤ fR lk k)
theorem _root_.Go.Sp.aEa : cN prog 168 = some ([.pointer none] ++ ([.slice none 0 0] ++ ([.slice none 0 0, .slice none 0 0, .bool false] ++ ([.slice none 0 0] ++ ([.int .i64 0] ++ ([.int .i64 0] ++ ((kc (List.replicate 32 0) ++ kc (List.replicate 32 0)) ++ (kc (List.replicate 32 0) ++ [.slice none 0 0])))))))) := by kernel_rfl
def JW (bh : Nat) (sr sk sv : Value) (pr : Bool) (se : Value) (pf : List Value) : List Value := [.pointer (some ⟨bh, 0, none⟩)] ++ ([sr] ++ ([sk, sv, .bool pr] ++ ([se] ++ pf)))
def XC : List Value := ([.int .i64 0] ++ ([.int .i64 0] ++ ((kc (List.replicate 32 0) ++ kc (List.replicate 32 0)) ++ (kc (List.replicate 32 0) ++ [.slice none 0 0]))))
theorem XB : XC.length = 99 := by rfl
theorem uB {X : Nat → Prop} {w : World} {c : Bool} {e : Int} (hX : c6 X w) :
  bC prog 122 [.bool c, .int .i64 e].toArray w fun v w' => v = .int .i64 (if c = true then e else 0) ∧ Out Nil w w' := by
 refine bC.aI (N := 7) func122 rfl rfl (by simp) ?_
 have H := St.begin hX
 refine WE.aA (WL.as rfl rfl (WL.nil (WE.seq (WE.aA (WL.mv rfl rfl (WL.nil ?_))))))
 refine WE.cond rfl (fun uW => ?_) (fun uW => ?_)
 ·
  try simp only [bP] at uW
  refine WE.aA (WL.mv rfl rfl (WL.as rfl rfl (WL.nil (WE.ret ⟨[_], _, .nil _, ⟨rfl, trivial⟩, ?_⟩))))
  refine ⟨?_, H.aL⟩
  rw [if_pos uW]
  rfl
 ·
  try simp only [bP] at uW
  refine WE.skip (WE.aA (WL.as rfl rfl (WL.nil (WE.ret ⟨[_], _, .nil _, ⟨rfl, trivial⟩, ?_⟩))))
  refine ⟨?_, H.aL⟩
  rw [if_neg (by simp [uW])]
  rfl
theorem aEw {X : Nat → Prop} {w : World} {bk bh : Nat} {sr sk sv se : Value} {pr : Bool} {pf : List Value} {rb : List UInt8} (hX : c6 X w) (bT : aH X (fun w => aN w bk 168 (JW bh sr sk sv pr se pf)) w) (dJ : aH X (bL sr rb) w) (hr : rb.length = 32) :
  bC prog 121 [.pointer (some ⟨bk, 0, none⟩)].toArray w fun v w' => v = .int .i64 0 ∧ Out Nil w w' := by
 refine bC.aI (N := 10) func121 rfl rfl (by simp) ?_
 have H := ((St.begin hX).add (cE dJ)).add (cE bT)
 refine WE.aA (WL.as rfl rfl (WL.nil (WE.aA (WL.mv rfl rfl (WL.pv (PV.nilCheck rfl rfl) rfl (WL.pv (PV.fieldAddr rfl wW rfl) rfl (WL.aX rfl eH rfl rfl (aN.aF (H.p 0 rfl) (aK.r (aK.l (aK.all _)) rfl) rfl) ?_)))))))
 refine WL.pv (PV.dS (by exact (H.p 1 rfl : (bL sr rb) _)) eN rfl) rfl ?_
 refine WL.pv (PV.neq rfl rfl rfl) rfl ?_
 refine WL.call BM rfl (uB (c := _) (e := 4) H.aR) ?_
 rintro _ w1 ⟨rfl, hO⟩
 replace H := H.out hO
 refine WL.as rfl rfl (WL.nil (WE.ret ⟨[_], _, .nil _, ⟨rfl, trivial⟩, ?_⟩))
 refine ⟨?_, H.aL⟩
 show Value.int .i64 _ = Value.int .i64 0
 congr 1
 simp [hr]
theorem aEu {X : Nat → Prop} {w : World} {bk bh : Nat} {sr sk sv se : Value} {pr : Bool} {pf : List Value} {k : List UInt8} (hX : c6 X w) (bT : aH X (fun w => aN w bk 168 (JW bh sr sk sv pr se pf)) w) (dJ : aH X (bL sk k) w) (hk : k.length = 32) :
  bC prog 123 [.pointer (some ⟨bk, 0, none⟩)].toArray w fun v w' => v = .int .i64 0 ∧ Out Nil w w' := by
 refine bC.aI (N := 11) func123 rfl rfl (by simp) ?_
 have H := ((St.begin hX).add (cE dJ)).add (cE bT)
 refine WE.aA (WL.as rfl rfl (WL.nil (WE.aA (WL.mv rfl rfl (WL.pv (PV.nilCheck rfl rfl) rfl (WL.pv (PV.fieldAddr rfl k7 rfl) rfl (WL.pv (PV.fieldAddr rfl DI rfl) rfl ?_)))))))
 refine WL.aX rfl eH rfl rfl (aN.aF (H.p 0 rfl) (aK.r (aK.r (aK.l aK.hd) rfl) rfl) rfl) ?_
 refine WL.pv (PV.dS (by exact (H.p 1 rfl : (bL sk k) _)) eN rfl) rfl ?_
 refine WL.pv (PV.neq rfl rfl rfl) rfl ?_
 refine WL.call BM rfl (uB (c := _) (e := 2) H.aR) ?_
 rintro _ w1 ⟨rfl, hO⟩
 replace H := H.out hO
 refine WL.as rfl rfl (WL.nil (WE.ret ⟨[_], _, .nil _, ⟨rfl, trivial⟩, ?_⟩))
 refine ⟨?_, H.aL⟩
 show Value.int .i64 _ = Value.int .i64 0
 congr 1
 simp [hk]
theorem aEt {X : Nat → Prop} {w : World} {bk bh : Nat} {sr sk sv se : Value} {pr : Bool} {pf : List Value} {vv : List UInt8} (hX : c6 X w) (bT : aH X (fun w => aN w bk 168 (JW bh sr sk sv pr se pf)) w) (dJ : aH X (bL sv vv) w) (hv : vv.length ≤ 65535) :
  bC prog 124 [.pointer (some ⟨bk, 0, none⟩)].toArray w fun v w' => v = .int .i64 0 ∧ Out Nil w w' := by
 refine bC.aI (N := 18) func124 rfl rfl (by simp) ?_
 have H := ((St.begin hX).add (cE dJ)).add (cE bT)
 refine WE.aA (WL.as rfl rfl (WL.nil (WE.aA (WL.mv rfl rfl (WL.pv (PV.nilCheck rfl rfl) rfl (WL.pv (PV.fieldAddr rfl k7 rfl) rfl (WL.pv (PV.fieldAddr rfl DH rfl) rfl ?_)))))))
 refine WL.aX rfl vE rfl rfl (aN.aF (H.p 0 rfl) (aK.r (aK.r (aK.l (aK.tl (aK.tl aK.hd rfl) rfl)) rfl) rfl) rfl) ?_
 refine WL.mv rfl rfl ?_
 refine WL.split (t := 8) rfl (fun FM => ?_) (fun FM => ?_)
 ·
  refine WL.known (t := 7) (c := true) rfl FM ?_
  try simp only [bP] at FM
  refine WL.mv rfl rfl (WL.pv (PV.nilCheck rfl rfl) rfl (WL.pv (PV.fieldAddr rfl k7 rfl) rfl (WL.pv (PV.fieldAddr rfl T4 rfl) rfl (WL.aX rfl eH rfl rfl (aN.aF (H.p 0 rfl) (aK.r (aK.r (aK.l (aK.tl aK.hd rfl)) rfl) rfl) rfl) ?_))))
  refine WL.pv (PV.dS (by exact (H.p 1 rfl : (bL sv vv) _)) eN rfl) rfl ?_
  refine WL.pv (PV.gtr rfl rfl rfl) rfl (WL.pv (PV.c5 rfl rfl rfl) rfl ?_)
  refine WL.call BM rfl (uB (c := _) (e := 3) H.aR) ?_
  rintro _ w1 ⟨rfl, hO⟩
  replace H := H.out hO
  refine WL.as rfl rfl (WL.nil (WE.ret ⟨[_], _, .nil _, ⟨rfl, trivial⟩, ?_⟩))
  refine ⟨?_, H.aL⟩
  show Value.int .i64 _ = Value.int .i64 0
  congr 1
  try ((simp; omega))
 ·
  refine WL.known (t := 7) (c := false) rfl FM ?_
  try simp only [bP] at FM
  refine WL.off rfl (WL.off rfl (WL.off rfl (WL.off rfl (WL.off rfl (WL.off rfl (WL.off rfl (WL.pv (PV.cF rfl rfl rfl) rfl ?_)))))))
  refine WL.call BM rfl (uB (c := _) (e := 3) H.aR) ?_
  rintro _ w2 ⟨rfl, hO⟩
  replace H := H.out hO
  refine WL.as rfl rfl (WL.nil (WE.ret ⟨[_], _, .nil _, ⟨rfl, trivial⟩, ?_⟩))
  refine ⟨?_, H.aL⟩
  show Value.int .i64 _ = Value.int .i64 0
  congr 1
  try (first | rfl | (simp; done) | (simp; omega))
theorem aEs {X : Nat → Prop} {w : World} {bk bh : Nat} {sr sk sv se : Value} {pr : Bool} {kd dp : Nat} {lk lv B : List UInt8} {sb : List (List UInt8)} (hX : c6 X w) (fA : aN w bk 168 (JW bh sr sk sv pr se XC)) (bT : aH (fun c_ => X c_ ∨ c_ = bk) (bL se (fM kd dp lk lv B sb)) w) (hp : jG kd dp lk lv B sb) :
  bC prog 125 [.pointer (some ⟨bk, 0, none⟩)].toArray w fun v w' => ∃ sl, v = .int .i64 0 ∧ sl.oneCell' = true ∧ Out (· = bk) w w' ∧ aN w' bk 168 (JW bh sr sk sv pr se (fU kd dp lk lv B sl)) ∧ aH (fun c => X c ∨ c = bk) (fE sl sb) w' := by
 refine bC.aI (N := 15) func125 rfl rfl (by simp) ?_
 have H := (St.dK (b := bk) (t := 168) (l := JW bh sr sk sv pr se XC) hX fA).add (cC bT)
 have mV := hp.uQ
 have hlv := hp.lvl
 have p4 := hp.bl
 refine WE.aA (WL.as rfl rfl (WL.nil (WE.aA (WL.mv rfl rfl (WL.mv rfl rfl (WL.pv (PV.nilCheck rfl rfl) rfl (WL.pv (PV.fieldAddr rfl ZV rfl) rfl ?_)))))))
 refine WL.aX rfl eH rfl rfl (aN.aF (H.o 0 rfl) (aK.r (aK.r (aK.r (aK.l (aK.all _)) rfl) rfl) rfl) rfl) ?_
 refine WL.call aHl rfl (WR (s := se) (kd := kd) (dp := dp) (lk := lk) (lv := lv) (B := B) (sb := sb) H.aR (by exact (H.bJ 0 rfl : aH _ (bL se (fM kd dp lk lv B sb)) _)) hp) ?_
 rintro _ w1 ⟨sl, rfl, hO, hR⟩
 have hsl := cO.fW (hR.here)
 replace H := (H.out hO).add hR
 have wE : (fU kd dp lk lv B sl).length = 99 := gQ mV hlv p4
 have hzl := XB
 refine WL.mv rfl rfl (WL.pv (PV.extract rfl rfl rfl) rfl (WL.pv (PV.extract rfl rfl rfl) rfl (WL.pv (PV.nilCheck rfl rfl) rfl (WL.pv (PV.fieldAddr rfl wV rfl) rfl ?_))))
 refine WL.lQ H 0 rfl rfl rfl (new := fU kd dp lk lv B sl) rfl (cI lE (by simp only [aS, aY, aB, aD]; omega)) (sY hsl) (Laid.at (Laid.right (Laid.right (Laid.right (Laid.right (Laid.all (by simp only [aS, aY, aB, aD]; omega)) rfl) rfl) rfl) rfl) rfl) rfl ?_
 intro w2 H
 refine WL.as rfl rfl (WL.nil (WE.aA (WL.mv rfl rfl (WL.as rfl rfl (WL.nil (WE.ret ⟨[_], _, .nil _, ⟨rfl, trivial⟩, ?_⟩))))))
 exact ⟨sl, rfl, hsl, H.cT, H.o 0 rfl, H.gA (by exact (H.bJ 0 rfl : aH _ (fE sl sb) _))⟩
theorem aBU {X : Nat → Prop} {w : World} {kd dp : Nat} {lk lv B k vd : List UInt8} {sl : Value} {pr : Bool} (hX : c6 X w) (wS : kd = 0 ∨ kd = 1) (mV : lk.length = 32) (hlv : lv.length = 32) (p4 : B.length = 32) (hs1 : sl.oneCell' = true) (hk : k.length = 32) (hvd : vd.length = 32) (yJ : zF kd dp lk lv k vd pr) :
  bC prog 169 [.agg (fU kd dp lk lv B sl).toArray, .agg (kc k).toArray, .agg (kc vd).toArray, .bool pr].toArray w fun v w' => v = .bool true ∧ Out Nil w w' := by
 refine bC.aI (N := 44) func169 rfl rfl (by simp) ?_
 have H := St.begin hX
 have wE : (fU kd dp lk lv B sl).length = 99 := gQ mV hlv p4
 refine WE.aA ?_
 refine WL.box (l := fU kd dp lk lv B sl) H rfl rfl rfl ?_
 intro b4 w1 H
 refine WL.box (l := kc k) H rfl rfl rfl ?_
 intro b5 w2 H
 refine WL.box (l := kc vd) H rfl rfl rfl ?_
 intro b6 w3 H
 refine WL.as rfl rfl (WL.nil (WE.seq (WE.block (WE.aA (WL.mv rfl rfl (WL.as rfl rfl (WL.nil ?_)))))))
 refine WE.cond rfl (fun uV => ?_) (fun uV => ?_)
 ·
  try simp only [bP] at uV
  obtain ⟨wT, aJs, aJq⟩ := yJ.1 uV
  subst aJs
  subst aJq
  refine WE.aA (WL.pv (PV.fieldAddr rfl nQ rfl) rfl (WL.aX rfl l9 rfl rfl (aN.aF (H.l 2 rfl) (aK.l (aK.all _)) rfl) (WL.pv (PV.eql rfl rfl rfl) rfl (WL.mv rfl rfl ?_))))
  refine WL.known (t := 14) (c := true) rfl (by simp [wT]) ?_
  refine WL.pv (PV.fieldAddr rfl pI rfl) rfl ?_
  refine WL.bE rfl G0 rfl rfl (aN.aF (H.l 2 rfl) (aK.r (aK.r (aK.l (aK.all _)) rfl) rfl) rfl) (cI xJ (by simp only [aS, aY, aB, aD]; omega)) ?_
  refine WL.bE rfl c7 rfl rfl (aN.aF (H.l 1 rfl) (aK.all _) rfl) (cI cM (by simp only [aS, aY, aB, aD]; omega)) ?_
  refine WL.bE rfl fS rfl rfl (aN.aF (H.l 0 rfl) (aK.all _) rfl) (cI dH (by simp only [aS, aY, aB, aD]; omega)) ?_
  refine WL.pv (PV.dQ rfl YA HW (Fl.cons rfl rfl (by simp only [aS, aY, aB, aD]; omega) (Laid.left (Laid.all (by simp only [aS, aY, aB, aD]; omega))) (Fl.cons rfl rfl (by simp only [aS, aY, aB, aD]; omega) (Laid.right (Laid.all (by simp only [aS, aY, aB, aD]; omega)) (by simp only [aS, aY, aB, aD]; omega)) Fl.nil))) rfl ?_
  refine WL.pv (PV.aHD rfl aHE rfl rfl (DU.struct (n := 3) aHF (WN.cons (eG.agg c7 (cI cM (by simp only [aS, aY, aB, aD]; omega)) (aK.l (aK.all _))) (eG.agg c7 (cI cM (by simp only [aS, aY, aB, aD]; omega)) (aK.l (aK.all _))) (DU.mono (DU.bytes gW mM gO (by assumption) (by assumption)) (by decide)) (WN.cons (eG.agg fS (cI dH (by simp only [aS, aY, aB, aD]; omega)) (aK.r (aK.all _) (by simp only [aS, aY, aB, aD]; omega))) (eG.agg fS (cI dH (by simp only [aS, aY, aB, aD]; omega)) (aK.r (aK.all _) (by simp only [aS, aY, aB, aD]; omega))) (DU.mono (DU.bytes pN mM gO (by assumption) (by assumption)) (by decide)) WN.nil))) (by decide)) rfl ?_
  refine WL.pv (PV.c5 rfl rfl rfl) rfl (WL.as rfl rfl (WL.nil (WE.ret ⟨[_], _, .nil _, ⟨rfl, trivial⟩, ?_⟩)))
  refine ⟨?_, H.aL⟩
  show Value.bool _ = Value.bool true
  congr 1
  try ((simp; done))
 ·
  try simp only [bP] at uV
  have hsf := yJ.2 uV
  refine WE.aA (WL.pv (PV.fieldAddr rfl nQ rfl) rfl (WL.aX rfl l9 rfl rfl (aN.aF (H.l 2 rfl) (aK.l (aK.all _)) rfl) (WL.pv (PV.eql rfl rfl rfl) rfl (WL.as rfl rfl (WL.nil ?_)))))
  refine WE.cond rfl (fun JO => ?_) (fun JO => ?_)
  ·
   try simp only [bP] at JO
   have wT : kd = 1 := by omega
   obtain ⟨SP, hc1⟩ := hsf wT
   refine WE.bG (.take 0 (.take 1 (.take 2 (.take 3 (.take 4 (.take 5 (.take 6 (.take 7 (.take 8 (.take 9 (.take 11 (.take 12 (.aG 10 (.take 13 (.take 14 (.take 15 .done)))))))))))))))) mixed (by kernel_rfl) ?_
   replace H := H.out (Out.drew _)
   refine WP.aC rfl rfl (PV.fieldAddr rfl pI rfl) (WP.aC rfl rfl (PV.fieldAddr rfl kK rfl) ?_)
   refine WP.dO rfl rfl rfl c7 rfl (aN.aF (H.l 2 rfl) (aK.r (aK.r (aK.l (aK.l (aK.all _))) rfl) rfl) rfl) (cI cM (by simp only [aS, aY, aB, aD]; omega)) ?_
   refine WP.dO rfl rfl rfl c7 rfl (aN.aF (H.l 1 rfl) (aK.all _) rfl) (cI cM (by simp only [aS, aY, aB, aD]; omega)) ?_
   refine WP.aC rfl rfl (PV.NX rfl gW mM gO (by kernel_rfl) rfl rfl (by assumption) (by assumption)) (WP.mv rfl rfl rfl ?_)
   refine WP.known (t := 31) (c := true) rfl (by simp [SP]) ?_
   refine WP.aC rfl rfl (PV.fieldAddr rfl pI rfl) (WP.aC rfl rfl (PV.fieldAddr rfl kK rfl) ?_)
   refine WP.dO rfl rfl rfl c7 rfl (aN.aF (H.l 2 rfl) (aK.r (aK.r (aK.l (aK.l (aK.all _))) rfl) rfl) rfl) (cI cM (by simp only [aS, aY, aB, aD]; omega)) ?_
   refine WP.dO rfl rfl rfl c7 rfl (aN.aF (H.l 1 rfl) (aK.all _) rfl) (cI cM (by simp only [aS, aY, aB, aD]; omega)) ?_
   refine WP.aC rfl rfl (PV.fieldAddr rfl r7 rfl) (WP.aM rfl rfl (RV.aV rfl l9 rfl) (aN.aF (H.l 2 rfl) (aK.r (aK.l (aK.all _)) rfl) rfl) (WP.aG rfl ?_))
   refine WL.call T8 rfl (zN (a := lk) (b := k) H.aR mV hk) ?_
   rintro _ w4 ⟨rfl, hO⟩
   replace H := H.out hO
   refine WL.nil ⟨(fa (rk hO) (fa (nw 10 9) (fa (nw 10 8) (fa (nw 10 3) (fa (nw 10 2) c8))))), ?_⟩
   refine WP.aC rfl rfl (PV.geq rfl rfl rfl) (WP.aC rfl rfl (PV.c5 rfl rfl rfl) (WP.as rfl rfl rfl (WP.done (WE.ret ⟨[_], _, .nil _, ⟨rfl, trivial⟩, ?_⟩))))
   refine ⟨?_, H.aL⟩
   (show Value.bool _ = Value.bool true; congr 1; exact decide_eq_true (by omega))
  ·
   try simp only [bP] at JO
   have PZ : kd = 0 := by omega
   refine WE.skip (WE.aA (WL.pv (PV.fieldAddr rfl nQ rfl) rfl (WL.aX rfl l9 rfl rfl (aN.aF (H.l 2 rfl) (aK.l (aK.all _)) rfl) (WL.pv (PV.eql rfl rfl rfl) rfl (WL.as rfl rfl (WL.nil (WE.ret ?_)))))))
   refine ⟨[_], _, .nil _, ⟨rfl, trivial⟩, ?_⟩
   refine ⟨?_, H.aL⟩
   show Value.bool _ = Value.bool true
   congr 1
   try ((simp [PZ]; done))
theorem IC {X : Nat → Prop} {w : World} {bk bh bc : Nat} {bits n0 : Int} {sr sk sv se : Value} {pr : Bool} {k vv rb : List UInt8} {kd dp : Nat} {lk lv B : List UInt8} {sl : Value} {sb : List (List UInt8)} (hX : c6 X w) (fA : aN w bc 213 ([.int .i64 n0])) (bT : aH (fun c_ => X c_ ∨ c_ = bc) (fO bh bc bits) w) (dJ : aH (fun c_ => X c_ ∨ c_ = bc) (fun w => aN w bk 168 (JW bh sr sk sv pr se (fU kd dp lk lv B sl))) w) (fQ : aH (fun c_ => X c_ ∨ c_ = bc) (bL sk k) w) (jW : aH (fun c_ => X c_ ∨ c_ = bc) (bL sv vv) w) (nM : aH (fun c_ => X c_ ∨ c_ = bc) (fE sl sb) w) (sK : aH (fun c_ => X c_ ∨ c_ = bc) (aZ) w) (bU : 0 ≤ bits ∧ bits ≤ 256) (hp : jG kd dp lk lv B sb) (hk : k.length = 32) (hv : vv.length ≤ 65535) (yJ : zF kd dp lk lv k (nI bits vv) pr) :
  bC prog 128 [.pointer (some ⟨bk, 0, none⟩)].toArray w fun v w' => ∃ m, v = .bool true ∧ Out (· = bc) w w' ∧ aN w' bc 213 [.int .i64 m] := by
 refine bC.aI (N := 38) func128 rfl rfl (by simp) ?_
 have H := ((((((St.dK (b := bc) (t := 213) (l := [.int .i64 n0]) hX fA).add (cC sK)).add (cC nM)).add (cC jW)).add (cC fQ)).add (cC dJ)).add (cC bT)
 have wS := hp.kd
 have mV := hp.uQ
 have hlv := hp.lvl
 have p4 := hp.bl
 have wE : (fU kd dp lk lv B sl).length = 99 := gQ mV hlv p4
 have aE4 := fY bits vv
 have hs1 : sl.oneCell' = true := cO.fW (nM.here)
 have C0 : (List.replicate 32 (0 : UInt8)).length = 32 := List.length_replicate
 obtain ⟨ka, kcp, rfl⟩ := bL.some (fQ.here) (by omega)
 have aFa : pr = false → zF kd dp lk lv k (List.replicate 32 0) pr := fun h => ⟨fun h2 => by (rw [h] at h2; cases h2), yJ.2⟩
 refine WE.aA (WL.as rfl rfl (WL.nil (WE.aA ?_)))
 refine WL.alloc H rfl lB rfl ?_
 intro b3 w1 H
 refine WL.nil (WE.seq (WE.aA (WL.mv rfl rfl (WL.pv (PV.nilCheck rfl rfl) rfl (WL.pv (PV.fieldAddr rfl k7 rfl) rfl (WL.pv (PV.fieldAddr rfl DH rfl) rfl ?_))))))
 refine WL.aX rfl vE rfl rfl (aN.aF (H.p 1 rfl) (aK.r (aK.r (aK.l (aK.tl (aK.tl aK.hd rfl) rfl)) rfl) rfl) rfl) ?_
 refine WL.nil ?_
 refine WE.cond rfl (fun l8 => ?_) (fun l8 => ?_)
 ·
  try simp only [bP] at l8
  refine WE.draw (.take 0 (.take 1 (.take 2 (.take 3 (.take 4 (.take 5 (.take 6 (.take 7 (.take 8 (.aG 9 (.aG 10 (.aG 11 .done)))))))))))) mixed (by kernel_rfl) ?_
  replace H := H.out (Out.drew _)
  refine WP.mv rfl rfl rfl (WP.aC rfl rfl (PV.nilCheck rfl rfl) (WP.aC rfl rfl (PV.fieldAddr rfl MB rfl) (WP.aM rfl rfl (RV.aV rfl wK rfl) (aN.aF (H.p 1 rfl) (aK.l (aK.all _)) rfl) (WP.mv rfl rfl rfl (WP.aC rfl rfl (PV.nilCheck rfl rfl) (WP.aC rfl rfl (PV.fieldAddr rfl k7 rfl) (WP.aC rfl rfl (PV.fieldAddr rfl T4 rfl) ?_)))))))
  refine WP.aM rfl rfl (RV.aV rfl eH rfl) (aN.aF (H.p 1 rfl) (aK.r (aK.r (aK.l (aK.tl aK.hd rfl)) rfl) rfl) rfl) ?_
  refine WP.aG rfl ?_
  refine WL.call aBB rfl (MW (la := vv) H.aR (by exact (H.bJ 3 rfl : aH _ (bL sv vv) _)) (by omega)) ?_
  rintro v18 w2 ⟨hO, hR⟩
  replace H := (H.out hO).add hR
  refine WL.nil ⟨(fa (nw 9 8) (fa (fun _ _ => (aN.aF (H.p 2 rfl) (aK.l (aK.all _)) rfl)) c8)), ?_⟩
  refine WP.aG rfl ?_
  refine WL.call JR rfl (sJ (la := 2 :: vv) (bits := bits) H.aR (H.o 0 rfl) (by exact (H.aO 0 rfl 1 rfl : aH _ (fO bh bc bits) _)) (by exact (H.aO 0 rfl 0 rfl : aH _ (bL v18 (2 :: vv)) _)) (by exact (H.aO 0 rfl 6 rfl : aH _ (aZ) _)) bU (by simp; omega)) ?_
  rintro _ w3 ⟨rfl, hO, hB⟩
  replace H := H.eZ 0 rfl hO hB
  refine WL.nil ⟨(fa (nw 10 8) (fa (nw 10 3) c8)), ?_⟩
  refine WP.aG rfl ?_
  refine WL.aW H 0 rfl rfl rfl (new := kc (nI bits vv)) rfl (by exact dH) (bH _) (Laid.at (Laid.all (by simp only [aS, aY, aB, aD])) rfl) rfl ?_
  intro w4 H
  refine WL.nil ⟨(fa (nw 11 8) (fa (nw 11 3) c8)), ?_⟩
  refine WP.done ?_
  refine WE.bG (.take 0 (.take 1 (.take 2 (.take 3 (.take 4 (.take 5 (.take 6 (.take 7 (.take 8 (.take 11 (.take 12 (.take 13 (.take 14 (.take 15 (.take 16 (.aG 9 (.take 10 (.aG 17 (.take 18 .done))))))))))))))))))) mixed (by kernel_rfl) ?_
  replace H := H.out (Out.drew _)
  refine WP.mv rfl rfl rfl (WP.aC rfl rfl (PV.nilCheck rfl rfl) (WP.aC rfl rfl (PV.fieldAddr rfl wV rfl) ?_))
  refine WP.dO rfl rfl rfl nS rfl (aN.aF (H.p 2 rfl) (aK.r (aK.r (aK.r (aK.r (aK.all _) rfl) rfl) rfl) rfl) rfl) (cI lE (by simp only [aS, aY, aB, aD]; omega)) ?_
  refine WP.mv rfl rfl rfl (WP.aC rfl rfl (PV.nilCheck rfl rfl) (WP.aC rfl rfl (PV.fieldAddr rfl k7 rfl) (WP.aC rfl rfl (PV.fieldAddr rfl DI rfl) ?_)))
  refine WP.aM rfl rfl (RV.aV rfl eH rfl) (aN.aF (H.p 2 rfl) (aK.r (aK.r (aK.l aK.hd) rfl) rfl) rfl) ?_
  refine WP.dO rfl rfl rfl fS rfl (aN.aF (H.l 0 rfl) (aK.all _) rfl) (by exact dH) ?_
  refine WP.mv rfl rfl rfl (WP.aC rfl rfl (PV.nilCheck rfl rfl) (WP.aC rfl rfl (PV.fieldAddr rfl k7 rfl) (WP.aC rfl rfl (PV.fieldAddr rfl DH rfl) ?_)))
  refine WP.aM rfl rfl (RV.aV rfl vE rfl) (aN.aF (H.p 2 rfl) (aK.r (aK.r (aK.l (aK.tl (aK.tl aK.hd rfl) rfl)) rfl) rfl) rfl) ?_
  refine WP.aG rfl ?_
  refine WL.pv (PV.vX (n := 32) rfl gW (by rw [hk]; rfl)) rfl ?_
  refine WL.nil ⟨(fa (fun _ _ => (aN.aF (H.p 2 rfl) (aK.r (aK.r (aK.l (aK.tl (aK.tl aK.hd rfl) rfl)) rfl) rfl) rfl)) (fa (fun _ _ => (aN.aF (H.l 0 rfl) (aK.all _) rfl)) (fa (nw 9 8) (fa (fun _ _ => (aN.aF (H.p 2 rfl) (aK.r (aK.r (aK.r (aK.r (aK.all _) rfl) rfl) rfl) rfl) rfl)) c8)))), ?_⟩
  refine WP.dO rfl rfl rfl c7 rfl ((bL.whole (by exact (H.p 3 rfl : (bL _ k) _)))) (cI cM (by simp only [aS, aY, aB, aD]; omega)) ?_
  refine WP.aG rfl ?_
  refine WL.call aBA rfl (aBU (kd := kd) (dp := dp) (lk := lk) (lv := lv) (B := B) (k := k) (sl := sl) (pr := pr) H.aR wS mV hlv p4 hs1 hk (by with_reducible exact aE4) (by with_reducible exact yJ)) ?_
  rintro _ w5 ⟨rfl, hO⟩
  replace H := H.out hO
  refine WL.nil ⟨(fa (nw 17 10) (fa (nw 17 16) (fa (nw 17 11) (fa (nw 17 8) (fa (nw 17 3) c8))))), ?_⟩
  refine WP.as rfl rfl rfl (WP.done (WE.ret ⟨[_], _, .nil _, ⟨rfl, trivial⟩, ?_⟩))
  exact ⟨_, rfl, H.cT, H.o 0 rfl⟩
 ·
  try simp only [bP] at l8
  refine WE.skip ?_
  refine WE.bG (.take 0 (.take 1 (.take 2 (.take 3 (.take 4 (.take 5 (.take 6 (.take 7 (.take 8 (.take 11 (.take 12 (.take 13 (.take 14 (.take 15 (.take 16 (.aG 9 (.take 10 (.aG 17 (.take 18 .done))))))))))))))))))) mixed (by kernel_rfl) ?_
  replace H := H.out (Out.drew _)
  refine WP.mv rfl rfl rfl (WP.aC rfl rfl (PV.nilCheck rfl rfl) (WP.aC rfl rfl (PV.fieldAddr rfl wV rfl) ?_))
  refine WP.dO rfl rfl rfl nS rfl (aN.aF (H.p 1 rfl) (aK.r (aK.r (aK.r (aK.r (aK.all _) rfl) rfl) rfl) rfl) rfl) (cI lE (by simp only [aS, aY, aB, aD]; omega)) ?_
  refine WP.mv rfl rfl rfl (WP.aC rfl rfl (PV.nilCheck rfl rfl) (WP.aC rfl rfl (PV.fieldAddr rfl k7 rfl) (WP.aC rfl rfl (PV.fieldAddr rfl DI rfl) ?_)))
  refine WP.aM rfl rfl (RV.aV rfl eH rfl) (aN.aF (H.p 1 rfl) (aK.r (aK.r (aK.l aK.hd) rfl) rfl) rfl) ?_
  refine WP.dO rfl rfl rfl fS rfl (aN.aF (H.l 0 rfl) (aK.all _) rfl) (by exact dH) ?_
  refine WP.mv rfl rfl rfl (WP.aC rfl rfl (PV.nilCheck rfl rfl) (WP.aC rfl rfl (PV.fieldAddr rfl k7 rfl) (WP.aC rfl rfl (PV.fieldAddr rfl DH rfl) ?_)))
  refine WP.aM rfl rfl (RV.aV rfl vE rfl) (aN.aF (H.p 1 rfl) (aK.r (aK.r (aK.l (aK.tl (aK.tl aK.hd rfl) rfl)) rfl) rfl) rfl) ?_
  refine WP.aG rfl ?_
  refine WL.pv (PV.vX (n := 32) rfl gW (by rw [hk]; rfl)) rfl ?_
  refine WL.nil ⟨(fa (fun _ _ => (aN.aF (H.p 1 rfl) (aK.r (aK.r (aK.l (aK.tl (aK.tl aK.hd rfl) rfl)) rfl) rfl) rfl)) (fa (fun _ _ => (aN.aF (H.l 0 rfl) (aK.all _) rfl)) (fa (nw 9 8) (fa (fun _ _ => (aN.aF (H.p 1 rfl) (aK.r (aK.r (aK.r (aK.r (aK.all _) rfl) rfl) rfl) rfl) rfl)) c8)))), ?_⟩
  refine WP.dO rfl rfl rfl c7 rfl ((bL.whole (by exact (H.p 2 rfl : (bL _ k) _)))) (cI cM (by simp only [aS, aY, aB, aD]; omega)) ?_
  refine WP.aG rfl ?_
  refine WL.call aBA rfl (aBU (kd := kd) (dp := dp) (lk := lk) (lv := lv) (B := B) (k := k) (sl := sl) (pr := pr) H.aR wS mV hlv p4 hs1 hk (by with_reducible exact C0) (by with_reducible exact aFa l8)) ?_
  rintro _ w6 ⟨rfl, hO⟩
  replace H := H.out hO
  refine WL.nil ⟨(fa (nw 17 10) (fa (nw 17 16) (fa (nw 17 11) (fa (nw 17 8) (fa (nw 17 3) c8))))), ?_⟩
  refine WP.as rfl rfl rfl (WP.done (WE.ret ⟨[_], _, .nil _, ⟨rfl, trivial⟩, ?_⟩))
  exact ⟨_, rfl, H.cT, H.o 0 rfl⟩
theorem YR {X : Nat → Prop} {w : World} {bk bh bc : Nat} {bits n0 : Int} {sr sk sv se : Value} {pr : Bool} {k vv rb : List UInt8} {kd dp : Nat} {lk lv B : List UInt8} {sl : Value} {sb : List (List UInt8)} (hX : c6 X w) (fA : aN w bc 213 ([.int .i64 n0])) (bT : aH (fun c_ => X c_ ∨ c_ = bc) (fO bh bc bits) w) (dJ : aH (fun c_ => X c_ ∨ c_ = bc) (fun w => aN w bk 168 (JW bh sr sk sv pr se (fU kd dp lk lv B sl))) w) (fQ : aH (fun c_ => X c_ ∨ c_ = bc) (bL sk k) w) (jW : aH (fun c_ => X c_ ∨ c_ = bc) (bL sr rb) w) (nM : aH (fun c_ => X c_ ∨ c_ = bc) (fE sl sb) w) (sK : aH (fun c_ => X c_ ∨ c_ = bc) (aZ) w) (bU : 0 ≤ bits ∧ bits ≤ 256) (hp : jG kd dp lk lv B sb) (hk : k.length = 32) (hr : rb.length = 32) :
  bC prog 130 [.pointer (some ⟨bk, 0, none⟩)].toArray w fun v w' => ∃ m, v = .bool (decide ((fI bits k (gI bits dp B sb) (eB (cZ (eT kd lk lv)) bits) dp) = rb)) ∧ Out (· = bc) w w' ∧ aN w' bc 213 [.int .i64 m] := by
 refine bC.aI (N := 36) func130 rfl rfl (by simp) ?_
 have H := ((((((St.dK (b := bc) (t := 213) (l := [.int .i64 n0]) hX fA).add (cC sK)).add (cC nM)).add (cC jW)).add (cC fQ)).add (cC dJ)).add (cC bT)
 have wS := hp.kd
 have mV := hp.uQ
 have hlv := hp.lvl
 have p4 := hp.bl
 have wE : (fU kd dp lk lv B sl).length = 99 := gQ mV hlv p4
 have aE4 := fY bits vv
 have hrl : (fI bits k (gI bits dp B sb) (eB (cZ (eT kd lk lv)) bits) dp).length = 32 := oO (cB _ _) _
 obtain ⟨ka, kcp, rfl⟩ := bL.some (fQ.here) (by omega)
 obtain ⟨ra, rcp, rfl⟩ := bL.some (jW.here) (by omega)
 refine WE.aA (WL.as rfl rfl (WL.nil ?_))
 refine WE.bG (.take 0 (.take 1 (.take 2 (.take 3 (.take 4 (.take 5 (.take 6 (.take 7 (.take 8 (.take 9 (.take 10 (.take 11 (.take 12 (.jT 13 (.take 14 (.jT 15 (.take 16 (.take 17 (.take 18 (.aG 19 (.aG 20 (.take 21 .done)))))) 19 (.aG 15 (.take 16 (.take 17 (.take 18 (.aG 20 (.take 21 .done)))))))) 19 (.aG 13 (.take 14 (.aG 15 (.take 16 (.take 17 (.take 18 (.aG 20 (.take 21 .done)))))))))))))))))))))) mixed (by kernel_rfl) ?_
 replace H := H.out (Out.drew _)
 refine WP.mv rfl rfl rfl (WP.aC rfl rfl (PV.nilCheck rfl rfl) (WP.aC rfl rfl (PV.fieldAddr rfl MB rfl) (WP.aM rfl rfl (RV.aV rfl wK rfl) (aN.aF (H.p 1 rfl) (aK.l (aK.all _)) rfl) (WP.mv rfl rfl rfl (WP.aC rfl rfl (PV.nilCheck rfl rfl) (WP.aC rfl rfl (PV.fieldAddr rfl wV rfl) ?_))))))
 refine WP.dO rfl rfl rfl nS rfl (aN.aF (H.p 1 rfl) (aK.r (aK.r (aK.r (aK.r (aK.all _) rfl) rfl) rfl) rfl) rfl) (cI lE (by simp only [aS, aY, aB, aD]; omega)) ?_
 refine WP.mv rfl rfl rfl (WP.aC rfl rfl (PV.nilCheck rfl rfl) (WP.aC rfl rfl (PV.fieldAddr rfl k7 rfl) (WP.aC rfl rfl (PV.fieldAddr rfl DI rfl) ?_)))
 refine WP.aM rfl rfl (RV.aV rfl eH rfl) (aN.aF (H.p 1 rfl) (aK.r (aK.r (aK.l aK.hd) rfl) rfl) rfl) ?_
 refine WP.jT rfl rfl ?_ ?_ 
 ·
  refine WL.pv (PV.vX (n := 32) rfl gW (by rw [hk]; rfl)) rfl ?_
  refine WL.nil ⟨(fa (nw 13 12) (fa (fun _ _ => (aN.aF (H.p 1 rfl) (aK.r (aK.r (aK.r (aK.r (aK.all _) rfl) rfl) rfl) rfl) rfl)) (fa (fun _ _ => (aN.aF (H.p 1 rfl) (aK.l (aK.all _)) rfl)) c8))), ?_⟩
  refine WP.dO rfl rfl rfl c7 rfl ((bL.whole (by exact (H.p 2 rfl : (bL _ k) _)))) (cI cM (by simp only [aS, aY, aB, aD]; omega)) ?_
  refine WP.jT rfl rfl ?_ ?_ 
  ·
   refine WL.call T7 rfl (DT (kd := kd) (dp := dp) (lk := lk) (lv := lv) (B := B) (sl := sl) (sb := sb) (bits := bits) (k := k) H.aR (H.o 0 rfl) (by exact (H.aO 0 rfl 0 rfl : aH _ (fO bh bc bits) _)) (by exact (H.aO 0 rfl 4 rfl : aH _ (fE sl sb) _)) (by exact (H.aO 0 rfl 5 rfl : aH _ (aZ) _)) bU hp hk) ?_
   rintro _ w1 ⟨m21, rfl, hO, hB⟩
   replace H := H.eZ 0 rfl hO hB
   refine WL.nil ⟨(fa (nw 15 14) (fa (nw 15 12) (fa (nw 15 7) (fa (nw 15 3) c8)))), ?_⟩
   refine WP.mv rfl rfl rfl (WP.aC rfl rfl (PV.extract rfl rfl rfl) (WP.aC rfl rfl (PV.extract rfl rfl rfl) (WP.aG rfl ?_)))
   refine WL.alloc H rfl lB rfl ?_
   intro b3 w2 H
   refine WL.nil ⟨(fa (fun _ _ => ((bL.whole (by exact (H.p 2 rfl : (bL _ k) _))))) (fa (fun _ _ => (aN.aF (H.p 1 rfl) (aK.r (aK.r (aK.l aK.hd) rfl) rfl) rfl)) (fa (fun _ _ => (aN.aF (H.p 1 rfl) (aK.r (aK.r (aK.r (aK.r (aK.all _) rfl) rfl) rfl) rfl) rfl)) (fa (fun _ _ => (aN.aF (H.p 1 rfl) (aK.l (aK.all _)) rfl)) c8)))), ?_⟩
   refine WP.aG rfl ?_
   refine WL.aW H 0 rfl rfl rfl (new := kc (fI bits k (gI bits dp B sb) (eB (cZ (eT kd lk lv)) bits) dp)) rfl (cI dH (by simp only [aS, aY, aB, aD]; omega)) (bH _) (Laid.at (Laid.all (by simp only [aS, aY, aB, aD]; omega)) rfl) rfl ?_
   intro w3 H
   refine WL.nil ⟨(fa (nw 20 14) (fa (nw 20 12) (fa (nw 20 7) (fa (nw 20 3) c8)))), ?_⟩
   refine WP.as rfl rfl rfl (WP.done ?_)
   refine WE.bG (.take 0 (.take 1 (.take 2 (.take 3 (.take 4 (.take 5 (.take 6 (.take 7 (.aG 8 (.take 9 (.take 10 (.take 11 (.take 12 .done))))))))))))) mixed (by kernel_rfl) ?_
   replace H := H.out (Out.drew _)
   refine WP.mv rfl rfl rfl (WP.aC rfl rfl (PV.eql rfl rfl rfl) (WP.mv rfl rfl rfl ?_))
   refine WP.known (t := 26) (c := true) rfl rfl ?_
   refine WP.dO rfl rfl rfl fS rfl (aN.aF (H.l 0 rfl) (aK.all _) rfl) (cI dH (by simp only [aS, aY, aB, aD]; omega)) ?_
   refine WP.mv rfl rfl rfl (WP.aC rfl rfl (PV.nilCheck rfl rfl) (WP.aC rfl rfl (PV.fieldAddr rfl wW rfl) (WP.aM rfl rfl (RV.aV rfl eH rfl) (aN.aF (H.p 1 rfl) (aK.r (aK.l (aK.all _)) rfl) rfl) (WP.aG rfl ?_))))
   refine WL.pv (PV.vX (n := 32) rfl pN (by rw [hr]; rfl)) rfl ?_
   refine WL.nil ⟨(fa (nw 8 7) (fa (fun _ _ => (aN.aF (H.l 0 rfl) (aK.all _) rfl)) c8)), ?_⟩
   refine WP.dO rfl rfl rfl fS rfl ((bL.whole (by exact (H.p 3 rfl : (bL _ rb) _)))) (cI dH (by simp only [aS, aY, aB, aD]; omega)) ?_
   refine WP.aC rfl rfl (PV.DM rfl pN mM gO (by kernel_rfl) rfl rfl (by assumption) (by assumption)) (WP.aC rfl rfl (PV.c5 rfl rfl rfl) (WP.as rfl rfl rfl (WP.done (WE.ret ⟨[_], _, .nil _, ⟨rfl, trivial⟩, ?_⟩))))
   exact ⟨_, rfl, H.cT, H.o 0 rfl⟩
  ·
   refine WL.alloc H rfl lB rfl ?_
   intro b3 w4 H
   refine WL.nil ⟨(fa (fun _ _ => ((bL.whole (by exact (H.p 2 rfl : (bL _ k) _))))) (fa (fun _ _ => (aN.aF (H.p 1 rfl) (aK.r (aK.r (aK.l aK.hd) rfl) rfl) rfl)) (fa (fun _ _ => (aN.aF (H.p 1 rfl) (aK.r (aK.r (aK.r (aK.r (aK.all _) rfl) rfl) rfl) rfl) rfl)) (fa (fun _ _ => (aN.aF (H.p 1 rfl) (aK.l (aK.all _)) rfl)) c8)))), ?_⟩
   refine WP.aG rfl ?_
   refine WL.call T7 rfl (DT (kd := kd) (dp := dp) (lk := lk) (lv := lv) (B := B) (sl := sl) (sb := sb) (bits := bits) (k := k) H.aR (H.o 0 rfl) (by exact (H.aO 0 rfl 0 rfl : aH _ (fO bh bc bits) _)) (by exact (H.aO 0 rfl 4 rfl : aH _ (fE sl sb) _)) (by exact (H.aO 0 rfl 5 rfl : aH _ (aZ) _)) bU hp hk) ?_
   rintro _ w5 ⟨m21, rfl, hO, hB⟩
   replace H := H.eZ 0 rfl hO hB
   refine WL.nil ⟨(fa (nw 15 14) (fa (nw 15 12) (fa (nw 15 7) (fa (nw 15 3) c8)))), ?_⟩
   refine WP.mv rfl rfl rfl (WP.aC rfl rfl (PV.extract rfl rfl rfl) (WP.aC rfl rfl (PV.extract rfl rfl rfl) (WP.aG rfl ?_)))
   refine WL.aW H 0 rfl rfl rfl (new := kc (fI bits k (gI bits dp B sb) (eB (cZ (eT kd lk lv)) bits) dp)) rfl (cI dH (by simp only [aS, aY, aB, aD]; omega)) (bH _) (Laid.at (Laid.all (by simp only [aS, aY, aB, aD]; omega)) rfl) rfl ?_
   intro w6 H
   refine WL.nil ⟨(fa (nw 20 14) (fa (nw 20 12) (fa (nw 20 7) (fa (nw 20 3) c8)))), ?_⟩
   refine WP.as rfl rfl rfl (WP.done ?_)
   refine WE.bG (.take 0 (.take 1 (.take 2 (.take 3 (.take 4 (.take 5 (.take 6 (.take 7 (.aG 8 (.take 9 (.take 10 (.take 11 (.take 12 .done))))))))))))) mixed (by kernel_rfl) ?_
   replace H := H.out (Out.drew _)
   refine WP.mv rfl rfl rfl (WP.aC rfl rfl (PV.eql rfl rfl rfl) (WP.mv rfl rfl rfl ?_))
   refine WP.known (t := 26) (c := true) rfl rfl ?_
   refine WP.dO rfl rfl rfl fS rfl (aN.aF (H.l 0 rfl) (aK.all _) rfl) (cI dH (by simp only [aS, aY, aB, aD]; omega)) ?_
   refine WP.mv rfl rfl rfl (WP.aC rfl rfl (PV.nilCheck rfl rfl) (WP.aC rfl rfl (PV.fieldAddr rfl wW rfl) (WP.aM rfl rfl (RV.aV rfl eH rfl) (aN.aF (H.p 1 rfl) (aK.r (aK.l (aK.all _)) rfl) rfl) (WP.aG rfl ?_))))
   refine WL.pv (PV.vX (n := 32) rfl pN (by rw [hr]; rfl)) rfl ?_
   refine WL.nil ⟨(fa (nw 8 7) (fa (fun _ _ => (aN.aF (H.l 0 rfl) (aK.all _) rfl)) c8)), ?_⟩
   refine WP.dO rfl rfl rfl fS rfl ((bL.whole (by exact (H.p 3 rfl : (bL _ rb) _)))) (cI dH (by simp only [aS, aY, aB, aD]; omega)) ?_
   refine WP.aC rfl rfl (PV.DM rfl pN mM gO (by kernel_rfl) rfl rfl (by assumption) (by assumption)) (WP.aC rfl rfl (PV.c5 rfl rfl rfl) (WP.as rfl rfl rfl (WP.done (WE.ret ⟨[_], _, .nil _, ⟨rfl, trivial⟩, ?_⟩))))
   exact ⟨_, rfl, H.cT, H.o 0 rfl⟩
 ·
  refine WL.alloc H rfl lB rfl ?_
  intro b3 w7 H
  refine WL.nil ⟨(fa (fun _ _ => (aN.aF (H.p 1 rfl) (aK.r (aK.r (aK.l aK.hd) rfl) rfl) rfl)) (fa (fun _ _ => (aN.aF (H.p 1 rfl) (aK.r (aK.r (aK.r (aK.r (aK.all _) rfl) rfl) rfl) rfl) rfl)) (fa (fun _ _ => (aN.aF (H.p 1 rfl) (aK.l (aK.all _)) rfl)) c8))), ?_⟩
  refine WP.aG rfl ?_
  refine WL.pv (PV.vX (n := 32) rfl gW (by rw [hk]; rfl)) rfl ?_
  refine WL.nil ⟨(fa (nw 13 12) (fa (fun _ _ => (aN.aF (H.p 1 rfl) (aK.r (aK.r (aK.r (aK.r (aK.all _) rfl) rfl) rfl) rfl) rfl)) (fa (fun _ _ => (aN.aF (H.p 1 rfl) (aK.l (aK.all _)) rfl)) c8))), ?_⟩
  refine WP.dO rfl rfl rfl c7 rfl ((bL.whole (by exact (H.p 2 rfl : (bL _ k) _)))) (cI cM (by simp only [aS, aY, aB, aD]; omega)) ?_
  refine WP.aG rfl ?_
  refine WL.call T7 rfl (DT (kd := kd) (dp := dp) (lk := lk) (lv := lv) (B := B) (sl := sl) (sb := sb) (bits := bits) (k := k) H.aR (H.o 0 rfl) (by exact (H.aO 0 rfl 0 rfl : aH _ (fO bh bc bits) _)) (by exact (H.aO 0 rfl 4 rfl : aH _ (fE sl sb) _)) (by exact (H.aO 0 rfl 5 rfl : aH _ (aZ) _)) bU hp hk) ?_
  rintro _ w8 ⟨m21, rfl, hO, hB⟩
  replace H := H.eZ 0 rfl hO hB
  refine WL.nil ⟨(fa (nw 15 14) (fa (nw 15 12) (fa (nw 15 7) (fa (nw 15 3) c8)))), ?_⟩
  refine WP.mv rfl rfl rfl (WP.aC rfl rfl (PV.extract rfl rfl rfl) (WP.aC rfl rfl (PV.extract rfl rfl rfl) (WP.aG rfl ?_)))
  refine WL.aW H 0 rfl rfl rfl (new := kc (fI bits k (gI bits dp B sb) (eB (cZ (eT kd lk lv)) bits) dp)) rfl (cI dH (by simp only [aS, aY, aB, aD]; omega)) (bH _) (Laid.at (Laid.all (by simp only [aS, aY, aB, aD]; omega)) rfl) rfl ?_
  intro w9 H
  refine WL.nil ⟨(fa (nw 20 14) (fa (nw 20 12) (fa (nw 20 7) (fa (nw 20 3) c8)))), ?_⟩
  refine WP.as rfl rfl rfl (WP.done ?_)
  refine WE.bG (.take 0 (.take 1 (.take 2 (.take 3 (.take 4 (.take 5 (.take 6 (.take 7 (.aG 8 (.take 9 (.take 10 (.take 11 (.take 12 .done))))))))))))) mixed (by kernel_rfl) ?_
  replace H := H.out (Out.drew _)
  refine WP.mv rfl rfl rfl (WP.aC rfl rfl (PV.eql rfl rfl rfl) (WP.mv rfl rfl rfl ?_))
  refine WP.known (t := 26) (c := true) rfl rfl ?_
  refine WP.dO rfl rfl rfl fS rfl (aN.aF (H.l 0 rfl) (aK.all _) rfl) (cI dH (by simp only [aS, aY, aB, aD]; omega)) ?_
  refine WP.mv rfl rfl rfl (WP.aC rfl rfl (PV.nilCheck rfl rfl) (WP.aC rfl rfl (PV.fieldAddr rfl wW rfl) (WP.aM rfl rfl (RV.aV rfl eH rfl) (aN.aF (H.p 1 rfl) (aK.r (aK.l (aK.all _)) rfl) rfl) (WP.aG rfl ?_))))
  refine WL.pv (PV.vX (n := 32) rfl pN (by rw [hr]; rfl)) rfl ?_
  refine WL.nil ⟨(fa (nw 8 7) (fa (fun _ _ => (aN.aF (H.l 0 rfl) (aK.all _) rfl)) c8)), ?_⟩
  refine WP.dO rfl rfl rfl fS rfl ((bL.whole (by exact (H.p 3 rfl : (bL _ rb) _)))) (cI dH (by simp only [aS, aY, aB, aD]; omega)) ?_
  refine WP.aC rfl rfl (PV.DM rfl pN mM gO (by kernel_rfl) rfl rfl (by assumption) (by assumption)) (WP.aC rfl rfl (PV.c5 rfl rfl rfl) (WP.as rfl rfl rfl (WP.done (WE.ret ⟨[_], _, .nil _, ⟨rfl, trivial⟩, ?_⟩))))
  exact ⟨_, rfl, H.cT, H.o 0 rfl⟩
theorem aEr {X : Nat → Prop} {w : World} {bk bh bc : Nat} {bits n0 : Int} {sr sk sv se : Value} {pr : Bool} {k vv rb : List UInt8} {kd dp : Nat} {lk lv B : List UInt8} {sl : Value} {sb : List (List UInt8)} (hX : c6 X w) (fA : aN w bc 213 ([.int .i64 n0])) (bT : aH (fun c_ => X c_ ∨ c_ = bc) (fO bh bc bits) w) (dJ : aH (fun c_ => X c_ ∨ c_ = bc) (fun w => aN w bk 168 (JW bh sr sk sv pr se (fU kd dp lk lv B sl))) w) (fQ : aH (fun c_ => X c_ ∨ c_ = bc) (bL sk k) w) (jW : aH (fun c_ => X c_ ∨ c_ = bc) (bL sv vv) w) (nM : aH (fun c_ => X c_ ∨ c_ = bc) (fE sl sb) w) (sK : aH (fun c_ => X c_ ∨ c_ = bc) (aZ) w) (bU : 0 ≤ bits ∧ bits ≤ 256) (hp : jG kd dp lk lv B sb) (hk : k.length = 32) (hv : vv.length ≤ 65535) (yJ : zF kd dp lk lv k (nI bits vv) pr) :
  bC prog 127 [.pointer (some ⟨bk, 0, none⟩)].toArray w fun v w' => ∃ m, v = .int .i64 0 ∧ Out (· = bc) w w' ∧ aN w' bc 213 [.int .i64 m] := by
 refine bC.aI (N := 7) func127 rfl rfl (by simp) ?_
 have H := ((((((St.dK (b := bc) (t := 213) (l := [.int .i64 n0]) hX fA).add (cC sK)).add (cC nM)).add (cC jW)).add (cC fQ)).add (cC dJ)).add (cC bT)
 refine WE.aA (WL.as rfl rfl (WL.nil (WE.aA (WL.mv rfl rfl ?_))))
 refine WL.call aHj rfl (IC (bk := bk) (bh := bh) (bits := bits) (k := k) (vv := vv) (rb := []) (sr := sr) (sk := sk) (sv := sv) (se := se) (pr := pr) (kd := kd) (dp := dp) (lk := lk) (lv := lv) (B := B) (sl := sl) (sb := sb) H.aR (H.o 0 rfl) (by exact (H.aO 0 rfl 0 rfl : aH _ (fO bh bc bits) _)) (by exact (H.aO 0 rfl 1 rfl : aH _ (fun w => aN w bk 168 (JW bh sr sk sv pr se (fU kd dp lk lv B sl))) _)) (by exact (H.aO 0 rfl 2 rfl : aH _ (bL sk k) _)) (by exact (H.aO 0 rfl 3 rfl : aH _ (bL sv vv) _)) (by exact (H.aO 0 rfl 4 rfl : aH _ (fE sl sb) _)) (by exact (H.aO 0 rfl 5 rfl : aH _ (aZ) _)) bU hp hk hv yJ) ?_
 rintro _ w1 ⟨m4, rfl, hO, hB⟩
 replace H := H.eZ 0 rfl hO hB
 refine WL.pv (PV.not rfl rfl) rfl ?_
 refine WL.call BM rfl (uB (c := _) (e := 12) H.aR) ?_
 rintro _ w2 ⟨rfl, hO⟩
 replace H := H.out hO
 refine WL.as rfl rfl (WL.nil (WE.ret ⟨[_], _, .nil _, ⟨rfl, trivial⟩, ?_⟩))
 exact ⟨_, rfl, H.cT, H.o 0 rfl⟩
theorem aEq {X : Nat → Prop} {w : World} {bk bh bc : Nat} {bits n0 : Int} {sr sk sv se : Value} {pr : Bool} {k vv rb : List UInt8} {kd dp : Nat} {lk lv B : List UInt8} {sl : Value} {sb : List (List UInt8)} (hX : c6 X w) (fA : aN w bc 213 ([.int .i64 n0])) (bT : aH (fun c_ => X c_ ∨ c_ = bc) (fO bh bc bits) w) (dJ : aH (fun c_ => X c_ ∨ c_ = bc) (fun w => aN w bk 168 (JW bh sr sk sv pr se (fU kd dp lk lv B sl))) w) (fQ : aH (fun c_ => X c_ ∨ c_ = bc) (bL sk k) w) (jW : aH (fun c_ => X c_ ∨ c_ = bc) (bL sr rb) w) (nM : aH (fun c_ => X c_ ∨ c_ = bc) (fE sl sb) w) (sK : aH (fun c_ => X c_ ∨ c_ = bc) (aZ) w) (bU : 0 ≤ bits ∧ bits ≤ 256) (hp : jG kd dp lk lv B sb) (hk : k.length = 32) (hr : rb.length = 32) :
  bC prog 129 [.pointer (some ⟨bk, 0, none⟩)].toArray w fun v w' => ∃ m, v = .int .i64 (if (fI bits k (gI bits dp B sb) (eB (cZ (eT kd lk lv)) bits) dp) = rb then 0 else 13) ∧ Out (· = bc) w w' ∧ aN w' bc 213 [.int .i64 m] := by
 refine bC.aI (N := 7) func129 rfl rfl (by simp) ?_
 have H := ((((((St.dK (b := bc) (t := 213) (l := [.int .i64 n0]) hX fA).add (cC sK)).add (cC nM)).add (cC jW)).add (cC fQ)).add (cC dJ)).add (cC bT)
 refine WE.aA (WL.as rfl rfl (WL.nil (WE.aA (WL.mv rfl rfl ?_))))
 refine WL.call aHg rfl (YR (bk := bk) (bh := bh) (bits := bits) (k := k) (vv := []) (rb := rb) (sr := sr) (sk := sk) (sv := sv) (se := se) (pr := pr) (kd := kd) (dp := dp) (lk := lk) (lv := lv) (B := B) (sl := sl) (sb := sb) H.aR (H.o 0 rfl) (by exact (H.aO 0 rfl 0 rfl : aH _ (fO bh bc bits) _)) (by exact (H.aO 0 rfl 1 rfl : aH _ (fun w => aN w bk 168 (JW bh sr sk sv pr se (fU kd dp lk lv B sl))) _)) (by exact (H.aO 0 rfl 2 rfl : aH _ (bL sk k) _)) (by exact (H.aO 0 rfl 3 rfl : aH _ (bL sr rb) _)) (by exact (H.aO 0 rfl 4 rfl : aH _ (fE sl sb) _)) (by exact (H.aO 0 rfl 5 rfl : aH _ (aZ) _)) bU hp hk hr) ?_
 rintro _ w1 ⟨m4, rfl, hO, hB⟩
 replace H := H.eZ 0 rfl hO hB
 refine WL.pv (PV.not rfl rfl) rfl ?_
 refine WL.call BM rfl (uB (c := _) (e := 13) H.aR) ?_
 rintro _ w2 ⟨rfl, hO⟩
 replace H := H.out hO
 refine WL.as rfl rfl (WL.nil (WE.ret ⟨[_], _, .nil _, ⟨rfl, trivial⟩, ?_⟩))
 refine ⟨_, ?_, H.cT, H.o 0 rfl⟩
 show Value.int .i64 _ = Value.int .i64 _
 congr 1
 by_cases h_ : (fI bits k (gI bits dp B sb) (eB (cZ (eT kd lk lv)) bits) dp) = rb
 ·
  simp [h_]
 ·
  simp [h_]
open Go.Extern
theorem ET (v x : Value) : Extern.ReflectliteValue.set [v, x].toArray = (do
  let (some (dst, a, fl), some (src, b, _)) := (← Extern.ReflectliteValue.parts v, ← Extern.ReflectliteValue.parts x)
   | unsupported (.noEntry "extern/(internal/reflectlite.Value).Set.zeroValue")
  if fl / Extern.ReflectliteValue.flagAddr % 2 == 0 then unsupported (.noEntry "extern/(internal/reflectlite.Value).Set.unaddressable")
  let val ← loadVar src b
  if ← Extern.Rtype.directlyAssignable dst src then storeVar dst a val
  else if ← Extern.Rtype.implements dst src then
   if (← Extern.Rtype.kind src) == 20 then
    match val with
    | .nilIface => unsupported (.noEntry "extern/reflectlite: a nil value of one interface type handed on as a value of another")
    | _ => storeVar dst a val
   else storeVar dst a (.iface src val)
  else panicString ("reflectlite.Set: value of type " ++ (← Extern.Rtype.spelt src) ++ " is not assignable to type " ++ (← Extern.Rtype.spelt dst))
  pure (.tuple #[])) := rfl
def eV (w : World) : Prop := dD w ⟨0, 0, none⟩ [(.iface 223 (.agg [(.pointer (some ⟨3, 61, none⟩))].toArray))]
theorem meK (h : Value) (w : World) : (Go.method (prog.types.size + Made.depth) 223 (.agg [h].toArray) "Kind").run prog w = .ok (237, h) w := by kernel_rfl
theorem meE (h : Value) (w : World) : (Go.method (prog.types.size + Made.depth) 223 (.agg [h].toArray) "Elem").run prog w = .ok (253, .agg [h].toArray) w := by kernel_rfl
theorem meI (h : Value) (w : World) : (Go.method (prog.types.size + Made.depth) 223 (.agg [h].toArray) "Implements").run prog w = .ok (254, .agg [h].toArray) w := by kernel_rfl
theorem meA (h : Value) (w : World) : (Go.method (prog.types.size + Made.depth) 223 (.agg [h].toArray) "AssignableTo").run prog w = .ok (251, .agg [h].toArray) w := by kernel_rfl
theorem meC (h : Value) (w : World) : (Go.method (prog.types.size + Made.depth) 223 (.agg [h].toArray) "Comparable").run prog w = .ok (252, .agg [h].toArray) w := by kernel_rfl
abbrev rvV (t : TypeId) (fl : Int) (b : Nat) : Value := .agg [.pointer (some ⟨3, t, none⟩), .pointer (some ⟨b, 0, none⟩), .int .u64 fl].toArray
theorem aKE (w : World) : ((Extern.ReflectliteType.relation "AssignableTo" Extern.ReflectliteType.assignableTo) [.agg [(.pointer (some ⟨3, 219, none⟩))].toArray, (.iface 223 (.agg [(.pointer (some ⟨3, 42, none⟩))].toArray))].toArray).run prog w = .ok (.bool false) w := by kernel_rfl
theorem voE (t : Addr) (w : World) : (Extern.ReflectliteValue.unpack (.iface 97 (.pointer (some t)))).run prog w = .ok (.agg [(.pointer (some ⟨3, 97, none⟩)), .pointer (some ⟨w.heap.size, 0, none⟩), .int .u64 150].toArray) (w.alloc (.cells [.pointer (some t)].toArray 97)) := by kernel_rfl
theorem tyE (a : Addr) (w : World) : ((Extern.ReflectliteValue.methodAny (Extern.ReflectliteValue.valueError "reflectlite.Value.Type" 0) (fun t _ _ _ => Extern.ReflectliteType.toType t)) [(.agg [(.pointer (some ⟨3, 97, none⟩)), .pointer (some a), .int .u64 150].toArray)].toArray).run prog w = .ok (.iface 223 (.agg [(.pointer (some ⟨3, 97, none⟩))].toArray)) w := by kernel_rfl
theorem kiE (w : World) : ((Extern.ReflectliteType.abiMethod fun t => do pure (.int .u8 (← Extern.Rtype.kind t))) [(.pointer (some ⟨3, 97, none⟩))].toArray).run prog w = .ok (.int .u8 22) w := by kernel_rfl
theorem kjE (w : World) : ((Extern.ReflectliteType.abiMethod fun t => do pure (.int .u8 (← Extern.Rtype.kind t))) [(.pointer (some ⟨3, 42, none⟩))].toArray).run prog w = .ok (.int .u8 2) w := by kernel_rfl
theorem paE (a : Addr) (w : World) : (Extern.ReflectliteValue.parts (.agg [(.pointer (some ⟨3, 97, none⟩)), .pointer (some a), .int .u64 150].toArray)).run prog w = .ok (some (97, a, 150)) w := by kernel_rfl
theorem niE (a p : Addr) (W : World) (ha : W.cell? a = some (.pointer (some p))) : ((Extern.ReflectliteValue.method (Extern.ReflectliteValue.valueError "reflectlite.Value.IsNil" 0) Extern.ReflectliteValue.isNil) [(.agg [(.pointer (some ⟨3, 97, none⟩)), .pointer (some a), .int .u64 150].toArray)].toArray).run prog W = .ok (.bool false) W := by
 have e : ∀ (z : Sem Value) (f : TypeId → Addr → Nat → Nat → Sem Value) (v : Value), Extern.ReflectliteValue.method z f [v].toArray = (do match ← Extern.ReflectliteValue.parts v with | none => z | some (t, a, fl) => f t a fl (fl % 32)) := fun _ _ _ => rfl
 rw [e]
 simp only [Sem.run_bind, paE, Result.andThen]
 simp [Extern.ReflectliteValue.isNil, loadVar, isAgg, underlying, Tryz.underlying97, ha, Result.andThen]
theorem elE (w : World) : ((Extern.ReflectliteType.method Extern.ReflectliteType.elem) [.agg [(.pointer (some ⟨3, 97, none⟩))].toArray].toArray).run prog w = .ok (.iface 223 (.agg [(.pointer (some ⟨3, 42, none⟩))].toArray)) w := by kernel_rfl
theorem imE (w : World) : ((Extern.ReflectliteType.relation "Implements" Extern.ReflectliteType.implements_) [.agg [(.pointer (some ⟨3, 42, none⟩))].toArray, (.iface 223 (.agg [(.pointer (some ⟨3, 61, none⟩))].toArray))].toArray).run prog w = .ok (.bool true) w := by kernel_rfl
theorem asE (w : World) : ((Extern.ReflectliteType.relation "AssignableTo" Extern.ReflectliteType.assignableTo) [.agg [(.pointer (some ⟨3, 42, none⟩))].toArray, (.iface 223 (.agg [(.pointer (some ⟨3, 42, none⟩))].toArray))].toArray).run prog w = .ok (.bool true) w := by kernel_rfl
theorem toE (c : Int) (w : World) : (Extern.ReflectliteType.typeOf [.iface 42 (.int .i64 c)].toArray).run prog w = .ok (.iface 223 (.agg [(.pointer (some ⟨3, 42, none⟩))].toArray)) w := by kernel_rfl
theorem vwE (c : Int) (w : World) : (Extern.ReflectliteValue.unpack (.iface 42 (.int .i64 c))).run prog w = .ok (.agg [(.pointer (some ⟨3, 42, none⟩)), .pointer (some ⟨w.heap.size, 0, none⟩), .int .u64 130].toArray) (w.alloc (.cells [(.int .i64 c)].toArray 42)) := by kernel_rfl
theorem eoE (w : World) : (Extern.Rtype.elem? 97).run prog w = .ok (some 42) w := by kernel_rfl
theorem mkE (p : Addr) (w : World) : (Extern.ReflectliteValue.mk 42 p Extern.ReflectliteValue.flagAddr).run prog w = .ok (.agg [(.pointer (some ⟨3, 42, none⟩)), .pointer (some p), .int .u64 386].toArray) w := by kernel_rfl
theorem evE (a p : Addr) (W : World) (ha : W.cell? a = some (.pointer (some p))) : ((Extern.ReflectliteValue.method (Extern.ReflectliteValue.valueError "reflectlite.Value.Elem" 0) Extern.ReflectliteValue.elem) [(.agg [(.pointer (some ⟨3, 97, none⟩)), .pointer (some a), .int .u64 150].toArray)].toArray).run prog W = .ok (.agg [(.pointer (some ⟨3, 42, none⟩)), .pointer (some p), .int .u64 386].toArray) W := by
 have e : ∀ (z : Sem Value) (f : TypeId → Addr → Nat → Nat → Sem Value) (v : Value), Extern.ReflectliteValue.method z f [v].toArray = (do match ← Extern.ReflectliteValue.parts v with | none => z | some (t, a, fl) => f t a fl (fl % 32)) := fun _ _ _ => rfl
 rw [e]
 simp only [Sem.run_bind, paE, Result.andThen]
 simp [Extern.ReflectliteValue.elem, loadVar, isAgg, underlying, Tryz.underlying97, ha, Result.andThen, eoE, mkE]
theorem pbE (a : Addr) (w : World) : (Extern.ReflectliteValue.parts (.agg [(.pointer (some ⟨3, 42, none⟩)), .pointer (some a), .int .u64 386].toArray)).run prog w = .ok (some (42, a, 386)) w := by kernel_rfl
theorem pcE (a : Addr) (w : World) : (Extern.ReflectliteValue.parts (.agg [(.pointer (some ⟨3, 42, none⟩)), .pointer (some a), .int .u64 130].toArray)).run prog w = .ok (some (42, a, 130)) w := by kernel_rfl
theorem diE (w : World) : (Extern.Rtype.directlyAssignable 42 42).run prog w = .ok true w := by kernel_rfl
theorem stE (ta b : Addr) (c : Int) (old : Value) (W : World) (hb : W.cell? b = some (.int .i64 c)) (ht : W.cell? ta = some old) (hf : W.frozen? ta = false) :
  (Extern.ReflectliteValue.set [(.agg [(.pointer (some ⟨3, 42, none⟩)), .pointer (some ta), .int .u64 386].toArray), (.agg [(.pointer (some ⟨3, 42, none⟩)), .pointer (some b), .int .u64 130].toArray)].toArray).run prog W = .ok (.tuple #[]) (W.setCell ta (.int .i64 c)) := by
 rw [ET]
 simp only [Sem.run_bind, pbE, pcE, Result.andThen]
 simp [Extern.ReflectliteValue.flagAddr, loadVar, isAgg, underlying, Tryz.underlying42, hb, Result.andThen, diE, storeVar, Value.cells, storeCells, Addr.add]
 rw [run_store prog W ta _ _ rfl]
 simp [ht, hf]
theorem voF (t : Addr) (w : World) : (Extern.ReflectliteValue.unpack (.iface 235 (.pointer (some t)))).run prog w = .ok (.agg [(.pointer (some ⟨3, 235, none⟩)), .pointer (some ⟨w.heap.size, 0, none⟩), .int .u64 150].toArray) (w.alloc (.cells [.pointer (some t)].toArray 235)) := by kernel_rfl
theorem tyF (a : Addr) (w : World) : ((Extern.ReflectliteValue.methodAny (Extern.ReflectliteValue.valueError "reflectlite.Value.Type" 0) (fun t _ _ _ => Extern.ReflectliteType.toType t)) [(.agg [(.pointer (some ⟨3, 235, none⟩)), .pointer (some a), .int .u64 150].toArray)].toArray).run prog w = .ok (.iface 223 (.agg [(.pointer (some ⟨3, 235, none⟩))].toArray)) w := by kernel_rfl
theorem kiF (w : World) : ((Extern.ReflectliteType.abiMethod fun t => do pure (.int .u8 (← Extern.Rtype.kind t))) [(.pointer (some ⟨3, 235, none⟩))].toArray).run prog w = .ok (.int .u8 22) w := by kernel_rfl
theorem kjF (w : World) : ((Extern.ReflectliteType.abiMethod fun t => do pure (.int .u8 (← Extern.Rtype.kind t))) [(.pointer (some ⟨3, 219, none⟩))].toArray).run prog w = .ok (.int .u8 22) w := by kernel_rfl
theorem paF (a : Addr) (w : World) : (Extern.ReflectliteValue.parts (.agg [(.pointer (some ⟨3, 235, none⟩)), .pointer (some a), .int .u64 150].toArray)).run prog w = .ok (some (235, a, 150)) w := by kernel_rfl
theorem niF (a p : Addr) (W : World) (ha : W.cell? a = some (.pointer (some p))) : ((Extern.ReflectliteValue.method (Extern.ReflectliteValue.valueError "reflectlite.Value.IsNil" 0) Extern.ReflectliteValue.isNil) [(.agg [(.pointer (some ⟨3, 235, none⟩)), .pointer (some a), .int .u64 150].toArray)].toArray).run prog W = .ok (.bool false) W := by
 have e : ∀ (z : Sem Value) (f : TypeId → Addr → Nat → Nat → Sem Value) (v : Value), Extern.ReflectliteValue.method z f [v].toArray = (do match ← Extern.ReflectliteValue.parts v with | none => z | some (t, a, fl) => f t a fl (fl % 32)) := fun _ _ _ => rfl
 rw [e]
 simp only [Sem.run_bind, paF, Result.andThen]
 simp [Extern.ReflectliteValue.isNil, loadVar, isAgg, underlying, Tryz.underlying235, ha, Result.andThen]
theorem elF (w : World) : ((Extern.ReflectliteType.method Extern.ReflectliteType.elem) [.agg [(.pointer (some ⟨3, 235, none⟩))].toArray].toArray).run prog w = .ok (.iface 223 (.agg [(.pointer (some ⟨3, 219, none⟩))].toArray)) w := by kernel_rfl
theorem imF (w : World) : ((Extern.ReflectliteType.relation "Implements" Extern.ReflectliteType.implements_) [.agg [(.pointer (some ⟨3, 219, none⟩))].toArray, (.iface 223 (.agg [(.pointer (some ⟨3, 61, none⟩))].toArray))].toArray).run prog w = .ok (.bool true) w := by kernel_rfl
theorem asF (w : World) : ((Extern.ReflectliteType.relation "AssignableTo" Extern.ReflectliteType.assignableTo) [.agg [(.pointer (some ⟨3, 219, none⟩))].toArray, (.iface 223 (.agg [(.pointer (some ⟨3, 219, none⟩))].toArray))].toArray).run prog w = .ok (.bool true) w := by kernel_rfl
theorem toF (p_ : Addr) (w : World) : (Extern.ReflectliteType.typeOf [.iface 219 (.pointer (some p_))].toArray).run prog w = .ok (.iface 223 (.agg [(.pointer (some ⟨3, 219, none⟩))].toArray)) w := by kernel_rfl
theorem vwF (p_ : Addr) (w : World) : (Extern.ReflectliteValue.unpack (.iface 219 (.pointer (some p_)))).run prog w = .ok (.agg [(.pointer (some ⟨3, 219, none⟩)), .pointer (some ⟨w.heap.size, 0, none⟩), .int .u64 150].toArray) (w.alloc (.cells [(.pointer (some p_))].toArray 219)) := by kernel_rfl
theorem eoF (w : World) : (Extern.Rtype.elem? 235).run prog w = .ok (some 219) w := by kernel_rfl
theorem mkF (p : Addr) (w : World) : (Extern.ReflectliteValue.mk 219 p Extern.ReflectliteValue.flagAddr).run prog w = .ok (.agg [(.pointer (some ⟨3, 219, none⟩)), .pointer (some p), .int .u64 406].toArray) w := by kernel_rfl
theorem evF (a p : Addr) (W : World) (ha : W.cell? a = some (.pointer (some p))) : ((Extern.ReflectliteValue.method (Extern.ReflectliteValue.valueError "reflectlite.Value.Elem" 0) Extern.ReflectliteValue.elem) [(.agg [(.pointer (some ⟨3, 235, none⟩)), .pointer (some a), .int .u64 150].toArray)].toArray).run prog W = .ok (.agg [(.pointer (some ⟨3, 219, none⟩)), .pointer (some p), .int .u64 406].toArray) W := by
 have e : ∀ (z : Sem Value) (f : TypeId → Addr → Nat → Nat → Sem Value) (v : Value), Extern.ReflectliteValue.method z f [v].toArray = (do match ← Extern.ReflectliteValue.parts v with | none => z | some (t, a, fl) => f t a fl (fl % 32)) := fun _ _ _ => rfl
 rw [e]
 simp only [Sem.run_bind, paF, Result.andThen]
 simp [Extern.ReflectliteValue.elem, loadVar, isAgg, underlying, Tryz.underlying235, ha, Result.andThen, eoF, mkF]
theorem pbF (a : Addr) (w : World) : (Extern.ReflectliteValue.parts (.agg [(.pointer (some ⟨3, 219, none⟩)), .pointer (some a), .int .u64 406].toArray)).run prog w = .ok (some (219, a, 406)) w := by kernel_rfl
theorem pcF (a : Addr) (w : World) : (Extern.ReflectliteValue.parts (.agg [(.pointer (some ⟨3, 219, none⟩)), .pointer (some a), .int .u64 150].toArray)).run prog w = .ok (some (219, a, 150)) w := by kernel_rfl
theorem diF (w : World) : (Extern.Rtype.directlyAssignable 219 219).run prog w = .ok true w := by kernel_rfl
theorem stF (ta b : Addr) (p_ : Addr) (old : Value) (W : World) (hb : W.cell? b = some (.pointer (some p_))) (ht : W.cell? ta = some old) (hf : W.frozen? ta = false) :
  (Extern.ReflectliteValue.set [(.agg [(.pointer (some ⟨3, 219, none⟩)), .pointer (some ta), .int .u64 406].toArray), (.agg [(.pointer (some ⟨3, 219, none⟩)), .pointer (some b), .int .u64 150].toArray)].toArray).run prog W = .ok (.tuple #[]) (W.setCell ta (.pointer (some p_))) := by
 rw [ET]
 simp only [Sem.run_bind, pbF, pcF, Result.andThen]
 simp [Extern.ReflectliteValue.flagAddr, loadVar, isAgg, underlying, Tryz.underlying219, hb, Result.andThen, diF, storeVar, Value.cells, storeCells, Addr.add]
 rw [run_store prog W ta _ _ rfl]
 simp [ht, hf]
theorem taA (v : Value) (w : World) : (Instr.typeAssert (.iface 219 v) 61 227 true).run prog w = .ok (.tuple [.nilIface, .bool false].toArray) w := Go.run_typeAssert_lacksB Tryz.underlying227 (by kernel_rfl) (by kernel_rfl) v 61 w
theorem taU (v : Value) (w : World) : (Instr.typeAssert (.iface 219 v) 61 230 true).run prog w = .ok (.tuple [.iface 219 v, .bool true].toArray) w := Go.run_typeAssert_hasB Tryz.underlying230 (by kernel_rfl) v 61 w
theorem aHV {X : Nat → Prop} {w : World} {bt vW : Nat} {old : Value} {bf : Nat} {op : List UInt8} {ix code : Int} (hX : c6 X w) (fA : aN w bt 42 ([old])) (bT : aH (fun c_ => X c_ ∨ c_ = bt) (fun w => dD w ⟨vW, 0, none⟩ [.pointer (some ⟨bt, 0, none⟩)]) w) (dJ : aH (fun c_ => X c_ ∨ c_ = bt) (fun w => aN w bf 221 (dY op ix code)) w) :
  bC prog 84 [.iface 219 (.pointer (some ⟨bf, 0, none⟩)), .iface 97 (.pointer (some ⟨bt, 0, none⟩)), (.agg [(.pointer (some ⟨3, 97, none⟩)), .pointer (some ⟨vW, 0, none⟩), .int .u64 150].toArray), (.iface 223 (.agg [(.pointer (some ⟨3, 42, none⟩))].toArray))].toArray w fun v w' => v = .bool true ∧ Out (· = bt) w w' ∧ aN w' bt 42 [.int .i64 code] := by
 refine bC.aI (N := 62) func84 rfl rfl (by simp) ?_
 have H := ((St.dK (b := bt) (t := 42) (l := [old]) hX fA).add (cC dJ)).add (cC bT)
 refine WE.aA ?_
 refine WL.box (l := [(.pointer (some ⟨3, 97, none⟩)), .pointer (some ⟨vW, 0, none⟩), .int .u64 150]) H rfl rfl rfl ?_
 intro b6 w1 H
 refine WL.as rfl rfl (WL.nil (WE.block ?_))
 refine WE.j6 2 ?_
 refine dZ.step ?_
 refine WE.block (WE.seq (WE.aA (WL.mv rfl rfl ?_)))
 refine WL.extern (e := Extern.ReflectliteType.typeOf) func97 (by kernel_rfl) (by kernel_rfl) (by kernel_rfl) (by kernel_rfl) rfl (toF _ _) ?_
 refine WL.mv rfl rfl ?_
 refine WL.jV (e := (Extern.ReflectliteType.relation "AssignableTo" Extern.ReflectliteType.assignableTo)) rfl (fun w => meA _ w) func251 (by kernel_rfl) (by kernel_rfl) (by kernel_rfl) (by kernel_rfl) rfl (aKE _) ?_
 refine WL.nil ?_
 refine WE.bD rfl rfl ?_
 refine WE.skip (WE.seq (WE.aA (WL.mv rfl rfl ?_)))
 refine WL.pv (PV.MS rfl (fun w => taA _ w)) rfl ?_
 refine WL.mv rfl rfl (WL.pv (PV.extract rfl rfl rfl) rfl (WL.pv (PV.extract rfl rfl rfl) rfl (WL.as rfl rfl (WL.as rfl rfl (WL.nil (WE.aA (WL.mv rfl rfl ?_)))))))
 refine WL.mv rfl rfl (WL.known (t := 31) (c := false) rfl rfl (WL.off rfl (WL.off rfl (WL.off rfl (WL.pv (PV.cF rfl rfl rfl) rfl (WL.nil (WE.jF rfl ?_)))))))
 refine WE.skip (WE.aA (WL.mv rfl rfl (WL.nil (WE.block (WE.aA ?_)))))
 refine WL.pv (PV.MS rfl (fun w => taU _ w)) rfl ?_
 refine WL.pv (PV.extract rfl rfl rfl) rfl (WL.pv (PV.extract rfl rfl rfl) rfl (WL.nil ?_))
 refine WE.cR rfl rfl ?_
 refine WE.aA (WL.as rfl rfl (WL.nil (WE.aA (WL.mv rfl rfl ?_))))
 refine WL.Y0 rfl (by kernel_rfl) aA2 aGq rfl (VR (bf := bf) (op := op) (ix := ix) (code := code) H.aR (by exact (H.bJ 1 rfl : aH _ (fun w => aN w bf 221 (dY op ix code)) _))) ?_
 rintro _ w5 ⟨rfl, hO⟩
 replace H := H.out hO
 refine WL.as rfl rfl (WL.nil (WE.aA (WL.mv rfl rfl ?_)))
 refine WL.pv (PV.qL rfl (by kernel_rfl) (by exact zS.of)) rfl ?_
 refine WL.nil ?_
 refine WE.bD rfl rfl ?_
 refine WE.skip ?_
 refine dZ.step ?_
 refine WE.block (WE.seq (WE.aA (WL.mv rfl rfl ?_)))
 refine WL.extern (e := Extern.ReflectliteType.typeOf) func97 (by kernel_rfl) (by kernel_rfl) (by kernel_rfl) (by kernel_rfl) rfl (toE code _) ?_
 refine WL.mv rfl rfl ?_
 refine WL.jV (e := (Extern.ReflectliteType.relation "AssignableTo" Extern.ReflectliteType.assignableTo)) rfl (fun w => meA _ w) func251 (by kernel_rfl) (by kernel_rfl) (by kernel_rfl) (by kernel_rfl) rfl (asE _) ?_
 refine WL.nil ?_
 refine WE.cR rfl rfl ?_
 refine WE.aA ?_
 refine WL.bE rfl vY rfl rfl (aN.aF (H.l 0 rfl) (aK.all _) rfl) (by exact rC) ?_
 refine WL.extern (e := (Extern.ReflectliteValue.method (Extern.ReflectliteValue.valueError "reflectlite.Value.Elem" 0) Extern.ReflectliteValue.elem)) func131 (by kernel_rfl) (by kernel_rfl) (by kernel_rfl) (by kernel_rfl) rfl (evE _ _ _ (by exact (by have h_ := (H.p 0 rfl : dD _ ⟨vW, 0, none⟩ [.pointer (some ⟨bt, 0, none⟩)]) 0 _ rfl; rwa [show ((⟨vW, 0, none⟩ : Addr).add 0) = ⟨vW, 0, none⟩ from rfl] at h_))) ?_
 refine WL.mv rfl rfl ?_
 refine WL.wZ (avs := [.iface 42 (.int .i64 code)]) (e := (fun args => Extern.ReflectliteValue.unpack (args.getD 0 (.tuple #[])))) (rvV 42 130) [.int .i64 code] 42 H func81 (by kernel_rfl) (by kernel_rfl) (by kernel_rfl) (by kernel_rfl) rfl (vwE code _) rfl ?_
 intro b23 xG H
 refine WL.extern (e := Extern.ReflectliteValue.set) func132 (by kernel_rfl) (by kernel_rfl) (by kernel_rfl) (by kernel_rfl) rfl (stE ⟨bt, 0, none⟩ ⟨b23, 0, none⟩ code old _ (aN.cell (H.l 0 rfl) 0) (aN.cell (H.o 0 rfl) 0) (aN.frozen (H.o 0 rfl) _ rfl)) ?_
 replace H := H.wD (i := 0) rfl (Out.set _ ⟨bt, 0, none⟩ _) (aP.blk bt 42 [.int .i64 code]) (aN.aEB (H.o 0 rfl)) (fun _ => Iff.rfl)
 refine WL.nil (WE.aA (WL.as rfl rfl (WL.nil (WE.ret ⟨[_], _, .nil _, ⟨rfl, trivial⟩, ?_⟩))))
 exact ⟨rfl, H.cT, H.o 0 rfl⟩
theorem aBX {X : Nat → Prop} {w : World} {bt : Nat} {old : Value} {bf : Nat} {op : List UInt8} {ix code : Int} (hX : c6 X w) (fA : aN w bt 42 ([old])) (bT : aH (fun c_ => X c_ ∨ c_ = bt) (eV) w) (dJ : aH (fun c_ => X c_ ∨ c_ = bt) (fun w => aN w bf 221 (dY op ix code)) w) :
  bC prog 39 [.iface 219 (.pointer (some ⟨bf, 0, none⟩)), .iface 97 (.pointer (some ⟨bt, 0, none⟩))].toArray w fun v w' => v = .bool true ∧ Out (· = bt) w w' ∧ aN w' bt 42 [.int .i64 code] := by
 refine bC.aI (N := 42) func39 rfl rfl (by simp) ?_
 have H := ((St.dK (b := bt) (t := 42) (l := [old]) hX fA).add (cC dJ)).add (cC bT)
 refine WE.aA (WL.as rfl rfl (WL.nil (WE.seq (WE.aA (WL.mv rfl rfl ?_)))))
 refine WL.pv (PV.qL rfl (by kernel_rfl) (by exact zS.of)) rfl ?_
 refine WL.nil ?_
 refine WE.bD rfl rfl ?_
 refine WE.skip (WE.seq (WE.aA (WL.mv rfl rfl ?_)))
 refine WL.pv (PV.qL rfl (by kernel_rfl) (by exact zS.of)) rfl ?_
 refine WL.nil ?_
 refine WE.bD rfl rfl ?_
 refine WE.skip (WE.aA (WL.mv rfl rfl ?_))
 refine WL.wZ (avs := [.iface 97 (.pointer (some ⟨bt, 0, none⟩))]) (e := (fun args => Extern.ReflectliteValue.unpack (args.getD 0 (.tuple #[])))) (rvV 97 150) [.pointer (some ⟨bt, 0, none⟩)] 97 H func81 (by kernel_rfl) (by kernel_rfl) (by kernel_rfl) (by kernel_rfl) rfl (voE _ _) rfl ?_
 intro vW w2 H
 refine WL.alloc H rfl aAQ rfl ?_
 intro b5 w3 H
 refine WL.aW H 0 rfl rfl rfl (new := [(.pointer (some ⟨3, 97, none⟩)), .pointer (some ⟨vW, 0, none⟩), .int .u64 150]) rfl (by exact rC) (bB _ rfl) (Laid.at (Laid.all (by simp only [aS])) rfl) rfl ?_
 intro w4 H
 refine WL.nil (WE.aA ?_)
 refine WL.bE rfl vY rfl rfl (aN.aF (H.l 0 rfl) (aK.all _) rfl) (by exact rC) ?_
 refine WL.extern (e := (Extern.ReflectliteValue.methodAny (Extern.ReflectliteValue.valueError "reflectlite.Value.Type" 0) (fun t _ _ _ => Extern.ReflectliteType.toType t))) func82 (by kernel_rfl) (by kernel_rfl) (by kernel_rfl) (by kernel_rfl) rfl (tyE _ _) ?_
 refine WL.as rfl rfl (WL.nil (WE.seq (WE.aA (WL.mv rfl rfl ?_))))
 refine WL.jV (e := (Extern.ReflectliteType.abiMethod fun t => do pure (.int .u8 (← Extern.Rtype.kind t)))) rfl (fun w => meK _ w) func237 (by kernel_rfl) (by kernel_rfl) (by kernel_rfl) (by kernel_rfl) rfl (kiE _) ?_
 refine WL.pv (PV.neq rfl rfl rfl) rfl (WL.mv rfl rfl (WL.known (t := 20) (c := false) rfl rfl ?_))
 refine WL.bE rfl vY rfl rfl (aN.aF (H.l 0 rfl) (aK.all _) rfl) (by exact rC) ?_
 refine WL.extern (e := (Extern.ReflectliteValue.method (Extern.ReflectliteValue.valueError "reflectlite.Value.IsNil" 0) Extern.ReflectliteValue.isNil)) func83 (by kernel_rfl) (by kernel_rfl) (by kernel_rfl) (by kernel_rfl) rfl (niE _ ⟨bt, 0, none⟩ _ (by exact aN.cell (H.l 1 rfl) 0)) ?_
 refine WL.pv (PV.cF rfl rfl rfl) rfl (WL.nil ?_)
 refine WE.bD rfl rfl ?_
 refine WE.skip (WE.aA (WL.mv rfl rfl ?_))
 refine WL.jV (e := (Extern.ReflectliteType.method Extern.ReflectliteType.elem)) rfl (fun w => meE _ w) func253 (by kernel_rfl) (by kernel_rfl) (by kernel_rfl) (by kernel_rfl) rfl (elE _) ?_
 refine WL.as rfl rfl (WL.nil (WE.seq (WE.aA (WL.mv rfl rfl ?_))))
 refine WL.jV (e := (Extern.ReflectliteType.abiMethod fun t => do pure (.int .u8 (← Extern.Rtype.kind t)))) rfl (fun w => meK _ w) func237 (by kernel_rfl) (by kernel_rfl) (by kernel_rfl) (by kernel_rfl) rfl (kjE _) ?_
 refine WL.pv (PV.neq rfl rfl rfl) rfl (WL.mv rfl rfl (WL.known (t := 30) (c := true) rfl rfl (WL.mv rfl rfl (WL.aX rfl aBR rfl rfl ((H.p 0 rfl : eV _)) ?_))))
 refine WL.jV (e := (Extern.ReflectliteType.relation "Implements" Extern.ReflectliteType.implements_)) rfl (fun w => meI _ w) func254 (by kernel_rfl) (by kernel_rfl) (by kernel_rfl) (by kernel_rfl) rfl (imE _) ?_
 refine WL.pv (PV.not rfl rfl) rfl (WL.pv (PV.c5 rfl rfl rfl) rfl (WL.nil ?_))
 refine WE.bD rfl rfl ?_
 refine WE.skip (WE.aA (WL.mv rfl rfl (WL.mv rfl rfl ?_)))
 refine WL.bE rfl vY rfl rfl (aN.aF (H.l 0 rfl) (aK.all _) rfl) (by exact rC) ?_
 refine WL.mv rfl rfl ?_
 replace H := H.freeze (i := 1) rfl
 replace H := H.add (show aH _ (fun w => dD w ⟨vW, 0, none⟩ [.pointer (some ⟨bt, 0, none⟩)]) _ from (H.bJ 0 rfl : aH _ (fun w => aN w vW 97 [.pointer (some ⟨bt, 0, none⟩)]) _).imp fun _ h => h.rd)
 refine WL.call aGd rfl (aHV (bt := bt) (vW := vW) (bf := bf) (op := op) (ix := ix) (code := code) H.aR (H.o 0 rfl) (H.aO 0 rfl 0 rfl) (by exact (H.aO 0 rfl 3 rfl : aH _ (fun w => aN w bf 221 (dY op ix code)) _))) ?_
 rintro _ xG ⟨rfl, hO, hB⟩
 replace H := H.eZ 0 rfl hO hB
 refine WL.as rfl rfl (WL.nil (WE.ret ⟨[_], _, .nil _, ⟨rfl, trivial⟩, ?_⟩))
 exact ⟨rfl, H.cT, H.o 0 rfl⟩
theorem aHU {X : Nat → Prop} {w : World} {bt vW : Nat} {old : Value} {bf : Nat} (hX : c6 X w) (fA : aN w bt 219 ([old])) (bT : aH (fun c_ => X c_ ∨ c_ = bt) (fun w => dD w ⟨vW, 0, none⟩ [.pointer (some ⟨bt, 0, none⟩)]) w) :
  bC prog 84 [.iface 219 (.pointer (some ⟨bf, 0, none⟩)), .iface 235 (.pointer (some ⟨bt, 0, none⟩)), (.agg [(.pointer (some ⟨3, 235, none⟩)), .pointer (some ⟨vW, 0, none⟩), .int .u64 150].toArray), (.iface 223 (.agg [(.pointer (some ⟨3, 219, none⟩))].toArray))].toArray w fun v w' => v = .bool true ∧ Out (· = bt) w w' ∧ aN w' bt 219 [.pointer (some ⟨bf, 0, none⟩)] := by
 refine bC.aI (N := 62) func84 rfl rfl (by simp) ?_
 have H := (St.dK (b := bt) (t := 219) (l := [old]) hX fA).add (cC bT)
 refine WE.aA ?_
 refine WL.box (l := [(.pointer (some ⟨3, 235, none⟩)), .pointer (some ⟨vW, 0, none⟩), .int .u64 150]) H rfl rfl rfl ?_
 intro b6 w1 H
 refine WL.as rfl rfl (WL.nil (WE.block ?_))
 refine WE.j6 1 ?_
 refine dZ.step ?_
 refine WE.block (WE.seq (WE.aA (WL.mv rfl rfl ?_)))
 refine WL.extern (e := Extern.ReflectliteType.typeOf) func97 (by kernel_rfl) (by kernel_rfl) (by kernel_rfl) (by kernel_rfl) rfl (toF ⟨bf, 0, none⟩ _) ?_
 refine WL.mv rfl rfl ?_
 refine WL.jV (e := (Extern.ReflectliteType.relation "AssignableTo" Extern.ReflectliteType.assignableTo)) rfl (fun w => meA _ w) func251 (by kernel_rfl) (by kernel_rfl) (by kernel_rfl) (by kernel_rfl) rfl (asF _) ?_
 refine WL.nil ?_
 refine WE.cR rfl rfl ?_
 refine WE.aA ?_
 refine WL.bE rfl vY rfl rfl (aN.aF (H.l 0 rfl) (aK.all _) rfl) (by exact rC) ?_
 refine WL.extern (e := (Extern.ReflectliteValue.method (Extern.ReflectliteValue.valueError "reflectlite.Value.Elem" 0) Extern.ReflectliteValue.elem)) func131 (by kernel_rfl) (by kernel_rfl) (by kernel_rfl) (by kernel_rfl) rfl (evF _ _ _ (by exact (by have h_ := (H.p 0 rfl : dD _ ⟨vW, 0, none⟩ [.pointer (some ⟨bt, 0, none⟩)]) 0 _ rfl; rwa [show ((⟨vW, 0, none⟩ : Addr).add 0) = ⟨vW, 0, none⟩ from rfl] at h_))) ?_
 refine WL.mv rfl rfl ?_
 refine WL.wZ (avs := [.iface 219 (.pointer (some ⟨bf, 0, none⟩))]) (e := (fun args => Extern.ReflectliteValue.unpack (args.getD 0 (.tuple #[])))) (rvV 219 150) [.pointer (some ⟨bf, 0, none⟩)] 219 H func81 (by kernel_rfl) (by kernel_rfl) (by kernel_rfl) (by kernel_rfl) rfl (vwF ⟨bf, 0, none⟩ _) rfl ?_
 intro b23 w6 H
 refine WL.extern (e := Extern.ReflectliteValue.set) func132 (by kernel_rfl) (by kernel_rfl) (by kernel_rfl) (by kernel_rfl) rfl (stF ⟨bt, 0, none⟩ ⟨b23, 0, none⟩ ⟨bf, 0, none⟩ old _ (aN.cell (H.l 0 rfl) 0) (aN.cell (H.o 0 rfl) 0) (aN.frozen (H.o 0 rfl) _ rfl)) ?_
 replace H := H.wD (i := 0) rfl (Out.set _ ⟨bt, 0, none⟩ _) (aP.blk bt 219 [.pointer (some ⟨bf, 0, none⟩)]) (aN.aEB (H.o 0 rfl)) (fun _ => Iff.rfl)
 refine WL.nil (WE.aA (WL.as rfl rfl (WL.nil (WE.ret ⟨[_], _, .nil _, ⟨rfl, trivial⟩, ?_⟩))))
 exact ⟨rfl, H.cT, H.o 0 rfl⟩
theorem aIu {X : Nat → Prop} {w : World} {bt : Nat} {old : Value} {bf : Nat} (hX : c6 X w) (fA : aN w bt 219 ([old])) (bT : aH (fun c_ => X c_ ∨ c_ = bt) (eV) w) :
  bC prog 39 [.iface 219 (.pointer (some ⟨bf, 0, none⟩)), .iface 235 (.pointer (some ⟨bt, 0, none⟩))].toArray w fun v w' => v = .bool true ∧ Out (· = bt) w w' ∧ aN w' bt 219 [.pointer (some ⟨bf, 0, none⟩)] := by
 refine bC.aI (N := 42) func39 rfl rfl (by simp) ?_
 have H := (St.dK (b := bt) (t := 219) (l := [old]) hX fA).add (cC bT)
 refine WE.aA (WL.as rfl rfl (WL.nil (WE.seq (WE.aA (WL.mv rfl rfl ?_)))))
 refine WL.pv (PV.qL rfl (by kernel_rfl) (by exact zS.of)) rfl ?_
 refine WL.nil ?_
 refine WE.bD rfl rfl ?_
 refine WE.skip (WE.seq (WE.aA (WL.mv rfl rfl ?_)))
 refine WL.pv (PV.qL rfl (by kernel_rfl) (by exact zS.of)) rfl ?_
 refine WL.nil ?_
 refine WE.bD rfl rfl ?_
 refine WE.skip (WE.aA (WL.mv rfl rfl ?_))
 refine WL.wZ (avs := [.iface 235 (.pointer (some ⟨bt, 0, none⟩))]) (e := (fun args => Extern.ReflectliteValue.unpack (args.getD 0 (.tuple #[])))) (rvV 235 150) [.pointer (some ⟨bt, 0, none⟩)] 235 H func81 (by kernel_rfl) (by kernel_rfl) (by kernel_rfl) (by kernel_rfl) rfl (voF _ _) rfl ?_
 intro vW w2 H
 refine WL.alloc H rfl aAQ rfl ?_
 intro b5 w3 H
 refine WL.aW H 0 rfl rfl rfl (new := [(.pointer (some ⟨3, 235, none⟩)), .pointer (some ⟨vW, 0, none⟩), .int .u64 150]) rfl (by exact rC) (bB _ rfl) (Laid.at (Laid.all (by simp only [aS])) rfl) rfl ?_
 intro w4 H
 refine WL.nil (WE.aA ?_)
 refine WL.bE rfl vY rfl rfl (aN.aF (H.l 0 rfl) (aK.all _) rfl) (by exact rC) ?_
 refine WL.extern (e := (Extern.ReflectliteValue.methodAny (Extern.ReflectliteValue.valueError "reflectlite.Value.Type" 0) (fun t _ _ _ => Extern.ReflectliteType.toType t))) func82 (by kernel_rfl) (by kernel_rfl) (by kernel_rfl) (by kernel_rfl) rfl (tyF _ _) ?_
 refine WL.as rfl rfl (WL.nil (WE.seq (WE.aA (WL.mv rfl rfl ?_))))
 refine WL.jV (e := (Extern.ReflectliteType.abiMethod fun t => do pure (.int .u8 (← Extern.Rtype.kind t)))) rfl (fun w => meK _ w) func237 (by kernel_rfl) (by kernel_rfl) (by kernel_rfl) (by kernel_rfl) rfl (kiF _) ?_
 refine WL.pv (PV.neq rfl rfl rfl) rfl (WL.mv rfl rfl (WL.known (t := 20) (c := false) rfl rfl ?_))
 refine WL.bE rfl vY rfl rfl (aN.aF (H.l 0 rfl) (aK.all _) rfl) (by exact rC) ?_
 refine WL.extern (e := (Extern.ReflectliteValue.method (Extern.ReflectliteValue.valueError "reflectlite.Value.IsNil" 0) Extern.ReflectliteValue.isNil)) func83 (by kernel_rfl) (by kernel_rfl) (by kernel_rfl) (by kernel_rfl) rfl (niF _ ⟨bt, 0, none⟩ _ (by exact aN.cell (H.l 1 rfl) 0)) ?_
 refine WL.pv (PV.cF rfl rfl rfl) rfl (WL.nil ?_)
 refine WE.bD rfl rfl ?_
 refine WE.skip (WE.aA (WL.mv rfl rfl ?_))
 refine WL.jV (e := (Extern.ReflectliteType.method Extern.ReflectliteType.elem)) rfl (fun w => meE _ w) func253 (by kernel_rfl) (by kernel_rfl) (by kernel_rfl) (by kernel_rfl) rfl (elF _) ?_
 refine WL.as rfl rfl (WL.nil (WE.seq (WE.aA (WL.mv rfl rfl ?_))))
 refine WL.jV (e := (Extern.ReflectliteType.abiMethod fun t => do pure (.int .u8 (← Extern.Rtype.kind t)))) rfl (fun w => meK _ w) func237 (by kernel_rfl) (by kernel_rfl) (by kernel_rfl) (by kernel_rfl) rfl (kjF _) ?_
 refine WL.pv (PV.neq rfl rfl rfl) rfl (WL.mv rfl rfl (WL.known (t := 30) (c := true) rfl rfl (WL.mv rfl rfl (WL.aX rfl aBR rfl rfl ((H.p 0 rfl : eV _)) ?_))))
 refine WL.jV (e := (Extern.ReflectliteType.relation "Implements" Extern.ReflectliteType.implements_)) rfl (fun w => meI _ w) func254 (by kernel_rfl) (by kernel_rfl) (by kernel_rfl) (by kernel_rfl) rfl (imF _) ?_
 refine WL.pv (PV.not rfl rfl) rfl (WL.pv (PV.c5 rfl rfl rfl) rfl (WL.nil ?_))
 refine WE.bD rfl rfl ?_
 refine WE.skip (WE.aA (WL.mv rfl rfl (WL.mv rfl rfl ?_)))
 refine WL.bE rfl vY rfl rfl (aN.aF (H.l 0 rfl) (aK.all _) rfl) (by exact rC) ?_
 refine WL.mv rfl rfl ?_
 replace H := H.freeze (i := 1) rfl
 replace H := H.add (show aH _ (fun w => dD w ⟨vW, 0, none⟩ [.pointer (some ⟨bt, 0, none⟩)]) _ from (H.bJ 0 rfl : aH _ (fun w => aN w vW 235 [.pointer (some ⟨bt, 0, none⟩)]) _).imp fun _ h => h.rd)
 refine WL.call aGd rfl (aHU (bt := bt) (vW := vW) (bf := bf) H.aR (H.o 0 rfl) (H.aO 0 rfl 0 rfl)) ?_
 rintro _ xG ⟨rfl, hO, hB⟩
 replace H := H.eZ 0 rfl hO hB
 refine WL.as rfl rfl (WL.nil (WE.ret ⟨[_], _, .nil _, ⟨rfl, trivial⟩, ?_⟩))
 exact ⟨rfl, H.cT, H.o 0 rfl⟩
theorem aAH {X : Nat → Prop} {w : World} {bf : Nat} {op : List UInt8} {ix code : Int} (hX : c6 X w) (bT : aH X (eV) w) (dJ : aH X (fun w => aN w bf 221 (dY op ix code)) w) :
  bC prog 85 [.iface 219 (.pointer (some ⟨bf, 0, none⟩))].toArray w fun v w' => v = .tuple [p5 op, .int .i64 ix, .bool true].toArray ∧ Out Nil w w' := by
 refine bC.aI (N := 18) func85 rfl rfl (by simp) ?_
 have H := ((St.begin hX).add (cE dJ)).add (cE bT)
 refine WE.aA (WL.as rfl rfl (WL.as rfl rfl (WL.as rfl rfl (WL.nil (WE.aA ?_)))))
 refine WL.alloc H rfl aD7 rfl ?_
 intro b5 w1 H
 refine WL.nil (WE.seq (WE.aA (WL.mv rfl rfl (WL.pv (PV.lK rfl (by kernel_rfl)) rfl ?_))))
 refine WL.call aDe rfl (aIu (bt := b5) (bf := bf) H.aR (H.l 0 rfl) (by exact (H.iL 0 rfl 0 rfl : aH _ (eV) _))) ?_
 rintro _ w2 ⟨rfl, hO, hB⟩
 replace H := H.called 0 rfl hO hB
 refine WL.pv (PV.not rfl rfl) rfl (WL.nil ?_)
 refine WE.bD rfl rfl ?_
 refine WE.skip ?_
 refine WE.bG (.take 0 (.take 1 (.take 2 (.take 3 (.take 4 (.take 5 (.take 6 (.take 7 (.take 8 (.take 9 (.take 10 .done))))))))))) mixed (by kernel_rfl) ?_
 replace H := H.out (Out.drew _)
 refine WP.aM rfl rfl (RV.aV rfl aBQ rfl) (aN.aF (H.l 0 rfl) (aK.all _) rfl) (WP.aC rfl rfl (PV.nilCheck rfl rfl) (WP.aC rfl rfl (PV.fieldAddr rfl L9 rfl) ?_))
 refine WP.aM rfl rfl (RV.aV rfl ag9 rfl) ((dY.rd0 (by exact (H.p 1 rfl : aN _ bf 221 (dY op ix code))))) ?_
 refine WP.aM rfl rfl (RV.aV rfl aBQ rfl) (aN.aF (H.l 0 rfl) (aK.all _) rfl) (WP.aC rfl rfl (PV.nilCheck rfl rfl) (WP.aC rfl rfl (PV.fieldAddr rfl ZS rfl) ?_))
 refine WP.aM rfl rfl (RV.aV rfl l9 rfl) ((dY.rd1 (by exact (H.p 1 rfl : aN _ bf 221 (dY op ix code))))) ?_
 refine WP.as rfl rfl rfl (WP.as rfl rfl rfl (WP.as rfl rfl rfl (WP.done (WE.ret ⟨[_, _, _], _, .nil _, ⟨rfl, rfl, rfl, trivial⟩, ?_⟩))))
 exact ⟨rfl, H.aL⟩
theorem aDV {X : Nat → Prop} {w : World} {bf : Nat} {op : List UInt8} {ix code : Int} (hX : c6 X w) (bT : aH X (eV) w) (dJ : aH X (fun w => aN w bf 221 (dY op ix code)) w) :
  bC prog 86 [.iface 219 (.pointer (some ⟨bf, 0, none⟩))].toArray w fun v w' => v = .int .i64 code ∧ Out Nil w w' := by
 refine bC.aI (N := 12) func86 rfl rfl (by simp) ?_
 have H := ((St.begin hX).add (cE dJ)).add (cE bT)
 refine WE.aA (WL.as rfl rfl (WL.nil (WE.aA ?_)))
 refine WL.alloc H rfl aD0 rfl ?_
 intro b3 w1 H
 refine WL.nil (WE.seq (WE.block (WE.aA (WL.mv rfl rfl ?_))))
 refine WL.pv (PV.qL rfl (by kernel_rfl) (by exact zS.of)) rfl ?_
 refine WL.as rfl rfl (WL.nil ?_)
 refine WE.bD rfl rfl ?_
 refine WE.aA (WL.mv rfl rfl (WL.pv (PV.lK rfl (by kernel_rfl)) rfl ?_))
 refine WL.call aDe rfl (aBX (bt := b3) (bf := bf) (op := op) (ix := ix) (code := code) H.aR (H.l 0 rfl) (by exact (H.iL 0 rfl 0 rfl : aH _ (eV) _)) (by exact (H.iL 0 rfl 1 rfl : aH _ (fun w => aN w bf 221 (dY op ix code)) _))) ?_
 rintro _ w2 ⟨rfl, hO, hB⟩
 replace H := H.called 0 rfl hO hB
 refine WL.as rfl rfl (WL.nil ?_)
 refine WE.cR rfl rfl ?_
 refine WE.aA (WL.aX rfl aDw rfl rfl (aN.aF (H.l 0 rfl) (aK.all _) rfl) (WL.as rfl rfl (WL.nil (WE.ret ⟨[_], _, .nil _, ⟨rfl, trivial⟩, ?_⟩))))
 exact ⟨rfl, H.aL⟩
theorem aIh {X : Nat → Prop} {w : World} {bf : Nat} {op : List UInt8} {ix code : Int} (hX : c6 X w) (bT : aH X (fun w => aN w bf 221 (dY op ix code)) w) :
  bC prog 87 [.iface 219 (.pointer (some ⟨bf, 0, none⟩))].toArray w fun v w' => Out Nil w w' ∧ aH X (fun w => cO w v 1 1 [p5 op]) w' := by
 refine bC.aI (N := 25) func87 rfl rfl (by simp) ?_
 have H := (St.begin hX).add (cE bT)
 refine WE.aA (WL.as rfl rfl (WL.nil (WE.aA (WL.as rfl rfl (WL.nil (WE.block ?_))))))
 replace H := H.kU 9 1
 refine WE.j6 2 ?_
 refine dZ.step ?_
 refine WE.block (WE.aA (WL.mv rfl rfl (WL.pv (PV.B1 (z := .pointer none) rfl (by kernel_rfl) (by kernel_rfl) rfl) rfl (WL.mv rfl rfl (WL.pv (PV.extract rfl rfl rfl) rfl (WL.pv (PV.extract rfl rfl rfl) rfl (WL.as rfl rfl ?_)))))))
 refine WL.as rfl rfl (WL.nil (WE.seq (WE.aA (WL.mv rfl rfl (WL.pv (PV.not rfl rfl) rfl (WL.nil ?_))))))
 refine WE.bD rfl rfl ?_
 refine WE.skip (WE.aA (WL.mv rfl rfl (WL.mv rfl rfl (WL.pv (PV.nilCheck rfl rfl) rfl (WL.pv (PV.fieldAddr rfl L9 rfl) rfl ?_)))))
 refine WL.aX rfl ag9 rfl rfl ((dY.rd0 (by exact (H.p 0 rfl : aN _ bf 221 (dY op ix code))))) ?_
 refine WL.bA (l0 := [.string ⟨#[]⟩]) H rfl aAY (by decide) (cW _ _) (Fl.cons rfl (rfl) (by simp only [aS]) Laid.head Fl.nil) rfl ?_
 intro b19 w1 H
 refine WL.append (m := 1) H 1 aAY (by decide) rfl rfl rfl (cO.cA (n := 1) (H.l 0 rfl) rfl) (bB _ rfl) (by omega) (by decide) rfl ?_
 intro v20 w2 H
 replace H := H.forget 0
 refine WL.as rfl rfl (WL.nil (WE.dW (WL.mv rfl rfl (WL.pv (PV.nilCheck rfl rfl) rfl (WL.pv (PV.fieldAddr rfl L8 rfl) rfl ?_)))))
 refine WL.aX rfl aH1 rfl rfl ((dY.rd2 (by exact (H.p 0 rfl : aN _ bf 221 (dY op ix code))))) ?_
 refine WL.as rfl rfl (WL.nil ?_)
 refine dZ.step ?_
 refine WE.block (WE.aA (WL.mv rfl rfl (WL.pv (PV.B1 (z := .pointer none) rfl (by kernel_rfl) (by kernel_rfl) rfl) rfl (WL.mv rfl rfl (WL.pv (PV.extract rfl rfl rfl) rfl (WL.pv (PV.extract rfl rfl rfl) rfl (WL.as rfl rfl ?_)))))))
 refine WL.as rfl rfl (WL.nil (WE.seq (WE.aA (WL.mv rfl rfl (WL.pv (PV.not rfl rfl) rfl (WL.nil ?_))))))
 refine WE.cR rfl rfl ?_
 refine WE.aA (WL.mv rfl rfl (WL.as rfl rfl (WL.nil (WE.ret ⟨[_], _, .nil _, ⟨rfl, trivial⟩, ?_⟩))))
 replace H := H.freeze (i := 0) rfl
 exact ⟨H.aL, H.fX ((H.bJ 0 rfl).imp fun _ h => cO.dM h)⟩
theorem QG {X : Nat → Prop} {w : World} {op : List UInt8} {ix : Int} (hX : c6 X w) :
  bC prog 43 [.nilIface, p5 op, .int .i64 ix, .int .i64 0].toArray w fun v w' => v = .bool false ∧ Out Nil w w' := by
 refine bC.aI (N := 50) func43 rfl rfl (by simp) ?_
 have H := St.begin hX
 refine WE.aA (WL.as rfl rfl (WL.nil (WE.seq (WE.aA (WL.mv rfl rfl (WL.pv (PV.eql rfl rfl rfl) rfl (WL.nil ?_)))))))
 refine WE.cR rfl rfl ?_
 refine WE.aA (WL.mv rfl rfl ?_)
 refine WL.pv (PV.rF rfl (by kernel_rfl) (by exact zS.nil)) rfl ?_
 refine WL.as rfl rfl (WL.nil (WE.ret ⟨[_], _, .nil _, ⟨rfl, trivial⟩, ?_⟩))
 exact ⟨rfl, H.aL⟩
theorem QF {X : Nat → Prop} {w : World} {bf : Nat} {op : List UInt8} {ix code : Int} (hX : c6 X w) (bT : aH X (eV) w) (dJ : aH X (fun w => aN w bf 221 (dY op ix code)) w) (hz : code ≠ 0) :
  bC prog 43 [.iface 219 (.pointer (some ⟨bf, 0, none⟩)), p5 op, .int .i64 ix, .int .i64 code].toArray w fun v w' => v = .bool false ∧ Out Nil w w' := by
 refine bC.aI (N := 50) func43 rfl rfl (by simp) ?_
 have H := ((St.begin hX).add (cE dJ)).add (cE bT)
 refine WE.aA (WL.as rfl rfl (WL.nil (WE.seq (WE.aA (WL.mv rfl rfl (WL.pv (PV.eql rfl rfl rfl) rfl (WL.nil ?_)))))))
 refine WE.bD rfl (by simp [hz]) ?_
 refine WE.skip (WE.aA (WL.mv rfl rfl ?_))
 refine WL.call aJZ rfl (aAH (bf := bf) (op := op) (ix := ix) (code := code) H.aR (by exact (H.bJ 0 rfl : aH _ (eV) _)) (by exact (H.bJ 1 rfl : aH _ (fun w => aN w bf 221 (dY op ix code)) _))) ?_
 rintro _ w1 ⟨rfl, hO⟩
 replace H := H.out hO
 refine WL.mv rfl rfl (WL.pv (PV.extract rfl rfl rfl) rfl (WL.pv (PV.extract rfl rfl rfl) rfl (WL.pv (PV.extract rfl rfl rfl) rfl (WL.as rfl rfl (WL.as rfl rfl (WL.as rfl rfl (WL.nil ?_)))))))
 refine WE.aA (WL.mv rfl rfl ?_)
 refine WL.pv (PV.qL rfl (by kernel_rfl) (by exact zS.of)) rfl ?_
 refine WL.mv rfl rfl (WL.known (t := 24) (c := false) rfl rfl (WL.mv rfl rfl ?_))
 refine WL.call aJY rfl (aDV (bf := bf) (op := op) (ix := ix) (code := code) H.aR (by exact (H.bJ 0 rfl : aH _ (eV) _)) (by exact (H.bJ 1 rfl : aH _ (fun w => aN w bf 221 (dY op ix code)) _))) ?_
 rintro _ w2 ⟨rfl, hO⟩
 replace H := H.out hO
 refine WL.mv rfl rfl (WL.pv (PV.neq rfl rfl rfl) rfl (WL.pv (PV.cF rfl rfl rfl) rfl (WL.mv rfl rfl (WL.known (t := 30) (c := false) rfl (by simp) (WL.mv rfl rfl (WL.mv rfl rfl (WL.pv (PV.aCv rfl rfl rfl) rfl ?_)))))))
 refine WL.pv (PV.cF rfl rfl rfl) rfl (WL.mv rfl rfl (WL.known (t := 35) (c := false) rfl (by simp) (WL.mv rfl rfl (WL.mv rfl rfl (WL.pv (PV.neq rfl rfl rfl) rfl (WL.pv (PV.cF rfl rfl rfl) rfl (WL.mv rfl rfl ?_)))))))
 refine WL.known (t := 40) (c := false) rfl (by simp) (WL.mv rfl rfl (WL.pv (PV.not rfl rfl) rfl (WL.pv (PV.cF rfl rfl rfl) rfl (WL.mv rfl rfl (WL.known (t := 44) (c := false) rfl rfl (WL.mv rfl rfl ?_))))))
 refine WL.call aJX rfl (aIh (bf := bf) (op := op) (ix := ix) (code := code) H.aR (by exact (H.bJ 1 rfl : aH _ (fun w => aN w bf 221 (dY op ix code)) _))) ?_
 rintro v46 w3 ⟨hO, hR⟩
 replace H := (H.out hO).add (show aH _ (fun w => cO w v46 1 1 [p5 op]) _ from hR)
 refine WL.pv (PV.dS (H.p 0 rfl : cO _ v46 1 1 [p5 op]) aA0 rfl) rfl (WL.pv (PV.neq rfl rfl rfl) rfl (WL.pv (PV.cF rfl rfl rfl) rfl (WL.as rfl rfl (WL.nil (WE.ret ⟨[_], _, .nil _, ⟨rfl, trivial⟩, ?_⟩)))))
 refine ⟨?_, H.aL⟩
 rfl
theorem wN {X : Nat → Prop} {w : World} {op : List UInt8} {ix code : Int} {ev : Value} (hX : c6 X w) (h0 : aH X eV w) (h1 : aH X (fK op ix code ev) w) :
  bC prog 43 [ev, p5 op, .int .i64 ix, .int .i64 code].toArray w fun v w' => v = .bool false ∧ Out Nil w w' := by
 rcases h1.here with ⟨rfl, rfl⟩ | ⟨hz, bf, rfl, _⟩
 ·
  exact QG hX
 ·
  refine QF (bf := bf) hX h0 (h1.imp fun w_ h => ?_) hz
  rcases h with ⟨h2, _⟩ | ⟨_, b2, h3, h4⟩
  ·
   exact absurd h2 hz
  ·
   injection h3 with _ h5
   injection h5 with h6
   injection h6 with h7
   injection h7 with h8
   rw [h8]; exact h4
def iF : List Value := [wU 121, wU 123, wU 124, wU 125, wU 127, wU 129]
theorem nY {v : Value} {w : World} (h : cO w v 1 6 iF) (i : Nat) (hi : i < 6) : dD w (jS v (i * 1)) [iF[i]'hi] := by
 have h2 := cO.rd h i hi
 rw [Nat.mul_one] at h2 ⊢
 have e : (iF.drop i).take 1 = [iF[i]'hi] := by rw [List.drop_eq_getElem_cons (show i < iF.length from hi)]; rfl
 rw [e] at h2; exact h2
theorem fK.fault {X : Nat → Prop} {w : World} {op : List UInt8} {ix code : Int} {v : Value} (h : aH X (fK op ix code v) w) (hz : code ≠ 0) : ∃ bf, v = .iface 219 (.pointer (some ⟨bf, 0, none⟩)) ∧ aH X (fun w => aN w bf 221 (dY op ix code)) w := by
 rcases h.here with ⟨h1, _⟩ | ⟨_, bf, rfl, _⟩
 ·
  exact absurd h1 hz
 ·
  refine ⟨bf, rfl, h.imp fun w_ h => ?_⟩
  rcases h with ⟨h2, _⟩ | ⟨_, b2, h3, h4⟩
  ·
   exact absurd h2 hz
  ·
   injection h3 with _ h5
   injection h5 with h6
   injection h6 with h7
   injection h7 with h8
   rw [h8]; exact h4
theorem fK.none {X : Nat → Prop} {w : World} {op : List UInt8} {ix code : Int} {v : Value} (h : aH X (fK op ix code v) w) (hz : code = 0) : v = .nilIface := by
 rcases h.here with ⟨_, h1⟩ | ⟨h1, _⟩
 ·
  exact h1
 ·
  exact absurd hz h1
theorem XT {X : Nat → Prop} {w : World}  (hX : c6 X w) :
  bC prog 79 [].toArray w fun v w' => Out Nil w w' ∧ aH X (fun w => cO w v 1 6 iF) w' := by
 refine bC.aI (N := 8) func79 rfl rfl (by decide +revert) ?_
 have H := St.begin hX
 refine WE.aA (WL.as rfl rfl (WL.nil (WE.aA ?_)))
 refine WL.pv (PV.dQ rfl A0 nX (Fl.cons rfl rfl (by simp only [aS, aY, aB, aD]) Laid.head Fl.nil)) rfl ?_
 refine WL.pv (PV.dQ rfl A0 nX (Fl.cons rfl rfl (by simp only [aS, aY, aB, aD]) Laid.head Fl.nil)) rfl ?_
 refine WL.pv (PV.dQ rfl A0 nX (Fl.cons rfl rfl (by simp only [aS, aY, aB, aD]) Laid.head Fl.nil)) rfl ?_
 refine WL.pv (PV.dQ rfl A0 nX (Fl.cons rfl rfl (by simp only [aS, aY, aB, aD]) Laid.head Fl.nil)) rfl ?_
 refine WL.pv (PV.dQ rfl A0 nX (Fl.cons rfl rfl (by simp only [aS, aY, aB, aD]) Laid.head Fl.nil)) rfl ?_
 refine WL.pv (PV.dQ rfl A0 nX (Fl.cons rfl rfl (by simp only [aS, aY, aB, aD]) Laid.head Fl.nil)) rfl ?_
 refine WL.bA (l0 := [.nilFunc, .nilFunc, .nilFunc, .nilFunc, .nilFunc, .nilFunc]) H rfl aEx (by decide) (cW _ _) (Fl.cons rfl (rfl) (by simp only [aS, aY, aB, aD]) Laid.head (Fl.cons rfl (rfl) (by simp only [aS, aY, aB, aD]) (Laid.tail Laid.head rfl) (Fl.cons rfl (rfl) (by simp only [aS, aY, aB, aD]) (Laid.tail (Laid.tail Laid.head rfl) rfl) (Fl.cons rfl (rfl) (by simp only [aS, aY, aB, aD]) (Laid.tail (Laid.tail (Laid.tail Laid.head rfl) rfl) rfl) (Fl.cons rfl (rfl) (by simp only [aS, aY, aB, aD]) (Laid.tail (Laid.tail (Laid.tail (Laid.tail Laid.head rfl) rfl) rfl) rfl) (Fl.cons rfl (rfl) (by simp only [aS, aY, aB, aD]) (Laid.tail (Laid.tail (Laid.tail (Laid.tail (Laid.tail Laid.head rfl) rfl) rfl) rfl) rfl) Fl.nil)))))) rfl ?_
 intro b7 w1 H
 refine WL.as rfl rfl (WL.nil (WE.ret ⟨[_], _, .nil _, ⟨rfl, trivial⟩, ?_⟩))
 replace H := H.freeze (i := 0) rfl
 exact ⟨H.aL, H.fX ((H.bJ 0 rfl).imp fun _ h => cO.cA (n := 6) h rfl)⟩
theorem VQ {X : Nat → Prop} {w : World} {bh bc : Nat} {bits n0 : Int} {sr sk sv se : Value} {pr : Bool} {k vv rb : List UInt8} {kd dp : Nat} {lk lv B : List UInt8} {sb : List (List UInt8)} (hX : c6 X w) (fA : aN w bc 213 ([.int .i64 n0])) (bT : aH (fun c_ => X c_ ∨ c_ = bc) (fO bh bc bits) w) (dJ : aH (fun c_ => X c_ ∨ c_ = bc) (bL sr rb) w) (fQ : aH (fun c_ => X c_ ∨ c_ = bc) (bL sk k) w) (jW : aH (fun c_ => X c_ ∨ c_ = bc) (bL sv vv) w) (nM : aH (fun c_ => X c_ ∨ c_ = bc) (bL se (fM kd dp lk lv B sb)) w) (sK : aH (fun c_ => X c_ ∨ c_ = bc) (aZ) w) (bU : 0 ≤ bits ∧ bits ≤ 256) (hp : jG kd dp lk lv B sb) (hk : k.length = 32) (hr : rb.length = 32) (hv : vv.length ≤ 65535) (yJ : zF kd dp lk lv k (nI bits vv) pr) :
  bC prog 38 [.pointer (some ⟨bh, 0, none⟩), sr, .agg [sk, sv, .bool pr].toArray, se].toArray w fun v w' => ∃ (m : Int), Out (· = bc) w w' ∧ aN w' bc 213 [.int .i64 m] ∧ aH (fun c => X c ∨ c = bc) (fK [118, 101, 114, 105, 102, 121] 5 (if (fI bits k (gI bits dp B sb) (eB (cZ (eT kd lk lv)) bits) dp) = rb then (0 : Int) else 13) v) w' := by
 refine bC.aI (N := 37) func38 rfl rfl (by simp) ?_
 have H := ((((((St.dK (b := bc) (t := 213) (l := [.int .i64 n0]) hX fA).add (cC sK)).add (cC nM)).add (cC jW)).add (cC fQ)).add (cC dJ)).add (cC bT)
 have SK : sr.oneCell' = true := cO.fW (dJ.here)
 have wT : sk.oneCell' = true := cO.fW (fQ.here)
 have hv1 : sv.oneCell' = true := cO.fW (jW.here)
 have he1 : se.oneCell' = true := cO.fW (nM.here)
 have hpz : eO XC := bN (bB _ rfl) (bN (bB _ rfl) (bN (bN (bH _) (bH _)) (bN (bH _) (bB _ rfl))))
 obtain ⟨cd, C7⟩ : ∃ cd : Int, cd = (if (fI bits k (gI bits dp B sb) (eB (cZ (eT kd lk lv)) bits) dp) = rb then (0 : Int) else 13) := ⟨_, rfl⟩
 refine WE.aA ?_
 refine WL.box (l := [sk, sv, .bool pr]) H rfl (rfl) rfl ?_
 intro b6 w1 H
 refine WL.as rfl rfl (WL.nil (WE.aA (WL.mv rfl rfl (WL.mv rfl rfl ?_))))
 refine WL.bE rfl aH2 rfl rfl (aN.aF (H.l 0 rfl) (aK.all _) rfl) (by exact aEj) ?_
 refine WL.mv rfl rfl ?_
 refine WL.pv (PV.dQ rfl aEP aEa (Fl.cons rfl (rfl) (by simp only [aS, aY, aB, aD]) (Laid.left (Laid.all (by simp only [aS, aY, aB, aD]))) (Fl.cons rfl (cells_one SK) (by simp only [aS, aY, aB, aD]) (Laid.right (Laid.left (Laid.all (by simp only [aS, aY, aB, aD]))) (by simp only [aS, aY, aB, aD])) (Fl.cons rfl (rfl) (by simp only [aS, aY, aB, aD]) (Laid.right (Laid.right (Laid.left (Laid.all (by simp only [aS, aY, aB, aD]))) rfl) (by simp only [aS, aY, aB, aD])) (Fl.cons rfl (cells_one he1) (by simp only [aS, aY, aB, aD]) (Laid.right (Laid.right (Laid.right (Laid.left (Laid.all (by simp only [aS, aY, aB, aD]))) rfl) rfl) (by simp only [aS, aY, aB, aD])) Fl.nil))))) rfl ?_
 refine WL.box (l := JW bh sr sk sv pr se XC) H rfl rfl rfl ?_
 intro VB w2 H
 refine WL.as rfl rfl (WL.nil (WE.seq (WE.aA ?_)))
 refine WL.call aJ0 rfl (XT H.aR) ?_
 rintro K1 w3 ⟨hO, hR⟩
 replace H := (H.out hO).add (show aH _ (fun w => cO w K1 1 6 iF) _ from hR)
 refine WL.pv (PV.dS (by exact (H.p 0 rfl : ((fun w => cO w K1 1 6 iF)) _)) vI rfl) rfl ?_
 refine WL.mv rfl rfl (WL.nil (WE.block ?_))
 refine WE.j6 7 ?_
 refine dZ.step ?_
 refine WE.aA (WL.pv (PV.lss rfl rfl rfl) rfl (WL.nil (WE.seq ?_)))
 refine WE.cR rfl rfl ?_
 refine WE.skip (WE.seq (WE.block (WE.aA (WL.mv rfl rfl ?_))))
 refine WL.pv (by exact PV.dX (i := 0) rfl (by exact (H.p 0 rfl : ((fun w => cO w K1 1 6 iF)) _)) vI kF rfl rfl (by omega) (by decide)) rfl ?_
 refine WL.bE rfl B3 rfl rfl (by exact nY (by exact (H.p 0 rfl : ((fun w => cO w K1 1 6 iF)) _)) 0 (by decide)) (by exact kF) ?_
 refine WL.alloc H rfl nX rfl ?_
 intro VC w4 H
 refine WL.as rfl rfl ?_
 refine WL.aW H 0 rfl rfl rfl (new := _) rfl (by exact kF) (bB _ rfl) (Laid.at (Laid.all (by simp only [aS, aY, aB, aD])) rfl) rfl ?_
 intro w5 H
 refine WL.nil (WE.aA (WL.pv (PV.fieldAddr rfl qU rfl) rfl (WL.aX rfl B4 rfl rfl (aN.aF (H.l 0 rfl) aK.hd rfl) (WL.mv rfl rfl ?_))))
 (refine WL.iZ rfl rfl (eR.jQ (fs := []) (cs := []) aHp (aEw (X := Nil) (bk := VB) (bh := bh) (sr := sr) (sk := sk) (sv := sv) (se := se) (pr := pr) (pf := XC) (rb := rb) (fun _ h => h.elim) (by exact H.X2 1 rfl) (by exact (H.bJ 2 rfl : aH _ (bL sr rb) _).nil) hr)) ?_; rintro _ w6 ⟨rfl, hO⟩; replace H := H.out hO)
 refine WL.as rfl rfl (WL.nil (WE.aA (WL.mv rfl rfl (WL.pv (PV.neq rfl rfl rfl) rfl (WL.nil ?_)))))
 refine WE.bD rfl rfl ?_
 refine WE.skip (WE.dW (WL.pv (PV.bV rfl rfl rfl (by omega) (by omega)) rfl (WL.mv rfl rfl (WL.nil ?_))))
 replace H := H.forget 0
 refine dZ.step ?_
 refine WE.aA (WL.pv (PV.lss rfl rfl rfl) rfl (WL.nil (WE.seq ?_)))
 refine WE.cR rfl rfl ?_
 refine WE.skip (WE.seq (WE.block (WE.aA (WL.mv rfl rfl ?_))))
 refine WL.pv (by exact PV.dX (i := 1) rfl (by exact (H.p 0 rfl : ((fun w => cO w K1 1 6 iF)) _)) vI kF rfl rfl (by omega) (by decide)) rfl ?_
 refine WL.bE rfl B3 rfl rfl (by exact nY (by exact (H.p 0 rfl : ((fun w => cO w K1 1 6 iF)) _)) 1 (by decide)) (by exact kF) ?_
 refine WL.alloc H rfl nX rfl ?_
 intro VC w7 H
 refine WL.as rfl rfl ?_
 refine WL.aW H 0 rfl rfl rfl (new := _) rfl (by exact kF) (bB _ rfl) (Laid.at (Laid.all (by simp only [aS, aY, aB, aD])) rfl) rfl ?_
 intro w8 H
 refine WL.nil (WE.aA (WL.pv (PV.fieldAddr rfl qU rfl) rfl (WL.aX rfl B4 rfl rfl (aN.aF (H.l 0 rfl) aK.hd rfl) (WL.mv rfl rfl ?_))))
 (refine WL.iZ rfl rfl (eR.jQ (fs := []) (cs := []) aHo (aEu (X := Nil) (bk := VB) (bh := bh) (sr := sr) (sk := sk) (sv := sv) (se := se) (pr := pr) (pf := XC) (k := k) (fun _ h => h.elim) (by exact H.X2 1 rfl) (by exact (H.bJ 3 rfl : aH _ (bL sk k) _).nil) hk)) ?_; rintro _ w9 ⟨rfl, hO⟩; replace H := H.out hO)
 refine WL.as rfl rfl (WL.nil (WE.aA (WL.mv rfl rfl (WL.pv (PV.neq rfl rfl rfl) rfl (WL.nil ?_)))))
 refine WE.bD rfl rfl ?_
 refine WE.skip (WE.dW (WL.pv (PV.bV rfl rfl rfl (by omega) (by omega)) rfl (WL.mv rfl rfl (WL.nil ?_))))
 replace H := H.forget 0
 refine dZ.step ?_
 refine WE.aA (WL.pv (PV.lss rfl rfl rfl) rfl (WL.nil (WE.seq ?_)))
 refine WE.cR rfl rfl ?_
 refine WE.skip (WE.seq (WE.block (WE.aA (WL.mv rfl rfl ?_))))
 refine WL.pv (by exact PV.dX (i := 2) rfl (by exact (H.p 0 rfl : ((fun w => cO w K1 1 6 iF)) _)) vI kF rfl rfl (by omega) (by decide)) rfl ?_
 refine WL.bE rfl B3 rfl rfl (by exact nY (by exact (H.p 0 rfl : ((fun w => cO w K1 1 6 iF)) _)) 2 (by decide)) (by exact kF) ?_
 refine WL.alloc H rfl nX rfl ?_
 intro VC tX H
 refine WL.as rfl rfl ?_
 refine WL.aW H 0 rfl rfl rfl (new := _) rfl (by exact kF) (bB _ rfl) (Laid.at (Laid.all (by simp only [aS, aY, aB, aD])) rfl) rfl ?_
 intro xG H
 refine WL.nil (WE.aA (WL.pv (PV.fieldAddr rfl qU rfl) rfl (WL.aX rfl B4 rfl rfl (aN.aF (H.l 0 rfl) aK.hd rfl) (WL.mv rfl rfl ?_))))
 (refine WL.iZ rfl rfl (eR.jQ (fs := []) (cs := []) aHn (aEt (X := Nil) (bk := VB) (bh := bh) (sr := sr) (sk := sk) (sv := sv) (se := se) (pr := pr) (pf := XC) (vv := vv) (fun _ h => h.elim) (by exact H.X2 1 rfl) (by exact (H.bJ 4 rfl : aH _ (bL sv vv) _).nil) hv)) ?_; rintro _ HL ⟨rfl, hO⟩; replace H := H.out hO)
 refine WL.as rfl rfl (WL.nil (WE.aA (WL.mv rfl rfl (WL.pv (PV.neq rfl rfl rfl) rfl (WL.nil ?_)))))
 refine WE.bD rfl rfl ?_
 refine WE.skip (WE.dW (WL.pv (PV.bV rfl rfl rfl (by omega) (by omega)) rfl (WL.mv rfl rfl (WL.nil ?_))))
 replace H := H.forget 0
 refine dZ.step ?_
 refine WE.aA (WL.pv (PV.lss rfl rfl rfl) rfl (WL.nil (WE.seq ?_)))
 refine WE.cR rfl rfl ?_
 refine WE.skip (WE.seq (WE.block (WE.aA (WL.mv rfl rfl ?_))))
 refine WL.pv (by exact PV.dX (i := 3) rfl (by exact (H.p 0 rfl : ((fun w => cO w K1 1 6 iF)) _)) vI kF rfl rfl (by omega) (by decide)) rfl ?_
 refine WL.bE rfl B3 rfl rfl (by exact nY (by exact (H.p 0 rfl : ((fun w => cO w K1 1 6 iF)) _)) 3 (by decide)) (by exact kF) ?_
 refine WL.alloc H rfl nX rfl ?_
 intro VC DW H
 refine WL.as rfl rfl ?_
 refine WL.aW H 0 rfl rfl rfl (new := _) rfl (by exact kF) (bB _ rfl) (Laid.at (Laid.all (by simp only [aS, aY, aB, aD])) rfl) rfl ?_
 intro H9 H
 refine WL.nil (WE.aA (WL.pv (PV.fieldAddr rfl qU rfl) rfl (WL.aX rfl B4 rfl rfl (aN.aF (H.l 0 rfl) aK.hd rfl) (WL.mv rfl rfl ?_))))
 (refine WL.iZ rfl rfl (eR.jQ (fs := []) (cs := []) aHm (aEs (bk := VB) (bh := bh) (sr := sr) (sk := sk) (sv := sv) (se := se) (pr := pr) (kd := kd) (dp := dp) (lk := lk) (lv := lv) (B := B) (sb := sb) H.aR (H.l 1 rfl) (by exact (H.iL 1 rfl 5 rfl : aH _ (bL se (fM kd dp lk lv B sb)) _)) hp)) ?_; rintro _ ND ⟨slx, rfl, aLt, hO, hB, hR⟩; replace H := H.pM 1 rfl hO hB hR; replace H := H.freeze (i := 1) rfl)
 refine WL.as rfl rfl (WL.nil (WE.aA (WL.mv rfl rfl (WL.pv (PV.neq rfl rfl rfl) rfl (WL.nil ?_)))))
 refine WE.bD rfl rfl ?_
 refine WE.skip (WE.dW (WL.pv (PV.bV rfl rfl rfl (by omega) (by omega)) rfl (WL.mv rfl rfl (WL.nil ?_))))
 replace H := H.forget 0
 refine dZ.step ?_
 refine WE.aA (WL.pv (PV.lss rfl rfl rfl) rfl (WL.nil (WE.seq ?_)))
 refine WE.cR rfl rfl ?_
 refine WE.skip (WE.seq (WE.block (WE.aA (WL.mv rfl rfl ?_))))
 refine WL.pv (by exact PV.dX (i := 4) rfl (by exact (H.p 2 rfl : ((fun w => cO w K1 1 6 iF)) _)) vI kF rfl rfl (by omega) (by decide)) rfl ?_
 refine WL.bE rfl B3 rfl rfl (by exact nY (by exact (H.p 2 rfl : ((fun w => cO w K1 1 6 iF)) _)) 4 (by decide)) (by exact kF) ?_
 refine WL.alloc H rfl nX rfl ?_
 intro VC QL H
 refine WL.as rfl rfl ?_
 refine WL.aW H 0 rfl rfl rfl (new := _) rfl (by exact kF) (bB _ rfl) (Laid.at (Laid.all (by simp only [aS, aY, aB, aD])) rfl) rfl ?_
 intro QK H
 refine WL.nil (WE.aA (WL.pv (PV.fieldAddr rfl qU rfl) rfl (WL.aX rfl B4 rfl rfl (aN.aF (H.l 0 rfl) aK.hd rfl) (WL.mv rfl rfl ?_))))
 (refine WL.iZ rfl rfl (eR.jQ (fs := []) (cs := []) aHk (aEr (bk := VB) (bh := bh) (sr := sr) (sk := sk) (sv := sv) (se := se) (pr := pr) (kd := kd) (dp := dp) (lk := lk) (lv := lv) (B := B) (sb := sb) (sl := slx) (bits := bits) (k := k) (vv := vv) (rb := rb) H.aR (H.o 0 rfl) (by exact (H.aO 0 rfl 3 rfl : aH _ (fO bh bc bits) _)) (by exact (H.aO 0 rfl 0 rfl : aH _ (fun w => aN w VB 168 (JW bh sr sk sv pr se (fU kd dp lk lv B slx))) _)) (by exact (H.aO 0 rfl 5 rfl : aH _ (bL sk k) _)) (by exact (H.aO 0 rfl 6 rfl : aH _ (bL sv vv) _)) (by exact (H.aO 0 rfl 1 rfl : aH _ (fE slx sb) _)) (by exact (H.aO 0 rfl 8 rfl : aH _ (aZ) _)) bU hp hk hv yJ)) ?_; rintro _ QJ ⟨m29, rfl, hO, hB⟩; replace H := H.eZ 0 rfl hO hB)
 refine WL.as rfl rfl (WL.nil (WE.aA (WL.mv rfl rfl (WL.pv (PV.neq rfl rfl rfl) rfl (WL.nil ?_)))))
 refine WE.bD rfl rfl ?_
 refine WE.skip (WE.dW (WL.pv (PV.bV rfl rfl rfl (by omega) (by omega)) rfl (WL.mv rfl rfl (WL.nil ?_))))
 replace H := H.forget 0
 refine dZ.step ?_
 refine WE.aA (WL.pv (PV.lss rfl rfl rfl) rfl (WL.nil (WE.seq ?_)))
 refine WE.cR rfl rfl ?_
 refine WE.skip (WE.seq (WE.block (WE.aA (WL.mv rfl rfl ?_))))
 refine WL.pv (by exact PV.dX (i := 5) rfl (by exact (H.p 2 rfl : ((fun w => cO w K1 1 6 iF)) _)) vI kF rfl rfl (by omega) (by decide)) rfl ?_
 refine WL.bE rfl B3 rfl rfl (by exact nY (by exact (H.p 2 rfl : ((fun w => cO w K1 1 6 iF)) _)) 5 (by decide)) (by exact kF) ?_
 refine WL.alloc H rfl nX rfl ?_
 intro VC w19 H
 refine WL.as rfl rfl ?_
 refine WL.aW H 0 rfl rfl rfl (new := _) rfl (by exact kF) (bB _ rfl) (Laid.at (Laid.all (by simp only [aS, aY, aB, aD])) rfl) rfl ?_
 intro w20 H
 refine WL.nil (WE.aA (WL.pv (PV.fieldAddr rfl qU rfl) rfl (WL.aX rfl B4 rfl rfl (aN.aF (H.l 0 rfl) aK.hd rfl) (WL.mv rfl rfl ?_))))
 (refine WL.iZ rfl rfl (eR.jQ (fs := []) (cs := []) aHi (aEq (bk := VB) (bh := bh) (sr := sr) (sk := sk) (sv := sv) (se := se) (pr := pr) (kd := kd) (dp := dp) (lk := lk) (lv := lv) (B := B) (sb := sb) (sl := slx) (bits := bits) (k := k) (vv := vv) (rb := rb) H.aR (H.o 0 rfl) (by exact (H.aO 0 rfl 3 rfl : aH _ (fO bh bc bits) _)) (by exact (H.aO 0 rfl 0 rfl : aH _ (fun w => aN w VB 168 (JW bh sr sk sv pr se (fU kd dp lk lv B slx))) _)) (by exact (H.aO 0 rfl 5 rfl : aH _ (bL sk k) _)) (by exact (H.aO 0 rfl 4 rfl : aH _ (bL sr rb) _)) (by exact (H.aO 0 rfl 1 rfl : aH _ (fE slx sb) _)) (by exact (H.aO 0 rfl 8 rfl : aH _ (aZ) _)) bU hp hk hr)) ?_; rintro _ w21 ⟨m29, aE7, hO, hB⟩; rw [← C7] at aE7; subst aE7; replace H := H.eZ 0 rfl hO hB)
 refine WL.as rfl rfl (WL.nil (WE.aA (WL.mv rfl rfl (WL.pv (PV.neq rfl rfl rfl) rfl (WL.nil ?_)))))
 refine WE.cond rfl (fun kW => ?_) (fun kW => ?_)
 ·
  try simp only [bP] at kW
  have hne : ¬ (fI bits k (gI bits dp B sb) (eB (cZ (eT kd lk lv)) bits) dp) = rb := fun h => kW (C7.trans (if_pos h))
  have hcd : (if (fI bits k (gI bits dp B sb) (eB (cZ (eT kd lk lv)) bits) dp) = rb then (0 : Int) else 13) = 13 := if_neg hne
  have yN : cd = 13 := C7.trans hcd
  refine WE.aA (WL.mv rfl rfl (WL.mv rfl rfl (WL.pv (PV.lK rfl (by kernel_rfl)) rfl ?_)))
  refine WL.call aGe rfl (zL (op := [118, 101, 114, 105, 102, 121]) (ix := 5) (code := cd) H.aR) ?_
  rintro _ w22 ⟨bf, rfl, hO, hge, hB⟩
  replace H := H.push hO (aP.blk bf 221 (dY [118, 101, 114, 105, 102, 121] 5 cd)) hB (fun c hc => by cases hc; exact hge)
  refine WL.as rfl rfl (WL.nil (WE.ret ⟨[_], _, .nil _, ⟨rfl, trivial⟩, ?_⟩))
  replace H := H.freeze (i := 0) rfl
  refine ⟨_, H.cT, H.o 0 rfl, (show aH _ (fun w => aN w bf 221 (dY [118, 101, 114, 105, 102, 121] 5 cd)) _ from H.gA (H.bJ 0 rfl)).imp fun _ h => ?_⟩
  rw [hcd]
  rw [yN] at h
  exact .inr ⟨by decide, bf, rfl, h⟩
 ·
  try simp only [bP] at kW
  have heq : (fI bits k (gI bits dp B sb) (eB (cZ (eT kd lk lv)) bits) dp) = rb := by (by_cases h : (fI bits k (gI bits dp B sb) (eB (cZ (eT kd lk lv)) bits) dp) = rb; exact h; exact absurd ((C7.trans (if_neg h)).symm.trans kW) (by decide))
  have hcd : (if (fI bits k (gI bits dp B sb) (eB (cZ (eT kd lk lv)) bits) dp) = rb then (0 : Int) else 13) = 0 := if_pos heq
  refine WE.skip (WE.dW (WL.pv (PV.bV rfl rfl rfl (by omega) (by omega)) rfl (WL.mv rfl rfl (WL.nil ?_))))
  replace H := H.forget 0
  refine dZ.step ?_
  refine WE.aA (WL.pv (PV.lss rfl rfl rfl) rfl (WL.nil (WE.seq ?_)))
  refine WE.bD rfl rfl ?_
  refine WE.exit (WE.aA (WL.as rfl rfl (WL.nil (WE.ret ⟨[_], _, .nil _, ⟨rfl, trivial⟩, ?_⟩))))
  refine ⟨_, H.cT, H.o 0 rfl, fun _ _ => ?_⟩
  rw [hcd]
  exact .inl ⟨rfl, rfl⟩
theorem zD {X : Nat → Prop} {w : World} {bh bc : Nat} {bits n0 : Int} {sr sk sv se : Value} {pr : Bool} {k vv rb : List UInt8} {kd dp : Nat} {lk lv B : List UInt8} {sb : List (List UInt8)} (hX : c6 X w) (fA : aN w bc 213 ([.int .i64 n0])) (bT : aH (fun c_ => X c_ ∨ c_ = bc) (fO bh bc bits) w) (dJ : aH (fun c_ => X c_ ∨ c_ = bc) (bL sr rb) w) (fQ : aH (fun c_ => X c_ ∨ c_ = bc) (bL sk k) w) (jW : aH (fun c_ => X c_ ∨ c_ = bc) (bL sv vv) w) (nM : aH (fun c_ => X c_ ∨ c_ = bc) (bL se (fM kd dp lk lv B sb)) w) (sK : aH (fun c_ => X c_ ∨ c_ = bc) (aZ) w) (DZ : aH (fun c_ => X c_ ∨ c_ = bc) (eV) w) (bU : 0 ≤ bits ∧ bits ≤ 256) (hp : jG kd dp lk lv B sb) (hk : k.length = 32) (hr : rb.length = 32) (hv : vv.length ≤ 65535) (yJ : zF kd dp lk lv k (nI bits vv) pr) :
  bC prog 14 [.pointer (some ⟨bh, 0, none⟩), sr, .agg [sk, sv, .bool pr].toArray, se].toArray w fun v w' => ∃ (m : Int), v = .int .i64 (if (fI bits k (gI bits dp B sb) (eB (cZ (eT kd lk lv)) bits) dp) = rb then (0 : Int) else 13) ∧ Out (· = bc) w w' ∧ aN w' bc 213 [.int .i64 m] := by
 refine bC.aI (N := 25) func14 rfl rfl (by simp) ?_
 have H := (((((((St.dK (b := bc) (t := 213) (l := [.int .i64 n0]) hX fA).add (cC DZ)).add (cC sK)).add (cC nM)).add (cC jW)).add (cC fQ)).add (cC dJ)).add (cC bT)
 have SK : sr.oneCell' = true := cO.fW (dJ.here)
 have wT : sk.oneCell' = true := cO.fW (fQ.here)
 have hv1 : sv.oneCell' = true := cO.fW (jW.here)
 have he1 : se.oneCell' = true := cO.fW (nM.here)
 have hpz : eO XC := bN (bB _ rfl) (bN (bB _ rfl) (bN (bN (bH _) (bH _)) (bN (bH _) (bB _ rfl))))
 refine WE.aA ?_
 refine WL.box (l := [sk, sv, .bool pr]) H rfl (rfl) rfl ?_
 intro b6 w1 H
 refine WL.as rfl rfl (WL.nil (WE.aA ?_))
 refine WL.alloc H rfl aD0 rfl ?_
 intro b9 w2 H
 refine WL.nil (WE.seq (WE.aA (WL.mv rfl rfl (WL.mv rfl rfl ?_))))
 refine WL.bE rfl aH2 rfl rfl (aN.aF (H.l 1 rfl) (aK.all _) rfl) (by exact aEj) ?_
 refine WL.mv rfl rfl ?_
 refine WL.call aKi rfl (VQ (bh := bh) (bits := bits) (k := k) (vv := vv) (rb := rb) (kd := kd) (dp := dp) (lk := lk) (lv := lv) (B := B) (sb := sb) (sr := sr) (sk := sk) (sv := sv) (se := se) (pr := pr) H.aR (H.o 0 rfl) (by exact (H.aO 0 rfl 0 rfl : aH _ (fO bh bc bits) _)) (by exact (H.aO 0 rfl 1 rfl : aH _ (bL sr rb) _)) (by exact (H.aO 0 rfl 2 rfl : aH _ (bL sk k) _)) (by exact (H.aO 0 rfl 3 rfl : aH _ (bL sv vv) _)) (by exact (H.aO 0 rfl 4 rfl : aH _ (bL se (fM kd dp lk lv B sb)) _)) (by exact (H.aO 0 rfl 5 rfl : aH _ (aZ) _)) bU hp hk hr hv yJ) ?_
 rintro v15 w3 ⟨m15, hO, hB, hR⟩
 have aLI := (hR.here).Y5
 have aFn := (hR.here).isNil
 have LW := fK.none hR
 replace H := H.dP 0 rfl hO hB hR
 have aJy := fK.fault (show aH _ (fK [118, 101, 114, 105, 102, 121] 5 (if (fI bits k (gI bits dp B sb) (eB (cZ (eT kd lk lv)) bits) dp) = rb then (0 : Int) else 13) v15) _ from H.bJ 0 rfl)
 refine WL.as rfl rfl (WL.nil (WE.aA (WL.mv rfl rfl (WL.pv (PV.rF rfl (by kernel_rfl) (by assumption)) rfl (WL.mv rfl rfl ?_)))))
 refine WL.split (t := 18) rfl (fun tH => ?_) (fun tH => ?_)
 ·
  refine WL.known (t := 17) (c := true) rfl tH ?_
  try simp only [bP] at tH
  have h_ : gJ v15 = false := by exact tH
  have hz : (if (fI bits k (gI bits dp B sb) (eB (cZ (eT kd lk lv)) bits) dp) = rb then (0 : Int) else 13) ≠ 0 := by rw [aFn] at h_; simpa using h_
  obtain ⟨bf, rfl, hbf⟩ := aJy hz
  replace H := H.add hbf
  refine WL.mv rfl rfl (WL.pv (PV.lK rfl (by kernel_rfl)) rfl ?_)
  refine WL.call aDe rfl (aBX (bt := b9) (bf := bf) (op := [118, 101, 114, 105, 102, 121]) (ix := 5) (code := (if (fI bits k (gI bits dp B sb) (eB (cZ (eT kd lk lv)) bits) dp) = rb then (0 : Int) else 13)) H.aR (H.l 0 rfl) (by exact (H.iL 0 rfl 8 rfl : aH _ (eV) _)) (by exact (H.iL 0 rfl 0 rfl : aH _ (fun w => aN w bf 221 (dY [118, 101, 114, 105, 102, 121] 5 (if (fI bits k (gI bits dp B sb) (eB (cZ (eT kd lk lv)) bits) dp) = rb then (0 : Int) else 13))) _))) ?_
  rintro _ w4 ⟨rfl, hO, hB⟩
  replace H := H.called 0 rfl hO hB
  refine WL.pv (PV.not rfl rfl) rfl (WL.pv (PV.c5 rfl rfl rfl) rfl (WL.nil ?_))
  refine WE.bD rfl rfl ?_
  refine WE.skip (WE.aA (WL.aX rfl aDw rfl rfl (aN.aF (H.l 0 rfl) (aK.all _) rfl) (WL.as rfl rfl (WL.nil (WE.ret ⟨[_], _, .nil _, ⟨rfl, trivial⟩, ?_⟩)))))
  refine ⟨_, ?_, H.cT, H.o 0 rfl⟩
  rfl
 ·
  refine WL.known (t := 17) (c := false) rfl tH ?_
  try simp only [bP] at tH
  have h_ : gJ v15 = true := by exact tH
  have hz : (if (fI bits k (gI bits dp B sb) (eB (cZ (eT kd lk lv)) bits) dp) = rb then (0 : Int) else 13) = 0 := by rw [aFn] at h_; simpa using h_
  have aLp := LW hz
  refine WL.off rfl (WL.off rfl (WL.off rfl (WL.off rfl (WL.pv (PV.cF rfl rfl rfl) rfl (WL.nil (WE.jF rfl (WE.skip ?_)))))))
  refine WE.aA (WL.aX rfl aDw rfl rfl (aN.aF (H.l 0 rfl) (aK.all _) rfl) (WL.as rfl rfl (WL.nil (WE.ret ⟨[_], _, .nil _, ⟨rfl, trivial⟩, ?_⟩))))
  refine ⟨_, ?_, H.cT, H.o 0 rfl⟩
  (rw [hz]; rfl)
end Go.Sp.Tryz
