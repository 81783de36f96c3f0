/- Part of the proof of this claim: walks through the program's functions and the plain laws that they need, printed by a program of this session. -/
import Derived.Test.YthkombhebdjamaaGreatDoorP1
import Derived.Test.YthkombhebdjamaaGreatDoorMore
import Derived.Test.YthkombhebdjamaaGreatDoorExt
import Derived.Test.YthkombhebdjamaaGreatDoorDfr
import Derived.Test.YthkombhebdjamaaGreatDoorStr
import Derived.Test.YthkombhebdjamaaGreatDoorOpen
set_option maxRecDepth 100000
set_option maxHeartbeats 1000000
set_option linter.unusedVariables false
set_option linter.unusedSimpArgs false
namespace Go.Sp.Tryz
open Go.Proofs Go.RowKit Go.Sp Go.Sp.TryzT Go.Proofs.Tryz
variable {X : Nat → Prop} {w : World}
def pS (m : List En) : Prop := ∀ e ∈ m, e.s.oneCell' = true
theorem pS.of {m : List En} {w : World} (h : eL m w) : pS m := fun e he => cN.fX (h e he)
theorem qL {e : En} (h : e.s.oneCell' = true) : eN (nN e) := bN (bG _) (bA _ (by simp [h]))
theorem IC (m : List En) (d b k : Nat) (h : k < m.length) : bO (m.take (k + 1)) d b = bO (m.take k) d b ++ (if bI m[k].k d = b then [m[k]] else []) := by
 unfold bO
 rw [List.take_succ_eq_append_getElem h, List.filter_append]
 by_cases hb : bI m[k].k d = b <;> simp [hb]
theorem QW (m : List En) (q : List UInt8) (k : Nat) (h : k < m.length) : fG (m.take (k + 1)) q = fG (m.take k) q ++ (if m[k].k ≠ q then [m[k]] else []) := by
 unfold fG
 rw [List.take_succ_eq_append_getElem h, List.filter_append]
 by_cases hb : m[k].k = q <;> simp [hb]
theorem fP.rdk {v : Value} {m : List En} {w : World} (h : fP v m w) (hk : KL m) (i : Nat) (hi : i < m.length) : dA w ((jN v (i * 33)).add 0) (kc m[i].k) :=
 dA.sub (h.rd hk i hi) (aK.l (b := [m[i].s]) (aK.all (kc m[i].k)))
theorem fP.rdv {v : Value} {m : List En} {w : World} (h : fP v m w) (hk : KL m) (i : Nat) (hi : i < m.length) : dA w ((jN v (i * 33)).add 32) [m[i].s] :=
 dA.sub (h.rd hk i hi) (aK.r (a := kc m[i].k) (aK.all [m[i].s]) (by rw [aI, hk _ (List.getElem_mem hi)]))
theorem PV.dQ {P : Program} {σ : Env} {o : Oper} {s ft : TypeId} {x : Operand} {f off n : Nat} {a : Addr} (h : o.op = .fieldAddr s x f) (hf : cI P s f = some (off, ft, n + 1)) (hx : ev σ x = .pointer (some a)) :
  PV P σ o (.pointer (some (a.add off))) := fun w => by
 obtain ⟨fs, fl, i, hu, FC, h1, h2, hi, hn⟩ := oR hf
 have h3 := p3 hi hn (by omega) h2 h1 a w
 simp [execOp, h, hx, Instr.fieldAt, run_underlying hu, FC, Instr.sureAddr, h3]
theorem B7 {X : Nat → Prop} {w : World} {k l : List UInt8} (hX : cY X w) (hk : k.length = 32) (hl : l.length = 32) :
  bC prog 88 [.agg (kc k).toArray, .agg (kc l).toArray].toArray w fun v w' => v = .int .i64 (iI k l) ∧ Out Nil w w' := by
 refine bC.aH (N := 24) func88 rfl rfl (by simp) ?_
 have H := St.begin hX
 refine WE.aA ?_
 refine WL.box (l := kc k) H rfl rfl rfl ?_
 intro b2 w1 H
 refine WL.box (l := kc l) H rfl rfl rfl ?_
 intro b3 w2 H
 refine WL.as rfl rfl (WL.nil (WE.seq (WE.aA (WL.as rfl rfl (WL.nil (WE.block ?_))))))
 refine WE.loop (α := Nat) (rg [(4, 20)]) (fun i => [(5, .int .i64 i)]) (fun i wl => i ≤ 32 ∧ k.take i = l.take i ∧ St X w wl [] [aP.blk b3 24 (kc l), aP.blk b2 24 (kc k)] []) (fun i => 32 - i) 0 ⟨rfl, trivial⟩ ⟨Nat.zero_le _, by simp, H⟩ ?_
 intro i γ0 w3 hI
 try dsimp only at hI
 obtain ⟨hi, hpre, H⟩ := hI
 refine WE.seq (WE.aA (WL.mv rfl rfl (WL.pv (PV.lss rfl rfl rfl) rfl (WL.nil ?_))))
 refine WE.cond rfl (fun vU => ?_) (fun vU => ?_)
 ·
  try simp only [bW] at vU
  have hlt : i < 32 := by omega
  refine WE.skip (WE.seq (WE.block (WE.seq ?_)))
  refine WE.bH (.take 0 (.take 1 (.take 2 (.take 3 (.take 4 (.take 5 (.take 6 .done))))))) mixed (by kernel_rfl) ?_
  replace H := H.out (Out.drew _)
  refine WP.mv rfl rfl rfl (WP.aC rfl rfl (PV.bF rfl gZ gO rfl rfl (by omega) (by omega)) (WP.aM rfl rfl (RV.aV rfl u3 rfl) (aN.aF (H.l 1 rfl) (aK.byte i (by omega)) (by simp)) (WP.mv rfl rfl rfl (WP.aC rfl rfl (PV.bF rfl gZ gO rfl rfl (by omega) (by omega)) (WP.aM rfl rfl (RV.aV rfl u3 rfl) (aN.aF (H.l 0 rfl) (aK.byte i (by omega)) (by simp)) (WP.aC rfl rfl (PV.lss rfl rfl rfl) (WP.done ?_)))))))
  refine WE.cond rfl (fun nG => ?_) (fun nG => ?_)
  ·
   try simp only [bW] at nG
   have aCo := qM (by omega) i (by omega) hpre (by omega)
   refine WE.aA (WL.as rfl rfl (WL.nil (WE.ret ⟨[_], _, .nil _, ⟨rfl, trivial⟩, ?_⟩)))
   refine ⟨?_, H.aL⟩
   rw [iI, if_pos aCo]; rfl
  ·
   try simp only [bW] at nG
   refine WE.skip ?_
   refine WE.bH (.take 0 (.take 1 (.take 2 (.take 3 (.take 4 (.take 5 (.take 6 .done))))))) mixed (by kernel_rfl) ?_
   replace H := H.out (Out.drew _)
   refine WP.mv rfl rfl rfl (WP.aC rfl rfl (PV.bF rfl gZ gO rfl rfl (by omega) (by omega)) (WP.aM rfl rfl (RV.aV rfl u3 rfl) (aN.aF (H.l 1 rfl) (aK.byte i (by omega)) (by simp)) (WP.mv rfl rfl rfl (WP.aC rfl rfl (PV.bF rfl gZ gO rfl rfl (by omega) (by omega)) (WP.aM rfl rfl (RV.aV rfl u3 rfl) (aN.aF (H.l 0 rfl) (aK.byte i (by omega)) (by simp)) (WP.aC rfl rfl (PV.gtr rfl rfl rfl) (WP.done ?_)))))))
   refine WE.cond rfl (fun kV => ?_) (fun kV => ?_)
   ·
    try simp only [bW] at kV
    have aCo := qM (a := l) (b := k) (by omega) i (by omega) hpre.symm (by omega)
    refine WE.aA (WL.as rfl rfl (WL.nil (WE.ret ⟨[_], _, .nil _, ⟨rfl, trivial⟩, ?_⟩)))
    refine ⟨?_, H.aL⟩
    rw [iI, if_neg (by omega), if_pos aCo]; rfl
   ·
    try simp only [bW] at kV
    have heq : k[i] = l[i] := UInt8.toNat_inj.1 (by omega)
    have aET : k.take (i + 1) = l.take (i + 1) := by rw [List.take_succ_eq_append_getElem (by omega), List.take_succ_eq_append_getElem (by omega), hpre, heq]
    refine WE.skip (WE.dY (WL.mv rfl rfl (WL.pv (PV.bT rfl rfl rfl (by omega) (by omega)) rfl (WL.as rfl rfl (WL.nil ?_)))))
    exact ⟨i + 1, (by repeat (first | with_reducible exact bM.refl _ _ | refine bM.dD rfl ?_ | refine bM.bY rfl ?_ | refine bM.bV rfl ?_)), ⟨rfl, trivial⟩, rfl, ⟨by omega, aET, H⟩, (by omega)⟩
 ·
  try simp only [bW] at vU
  have aCu : i = 32 := by omega
  refine WE.exit (WE.aA (WL.as rfl rfl (WL.nil (WE.ret ⟨[_], _, .nil _, ⟨rfl, trivial⟩, ?_⟩))))
  refine ⟨?_, H.aL⟩
  have e : k = l := by rw [← List.take_of_length_le (show k.length ≤ i by omega), ← List.take_of_length_le (show l.length ≤ i by omega), hpre]
  rw [e, iI, if_neg (by omega), if_neg (by omega)]; rfl
theorem VI {X : Nat → Prop} {w : World} {s : Value} {m : List En} {d b : Nat} (hX : cY X w) (bU : aJ X (fP s m) w) (nM : KL m) (gK : pS m) (hlen : m.length ≤ 1000000) (hd : d < 256) :
  bC prog 66 [s, .int .i64 (d : Int), .int .i64 (b : Int)].toArray w fun v w' => Out Nil w w' ∧ aJ X (fP v (bO m d b)) w' := by
 refine bC.aH (N := 32) func66 rfl rfl (by simp) ?_
 have H := (St.begin hX).add (cE bU)
 refine WE.aA (WL.as rfl rfl (WL.nil (WE.aA (WL.as rfl rfl (WL.nil (WE.seq (WE.aA ?_)))))))
 refine WL.as rfl rfl (WL.nil (WE.block ?_))
 replace H := H.kS 111 33
 refine WE.loop (α := Nat × Value) (rg [(7, 24)]) (fun p => [(8, .int .i64 p.1), (7, p.2)]) (fun p wl => p.1 ≤ m.length ∧ St X w wl [] [aP.hU w.heap.size p.2 111 33 (bO (m.take p.1) d b).length ((bO (m.take p.1) d b).flatMap nN)] [fP s m]) (fun p => m.length - p.1) (0, .slice none 0 0) ⟨rfl, rfl, trivial⟩ ⟨Nat.zero_le _, H⟩ ?_
 intro ⟨k, v⟩ γ0 w1 hI
 try dsimp only at hI
 obtain ⟨hk, H⟩ := hI
 refine WE.seq (WE.aA (WL.mv rfl rfl (WL.mv rfl rfl (WL.pv (PV.dR (H.p 0 rfl : fP s m _) nR rfl) rfl (WL.pv (PV.lss rfl rfl rfl) rfl (WL.nil ?_))))))
 refine WE.cond rfl (fun lJ => ?_) (fun lJ => ?_)
 ·
  try simp only [bW] at lJ
  have hlt : k < m.length := by omega
  have hE : (nN m[k]).length = 1 * 33 := jV (nM _ (List.getElem_mem hlt))
  have hE2 : (nN m[k]).length = 33 := hE
  have hkk := nM _ (List.getElem_mem hlt)
  have vS : (bO (m.take k) d b).length ≤ k := Nat.le_trans (List.length_filter_le _ _) (by simp; omega)
  have hS := IC m d b k hlt
  have hB : zZ m[k].k (d : Int) = (bI m[k].k d : Int) := by rw [zZ, if_neg (by omega), Int.toNat_natCast]
  refine WE.skip ?_
  refine WE.cut (α := Value) (rg [(7, 1), (15, 16)]) (fun oD => [(7, oD)]) (fun oD wl => St X w wl [] [aP.hU w.heap.size oD 111 33 (bO (m.take (k + 1)) d b).length ((bO (m.take (k + 1)) d b).flatMap nN)] [fP s m]) ?_ ?_
  ·
   refine WE.block (WE.aA (WL.mv rfl rfl (WL.mv rfl rfl (WL.pv (PV.eA rfl (H.p 0 rfl : fP s m _) nR fH rfl rfl (by omega) (by omega)) rfl (WL.pv (PV.dQ rfl gW rfl) rfl ?_)))))
   refine WL.bE rfl cZ rfl rfl (fP.rdk (H.p 0 rfl) nM k hlt) (cK cL (by simp only [aS, aX]; omega)) ?_
   refine WL.mv rfl rfl ?_
   refine WL.call TQ rfl (xE (l := m[k].k) (i := (d : Int)) H.aR hkk (by omega)) ?_
   rintro _ w2 ⟨rfl, hO⟩
   replace H := H.out hO
   refine WL.mv rfl rfl (WL.pv (PV.eql rfl rfl rfl) rfl (WL.nil ?_))
   refine WE.cond rfl (fun kV => ?_) (fun kV => ?_)
   ·
    try simp only [bW] at kV
    rw [if_pos (by omega)] at hS
    refine WE.dY (WL.mv rfl rfl (WL.mv rfl rfl (WL.mv rfl rfl (WL.pv (PV.eA rfl (H.p 0 rfl : fP s m _) nR fH rfl rfl (by omega) (by omega)) rfl ?_))))
    refine WL.bE rfl oM rfl rfl (fP.rd (H.p 0 rfl) nM k hlt) (by (rw [fH]; refine congrArg some ?_; (simp [aI, aQ, *]; done))) ?_
    refine WL.bB (l0 := ((kc (List.replicate 32 0) ++ ([.slice none 0 0])))) H rfl vO (by decide) rfl (Fl.cons rfl rfl (by simp only [aS, aX]; omega) (Laid.all (by simp only [aS, aX]; omega)) Fl.nil) rfl ?_
    intro b29 w3 H
    refine WL.append (m := 1) H 1 vO (by decide) rfl rfl rfl (cN.bZ (n := 1) (H.l 0 rfl) hE) (qL (gK _ (List.getElem_mem hlt))) (by omega) (by decide) rfl ?_
    intro v30 w4 H
    have CX := congrArg List.length hS
    rw [List.length_append, show [m[k]].length = 1 from rfl] at CX
    have FK := congrArg (List.flatMap nN) hS
    rw [List.flatMap_append, List.flatMap_singleton] at FK
    replace H := H.forget 0
    replace H := H.conv (L' := [aP.hU w.heap.size v30 111 33 (bO (m.take (k + 1)) d b).length ((bO (m.take (k + 1)) d b).flatMap nN)]) (by rw [CX, FK]; rfl)
    refine WL.as rfl rfl (WL.nil ?_)
    exact ⟨v30, (by repeat (first | with_reducible exact bM.refl _ _ | refine bM.dD rfl ?_)), ⟨rfl, trivial⟩, rfl, H⟩
   ·
    try simp only [bW] at kV
    rw [if_neg (by omega), List.append_nil] at hS
    refine WE.skip ?_
    exact ⟨v, (by repeat (first | with_reducible exact bM.refl _ _ | refine bM.dD rfl ?_)), ⟨rfl, trivial⟩, rfl, H.conv (by rw [hS])⟩
  ·
   intro oD γ w5 hI
   try dsimp only at hI
   replace H := hI
   refine WE.dY (WL.mv rfl rfl (WL.pv (PV.bT rfl rfl rfl (by omega) (by omega)) rfl (WL.as rfl rfl (WL.nil ?_))))
   exact ⟨(k + 1, oD), (by repeat (first | with_reducible exact bM.refl _ _ | refine bM.dD rfl ?_ | refine bM.bY rfl ?_ | refine bM.bV rfl ?_)), ⟨rfl, rfl, trivial⟩, rfl, ⟨by dsimp only; omega, H⟩, (by dsimp only; omega)⟩
 ·
  try simp only [bW] at lJ
  have LI : m.take k = m := List.take_of_length_le (by omega)
  refine WE.exit (WE.aA (WL.mv rfl rfl (WL.as rfl rfl (WL.nil (WE.ret ⟨[_], _, .nil _, ⟨rfl, trivial⟩, ?_⟩)))))
  replace H := H.freeze (i := 0) rfl
  exact ⟨H.aL, H.gF ((H.bK 0 rfl).imp fun _ h => by rw [LI] at h; exact cN.dJ h)⟩
theorem y6 {X : Nat → Prop} {w : World} {s : Value} {m : List En} {q : List UInt8} (hX : cY X w) (bU : aJ X (fP s m) w) (nM : KL m) (gK : pS m) (hlen : m.length ≤ 1000000) (hq : q.length = 32) :
  bC prog 47 [s, .agg (kc q).toArray].toArray w fun v w' => Out Nil w w' ∧ aJ X (fP v (fG m q)) w' := by
 refine bC.aH (N := 28) func47 rfl rfl (by simp) ?_
 have H := (St.begin hX).add (cE bU)
 refine WE.aA ?_
 refine WL.box (l := kc q) H rfl rfl rfl ?_
 intro b3 w1 H
 refine WL.as rfl rfl (WL.nil (WE.aA (WL.as rfl rfl (WL.nil (WE.seq (WE.aA (WL.as rfl rfl ?_)))))))
 refine WL.nil (WE.block ?_)
 replace H := H.kS 111 33
 refine WE.loop (α := Nat × Value) (rg [(5, 22)]) (fun p => [(6, .int .i64 p.1), (5, p.2)]) (fun p wl => p.1 ≤ m.length ∧ St X w wl [] [aP.hU w.heap.size p.2 111 33 (fG (m.take p.1) q).length ((fG (m.take p.1) q).flatMap nN), aP.blk b3 24 (kc q)] [fP s m]) (fun p => m.length - p.1) (0, .slice none 0 0) ⟨rfl, rfl, trivial⟩ ⟨Nat.zero_le _, H⟩ ?_
 intro ⟨k, v⟩ γ0 w2 hI
 try dsimp only at hI
 obtain ⟨hk, H⟩ := hI
 refine WE.seq (WE.aA (WL.mv rfl rfl (WL.mv rfl rfl (WL.pv (PV.dR (H.p 0 rfl : fP s m _) nR rfl) rfl (WL.pv (PV.lss rfl rfl rfl) rfl (WL.nil ?_))))))
 refine WE.cond rfl (fun j5 => ?_) (fun j5 => ?_)
 ·
  try simp only [bW] at j5
  have hlt : k < m.length := by omega
  have hE : (nN m[k]).length = 1 * 33 := jV (nM _ (List.getElem_mem hlt))
  have hE2 : (nN m[k]).length = 33 := hE
  have hkk := nM _ (List.getElem_mem hlt)
  have vS : (fG (m.take k) q).length ≤ k := Nat.le_trans (List.length_filter_le _ _) (by simp; omega)
  have hS := QW m q k hlt
  refine WE.skip ?_
  refine WE.cut (α := Value) (rg [(5, 1), (13, 14)]) (fun oD => [(5, oD)]) (fun oD wl => St X w wl [] [aP.hU w.heap.size oD 111 33 (fG (m.take (k + 1)) q).length ((fG (m.take (k + 1)) q).flatMap nN), aP.blk b3 24 (kc q)] [fP s m]) ?_ ?_
  ·
   refine WE.block ?_
   refine WE.bH (.take 0 (.take 1 (.take 2 (.take 3 (.take 4 (.take 5 (.take 6 .done))))))) mixed (by kernel_rfl) ?_
   replace H := H.out (Out.drew _)
   refine WP.mv rfl rfl rfl (WP.mv rfl rfl rfl (WP.aC rfl rfl (PV.eA rfl (H.p 0 rfl : fP s m _) nR fH rfl rfl (by omega) (by omega)) (WP.aC rfl rfl (PV.dQ rfl gW rfl) ?_)))
   refine WP.dN rfl rfl rfl cZ rfl (fP.rdk (H.p 0 rfl) nM k hlt) (cK cL (by simp only [aS, aX]; omega)) ?_
   refine WP.dN rfl rfl rfl cZ rfl (aN.aF (H.l 1 rfl) (aK.all _) rfl) (cK cL (by simp only [aS, aX]; omega)) ?_
   refine WP.aC rfl rfl (PV.RO rfl gZ mC gO (by kernel_rfl) rfl rfl (by assumption) (by assumption)) (WP.done ?_)
   refine WE.cond rfl (fun j4 => ?_) (fun j4 => ?_)
   ·
    try simp only [bW] at j4
    rw [if_pos j4] at hS
    refine WE.dY (WL.mv rfl rfl (WL.mv rfl rfl (WL.mv rfl rfl (WL.pv (PV.eA rfl (H.p 0 rfl : fP s m _) nR fH rfl rfl (by omega) (by omega)) rfl ?_))))
    refine WL.bE rfl oM rfl rfl (fP.rd (H.p 0 rfl) nM k hlt) (by (rw [fH]; refine congrArg some ?_; (simp [aI, aQ, *]; done))) ?_
    refine WL.bB (l0 := ((kc (List.replicate 32 0) ++ ([.slice none 0 0])))) H rfl vO (by decide) rfl (Fl.cons rfl rfl (by simp only [aS, aX]; omega) (Laid.all (by simp only [aS, aX]; omega)) Fl.nil) rfl ?_
    intro b25 w3 H
    refine WL.append (m := 1) H 1 vO (by decide) rfl rfl rfl (cN.bZ (n := 1) (H.l 0 rfl) hE) (qL (gK _ (List.getElem_mem hlt))) (by omega) (by decide) rfl ?_
    intro v26 w4 H
    have CX := congrArg List.length hS
    rw [List.length_append, show [m[k]].length = 1 from rfl] at CX
    have FK := congrArg (List.flatMap nN) hS
    rw [List.flatMap_append, List.flatMap_singleton] at FK
    replace H := H.forget 0
    replace H := H.conv (L' := [aP.hU w.heap.size v26 111 33 (fG (m.take (k + 1)) q).length ((fG (m.take (k + 1)) q).flatMap nN), aP.blk b3 24 (kc q)]) (by rw [CX, FK]; rfl)
    refine WL.as rfl rfl (WL.nil ?_)
    exact ⟨v26, (by repeat (first | with_reducible exact bM.refl _ _ | refine bM.dD rfl ?_)), ⟨rfl, trivial⟩, rfl, H⟩
   ·
    try simp only [bW] at j4
    rw [if_neg (by simp [j4]), List.append_nil] at hS
    refine WE.skip ?_
    exact ⟨v, (by repeat (first | with_reducible exact bM.refl _ _ | refine bM.dD rfl ?_)), ⟨rfl, trivial⟩, rfl, H.conv (by rw [hS])⟩
  ·
   intro oD γ w5 hI
   try dsimp only at hI
   replace H := hI
   refine WE.dY (WL.mv rfl rfl (WL.pv (PV.bT rfl rfl rfl (by omega) (by omega)) rfl (WL.as rfl rfl (WL.nil ?_))))
   exact ⟨(k + 1, oD), (by repeat (first | with_reducible exact bM.refl _ _ | refine bM.dD rfl ?_ | refine bM.bY rfl ?_ | refine bM.bV rfl ?_)), ⟨rfl, rfl, trivial⟩, rfl, ⟨by dsimp only; omega, H⟩, (by dsimp only; omega)⟩
 ·
  try simp only [bW] at j5
  have LI : m.take k = m := List.take_of_length_le (by omega)
  refine WE.exit (WE.aA (WL.mv rfl rfl (WL.as rfl rfl (WL.nil (WE.ret ⟨[_], _, .nil _, ⟨rfl, trivial⟩, ?_⟩)))))
  replace H := H.freeze (i := 0) rfl
  exact ⟨H.aL, H.gF ((H.bK 0 rfl).imp fun _ h => by rw [LI] at h; exact cN.dJ h)⟩
def PF (e : En) (M : List En) (k : Nat) : List En × Bool := (M.take k).foldl (o4 e) ([], false)
def PA (e : En) (M : List En) (k : Nat) : List En × Bool := if (PF e M k).2 = false ∧ num e.k < num (M.getD k e).k then ((PF e M k).1 ++ [e], true) else PF e M k
theorem C0 {M : List En} {k : Nat} {e : En} (h : k < M.length) : M.getD k e = M[k] := by rw [List.getD_eq_getElem?_getD, List.getElem?_eq_getElem h]; rfl
theorem MI (e : En) (M : List En) (k : Nat) (h : k < M.length) : PF e M (k + 1) = ((PA e M k).1 ++ [M[k]], (PA e M k).2) := by
 unfold PF PA
 rw [List.take_succ_eq_append_getElem h, List.foldl_append, List.foldl_cons, List.foldl_nil, C0 h]
 show o4 e (PF e M k) _ = _
 unfold o4
 split <;> simp
theorem J2 (e : En) (M : List En) (k : Nat) : (PF e M k).1.length ≤ k + 1 := by
 have h : ∀ (l out : List En) (b : Bool), (l.foldl (o4 e) (out, b)).1.length ≤ out.length + l.length + (if b then 0 else 1) := by
  intro l
  induction l with
  | nil => intro out b; simp
  | cons x l ih =>
   intro out b
   rw [List.foldl_cons]
   by_cases hb : b = false ∧ num e.k < num x.k
   ·
    have : o4 e (out, b) x = (out ++ [e, x], true) := by simp [o4, hb]
    rw [this]
    have := ih (out ++ [e, x]) true
    simp [hb.1] at this ⊢; omega
   ·
    have : o4 e (out, b) x = (out ++ [x], b) := by unfold o4; rw [if_neg hb]
    rw [this]
    have := ih (out ++ [x]) b
    simp at this ⊢; omega
 have := h (M.take k) [] false
 simp at this
 unfold PF
 omega
theorem aDm (e : En) (M : List En) (k : Nat) : (PA e M k).1.length ≤ k + 2 := by
 have := J2 e M k
 unfold PA; split <;> simp <;> omega
theorem aDl (e : En) (M : List En) : fS M e = (if (PF e (fG M e.k) (fG M e.k).length).2 = true then (PF e (fG M e.k) (fG M e.k).length).1 else (PF e (fG M e.k) (fG M e.k).length).1 ++ [e]) := by
 have := Q6 e (fG M e.k) []
 unfold fS PF
 rw [List.take_length, List.nil_append] at *
 rw [← this]
 cases ((fG M e.k).foldl (o4 e) ([], false)).2 <;> rfl
theorem QY {m : List En} {k : List UInt8} (h : KL m) : KL (fG m k) := fun e he => h e (jG.1 he).1
theorem XE {m : List En} {k : List UInt8} (h : pS m) : pS (fG m k) := fun e he => h e (jG.1 he).1
theorem wB (m : List En) (k : List UInt8) : (fG m k).length ≤ m.length := List.length_filter_le _ _
theorem aBu {X : Nat → Prop} {w : World} {s vs : Value} {m : List En} {q vv : List UInt8} (hX : cY X w) (bU : aJ X (fP s m) w) (dI : aJ X (bJ vs vv) w) (nM : KL m) (gK : pS m) (hlen : m.length ≤ 1000000) (hq : q.length = 32) :
  bC prog 44 [s, .agg (kc q).toArray, vs].toArray w fun v w' => Out Nil w w' ∧ aJ X (fP v (fS m (En.mk q vs vv))) w' := by
 refine bC.aH (N := 54) func44 rfl rfl (by simp) ?_
 have H := ((St.begin hX).add (cE dI)).add (cE bU)
 refine WE.aA ?_
 refine WL.box (l := kc q) H rfl rfl rfl ?_
 intro b4 w1 H
 refine WL.as rfl rfl (WL.nil (WE.aA (WL.as rfl rfl (WL.nil (WE.aA (WL.as rfl rfl (WL.nil ?_)))))))
 refine WE.aA (WL.mv rfl rfl ?_)
 refine WL.bE rfl cZ rfl rfl (aN.aF (H.l 0 rfl) (aK.all _) rfl) (cK cL (by simp only [aS, aX]; omega)) ?_
 refine WL.call aCO rfl (y6  H.aR (by exact H.bK 0 rfl) (by assumption) (by assumption) (by assumption) (by assumption)) ?_
 rintro v13 w2 ⟨hO, hR⟩
 replace H := (H.out hO).add hR
 refine WL.as rfl rfl (WL.nil (WE.seq (WE.aA (WL.as rfl rfl (WL.nil (WE.block ?_))))))
 have YL := QY (k := q) nM
 have aEU := XE (k := q) gK
 have hlM := wB m q
 have hvs : vs.oneCell' = true := cN.fX (H.p 2 rfl : bJ vs vv _)
 replace H := H.kS 111 33
 refine WE.loop (α := Nat × Value) (rg [(7, 2), (10, 1), (14, 31)]) (fun p => [(10, .int .i64 p.1), (7, p.2), (8, .bool (PF (En.mk q vs vv) (fG m q) p.1).2)]) (fun p wl => p.1 ≤ (fG m q).length ∧ St X w wl [] [aP.hU w.heap.size p.2 111 33 ((PF (En.mk q vs vv) (fG m q) p.1).1).length (((PF (En.mk q vs vv) (fG m q) p.1).1).flatMap nN), aP.blk b4 24 (kc q)] [fP v13 (fG m q), fP s m, bJ vs vv]) (fun p => (fG m q).length - p.1) (0, .slice none 0 0) ⟨rfl, rfl, rfl, trivial⟩ ⟨Nat.zero_le _, H⟩ ?_
 intro ⟨k, v⟩ γ0 w3 hI
 try dsimp only at hI
 obtain ⟨hk, H⟩ := hI
 refine WE.seq (WE.aA (WL.mv rfl rfl (WL.mv rfl rfl (WL.pv (PV.dR (H.p 0 rfl : fP _ (fG m q) _) nR rfl) rfl (WL.pv (PV.lss rfl rfl rfl) rfl (WL.nil ?_))))))
 refine WE.cond rfl (fun iR => ?_) (fun iR => ?_)
 ·
  try simp only [bW] at iR
  have hlt : k < (fG m q).length := by omega
  have hE : (nN (fG m q)[k]).length = 1 * 33 := jV (YL _ (List.getElem_mem hlt))
  have hE2 : (nN (fG m q)[k]).length = 33 := hE
  have hkk := YL _ (List.getElem_mem hlt)
  have vS := J2 (En.mk q vs vv) (fG m q) k
  have aK3 := aDm (En.mk q vs vv) (fG m q) k
  have hq1 : (nN (En.mk q vs vv)).length = 1 * 33 := jV hq
  have YH : (nN (En.mk q vs vv)).length = 33 := hq1
  refine WE.skip (WE.seq (WE.block ?_))
  refine WE.cut (α := Value × Bool) (rg [(7, 2), (20, 18)]) (fun oD => [(7, oD.1), (8, .bool oD.2)]) (fun oD wl => oD.2 = (PA (En.mk q vs vv) (fG m q) k).2 ∧ St X w wl [] [aP.hU w.heap.size oD.1 111 33 ((PA (En.mk q vs vv) (fG m q) k).1).length (((PA (En.mk q vs vv) (fG m q) k).1).flatMap nN), aP.blk b4 24 (kc q)] [fP v13 (fG m q), fP s m, bJ vs vv]) ?_ ?_
  ·
   refine WE.bH (.take 0 (.take 1 (.take 2 (.take 3 (.take 4 (.take 5 (.take 6 (.take 7 (.take 8 (.aG 9 (.take 10 (.take 11 .done)))))))))))) mixed (by kernel_rfl) ?_
   replace H := H.out (Out.drew _)
   refine WP.mv rfl rfl rfl (WP.aC rfl rfl (PV.not rfl rfl) (WP.mv rfl rfl rfl ?_))
   refine WP.split (t := 22) rfl (fun s6 => ?_) (fun s6 => ?_)
   ·
    refine WP.known (t := 21) (c := true) rfl s6 ?_
    try simp only [bW] at s6
    refine WP.dN rfl rfl rfl cZ rfl (aN.aF (H.l 1 rfl) (aK.all _) rfl) (cK cL (by simp only [aS, aX]; omega)) ?_
    refine WP.mv rfl rfl rfl (WP.mv rfl rfl rfl ?_)
    refine WP.aC rfl rfl (PV.eA rfl (by exact H.p 0 rfl : fP _ (fG m q) _) nR fH rfl rfl (by omega) (by omega)) ?_
    refine WP.aC rfl rfl (PV.dQ rfl gW rfl) ?_
    refine WP.dN rfl rfl rfl cZ rfl (fP.rdk (H.p 0 rfl) YL k hlt) (cK cL (by simp only [aS, aX]; omega)) ?_
    refine WP.aG rfl ?_
    refine WL.call aJy rfl (B7  H.aR  (by assumption) (by assumption)) ?_
    rintro _ w4 ⟨rfl, hO⟩
    replace H := H.out hO
    refine WL.nil ⟨(fa (nw 9 8) (fa (nw 9 3) c5)), ?_⟩
    refine WP.aC rfl rfl (PV.lss rfl rfl rfl) (WP.aC rfl rfl (PV.dP rfl rfl rfl) (WP.done ?_))
    refine WE.cond rfl (fun kU => ?_) (fun kU => ?_)
    ·
     try simp only [bW] at kU
     have hif : (PF (En.mk q vs vv) (fG m q) k).2 = false ∧ num q < num (fG m q)[k].k := by exact ⟨by simpa using s6, mG.1 (by simpa using kU)⟩
     have hPA : (PA (En.mk q vs vv) (fG m q) k) = ((PF (En.mk q vs vv) (fG m q) k).1 ++ [(En.mk q vs vv)], true) := by rw [PA, if_pos (by rw [C0 hlt]; exact hif)]
     have hS : (PA (En.mk q vs vv) (fG m q) k).1 = (PF (En.mk q vs vv) (fG m q) k).1 ++ [(En.mk q vs vv)] := by rw [hPA]
     refine WE.aA (WL.mv rfl rfl ?_)
     refine WL.bE rfl cZ rfl rfl (aN.aF (H.l 1 rfl) (aK.all _) rfl) (cK cL (by simp only [aS, aX]; omega)) ?_
     refine WL.mv rfl rfl ?_
     refine WL.pv (PV.dM rfl xL kL (Fl.cons rfl rfl (by simp only [aS, aX]; omega) (Laid.left (Laid.all (by simp only [aS, aX]; omega))) (Fl.cons rfl (cN.cells (H.p 2 rfl : bJ vs vv _)) (by simp only [aS, aX]) (Laid.right (Laid.all (by simp only [aS, aX])) (by simp only [aS, aX]; omega)) Fl.nil))) rfl ?_
     refine WL.bB (l0 := ((kc (List.replicate 32 0) ++ ([.slice none 0 0])))) H rfl vO (by decide) rfl (Fl.cons rfl rfl (by simp only [aS, aX]; omega) (Laid.all (by simp only [aS, aX]; omega)) Fl.nil) rfl ?_
     intro b36 w5 H
     refine WL.append (m := 1) H 1 vO (by decide) rfl rfl rfl (cN.bZ (n := 1) (H.l 0 rfl) hq1) (qL (e := (En.mk q vs vv)) hvs) (by omega) (by decide) rfl ?_
     intro v37 w6 H
     have CX := congrArg List.length hS
     rw [List.length_append, show [(En.mk q vs vv)].length = 1 from rfl] at CX
     have FK := congrArg (List.flatMap nN) hS
     rw [List.flatMap_append, List.flatMap_singleton] at FK
     replace H := H.forget 0
     replace H := H.conv (L' := [aP.hU w.heap.size v37 111 33 ((PA (En.mk q vs vv) (fG m q) k).1).length (((PA (En.mk q vs vv) (fG m q) k).1).flatMap nN), aP.blk b4 24 (kc q)]) (by rw [CX, FK]; rfl)
     refine WL.as rfl rfl (WL.nil (WE.dY (WL.as rfl rfl (WL.nil ?_))))
     exact ⟨(v37, true), (by repeat (first | with_reducible exact bM.refl _ _ | refine bM.dD rfl ?_)), ⟨rfl, rfl, trivial⟩, rfl, ⟨by rw [hPA], H⟩⟩
    ·
     try simp only [bW] at kU
     have hPA : (PA (En.mk q vs vv) (fG m q) k) = PF (En.mk q vs vv) (fG m q) k := by rw [PA, if_neg (by rw [C0 hlt]; rintro ⟨h1, h2⟩; (have h3 := mG.2 (show num q < num (fG m q)[k].k from h2); omega))]
     refine WE.skip ?_
     exact ⟨(v, (PF (En.mk q vs vv) (fG m q) k).2), (by repeat (first | with_reducible exact bM.refl _ _ | refine bM.dD rfl ?_)), ⟨rfl, rfl, trivial⟩, rfl, ⟨by rw [hPA], H.conv (by rw [hPA])⟩⟩
   ·
    refine WP.known (t := 21) (c := false) rfl s6 ?_
    try simp only [bW] at s6
    have hPA : (PA (En.mk q vs vv) (fG m q) k) = PF (En.mk q vs vv) (fG m q) k := by rw [PA, if_neg (by rw [s6]; rintro ⟨h1, _⟩; cases h1)]
    refine WP.eD rfl rfl (WP.eD rfl rfl (WP.eD rfl rfl (WP.eD rfl rfl (WP.eD rfl rfl (WP.eD rfl rfl (WP.aG rfl (WL.off rfl ?_)))))))
    refine WL.nil ⟨c5, ?_⟩
    refine WP.eD rfl rfl (WP.aC rfl rfl (PV.dF rfl rfl rfl) (WP.done (WE.jB rfl (WE.skip ?_))))
    exact ⟨(v, (PF (En.mk q vs vv) (fG m q) k).2), (by repeat (first | with_reducible exact bM.refl _ _ | refine bM.dD rfl ?_)), ⟨rfl, rfl, trivial⟩, rfl, ⟨by rw [hPA], H.conv (by rw [hPA])⟩⟩
  ·
   intro ⟨g1v, g1b⟩ γ w7 hI
   try dsimp only at hI
   obtain ⟨aE9, H⟩ := hI
   have hPS := congrArg Prod.snd (MI (En.mk q vs vv) (fG m q) k hlt)
   dsimp only at hPS
   rw [← hPS] at aE9
   subst aE9
   refine WE.dY (WL.mv rfl rfl (WL.mv rfl rfl (WL.mv rfl rfl ?_)))
   refine WL.pv (PV.eA rfl (by exact H.p 0 rfl : fP _ (fG m q) _) nR fH rfl rfl (by omega) (by omega)) rfl ?_
   refine WL.bE rfl oM rfl rfl (fP.rd (H.p 0 rfl) YL k hlt) (by (rw [fH]; refine congrArg some ?_; (simp [aI, aQ, *]; done))) ?_
   refine WL.bB (l0 := ((kc (List.replicate 32 0) ++ ([.slice none 0 0])))) H rfl vO (by decide) rfl (Fl.cons rfl rfl (by simp only [aS, aX]; omega) (Laid.all (by simp only [aS, aX]; omega)) Fl.nil) rfl ?_
   intro b43 w8 H
   have hS := congrArg Prod.fst (MI (En.mk q vs vv) (fG m q) k hlt)
   dsimp only at hS
   refine WL.append (m := 1) H 1 vO (by decide) rfl rfl rfl (cN.bZ (n := 1) (H.l 0 rfl) hE) (qL (aEU _ (List.getElem_mem hlt))) (by omega) (by decide) rfl ?_
   intro v44 w9 H
   have CX := congrArg List.length hS
   rw [List.length_append, show [(fG m q)[k]].length = 1 from rfl] at CX
   have FK := congrArg (List.flatMap nN) hS
   rw [List.flatMap_append, List.flatMap_singleton] at FK
   replace H := H.forget 0
   replace H := H.conv (L' := [aP.hU w.heap.size v44 111 33 ((PF (En.mk q vs vv) (fG m q) (k + 1)).1).length (((PF (En.mk q vs vv) (fG m q) (k + 1)).1).flatMap nN), aP.blk b4 24 (kc q)]) (by rw [CX, FK]; rfl)
   refine WL.as rfl rfl (WL.nil (WE.dY (WL.mv rfl rfl (WL.pv (PV.bT rfl rfl rfl (by omega) (by omega)) rfl (WL.as rfl rfl (WL.nil ?_))))))
   exact ⟨(k + 1, v44), (by repeat (first | with_reducible exact bM.refl _ _ | refine bM.dD rfl ?_ | refine bM.bY rfl ?_ | refine bM.bV rfl ?_)), ⟨rfl, rfl, rfl, trivial⟩, rfl, ⟨by dsimp only; omega, H⟩, (by dsimp only; omega)⟩
 ·
  try simp only [bW] at iR
  have LI : k = (fG m q).length := by omega
  have vS := J2 (En.mk q vs vv) (fG m q) k
  have hq1 : (nN (En.mk q vs vv)).length = 1 * 33 := jV hq
  have YH : (nN (En.mk q vs vv)).length = 33 := hq1
  have hpe := aDl (En.mk q vs vv) m
  refine WE.exit (WE.seq (WE.aA (WL.mv rfl rfl (WL.pv (PV.not rfl rfl) rfl (WL.nil ?_)))))
  refine WE.cond rfl (fun SS => ?_) (fun SS => ?_)
  ·
   try simp only [bW] at SS
   have hS : fS m (En.mk q vs vv) = (PF (En.mk q vs vv) (fG m q) k).1 ++ [(En.mk q vs vv)] := by rw [hpe, if_neg (by rw [← LI]; simpa using SS), LI]
   refine WE.dY (WL.mv rfl rfl ?_)
   refine WL.bE rfl cZ rfl rfl (aN.aF (H.l 1 rfl) (aK.all _) rfl) (cK cL (by simp only [aS, aX]; omega)) ?_
   refine WL.mv rfl rfl ?_
   refine WL.pv (PV.dM rfl xL kL (Fl.cons rfl rfl (by simp only [aS, aX]; omega) (Laid.left (Laid.all (by simp only [aS, aX]; omega))) (Fl.cons rfl (cN.cells (H.p 2 rfl : bJ vs vv _)) (by simp only [aS, aX]) (Laid.right (Laid.all (by simp only [aS, aX])) (by simp only [aS, aX]; omega)) Fl.nil))) rfl ?_
   refine WL.bB (l0 := ((kc (List.replicate 32 0) ++ ([.slice none 0 0])))) H rfl vO (by decide) rfl (Fl.cons rfl rfl (by simp only [aS, aX]; omega) (Laid.all (by simp only [aS, aX]; omega)) Fl.nil) rfl ?_
   intro b51 tM H
   refine WL.append (m := 1) H 1 vO (by decide) rfl rfl rfl (cN.bZ (n := 1) (H.l 0 rfl) hq1) (qL (e := (En.mk q vs vv)) hvs) (by omega) (by decide) rfl ?_
   intro v52 wT H
   have CX := congrArg List.length hS
   rw [List.length_append, show [(En.mk q vs vv)].length = 1 from rfl] at CX
   have FK := congrArg (List.flatMap nN) hS
   rw [List.flatMap_append, List.flatMap_singleton] at FK
   replace H := H.forget 0
   replace H := H.conv (L' := [aP.hU w.heap.size v52 111 33 (fS m (En.mk q vs vv)).length ((fS m (En.mk q vs vv)).flatMap nN), aP.blk b4 24 (kc q)]) (by rw [CX, FK]; rfl)
   refine WL.as rfl rfl (WL.nil (WE.aA (WL.mv rfl rfl (WL.as rfl rfl (WL.nil (WE.ret ⟨[_], _, .nil _, ⟨rfl, trivial⟩, ?_⟩))))))
   skip
   replace H := H.freeze (i := 0) rfl
   exact ⟨H.aL, H.gF ((H.bK 0 rfl).imp fun _ h => cN.dJ h)⟩
  ·
   try simp only [bW] at SS
   have hS2 : fS m (En.mk q vs vv) = (PF (En.mk q vs vv) (fG m q) k).1 := by rw [hpe, if_pos (by rw [← LI]; simpa using SS), LI]
   refine WE.skip (WE.aA (WL.mv rfl rfl (WL.as rfl rfl (WL.nil (WE.ret ⟨[_], _, .nil _, ⟨rfl, trivial⟩, ?_⟩)))))
   rw [← hS2] at H
   replace H := H.freeze (i := 0) rfl
   exact ⟨H.aL, H.gF ((H.bK 0 rfl).imp fun _ h => cN.dJ h)⟩
theorem EL {X : Nat → Prop} {w : World} {a : Value} {k la : List UInt8} {i : Int} (hX : cY X w) (bU : aJ X (bJ a la) w) (dI : aJ X (aZ) w) (hk : k.length = 32) (rR : la.length ≤ 1000000) (hi : 0 ≤ i ∧ i ≤ 256) :
  bC prog 65 [.int .i64 i, .agg (kc k).toArray, a].toArray w fun v w' => v = .agg (kc k ++ kc (nC i la)).toArray ∧ Out Nil w w' := by
 refine bC.aH (N := 13) func65 rfl rfl (by simp) ?_
 have H := ((St.begin hX).add (cE dI)).add (cE bU)
 refine WE.aA ?_
 refine WL.box (l := kc k) H rfl rfl rfl ?_
 intro b4 w1 H
 refine WL.alloc H rfl HG rfl ?_
 intro b6 w2 H
 refine WL.nil ?_
 refine WE.bH (.take 0 (.take 1 (.take 2 (.aG 3 (.aG 4 (.take 5 (.aG 6 .done))))))) mixed (by kernel_rfl) ?_
 replace H := H.out (Out.drew _)
 refine WP.dN rfl rfl rfl cZ rfl (aN.aF (H.l 1 rfl) (aK.all _) rfl) (cK cL (by simp only [aS, aX]; omega)) ?_
 refine WP.mv rfl rfl rfl (WP.mv rfl rfl rfl (WP.aG rfl ?_))
 refine WL.call aHb rfl (HV (la := la) H.aR (by exact H.bK 0 rfl) (by omega)) ?_
 rintro v10 w3 ⟨hO, hR⟩
 replace H := (H.out hO).add hR
 refine WL.nil ⟨(fa (fun _ _ => (aN.aF (H.l 1 rfl) (aK.all _) rfl)) c5), ?_⟩
 refine WP.aG rfl ?_
 refine WL.call Y7 rfl (qK (la := 2 :: la) (i := i) H.aR (by exact H.bK 0 rfl) (by (simp; omega)) (by omega)) ?_
 rintro _ w4 ⟨rfl, hO⟩
 replace H := H.out hO
 refine WL.nil ⟨(fa (rk hO) c5), ?_⟩
 refine WP.aC rfl rfl (PV.dM rfl XK HG (Fl.cons rfl rfl (by simp only [aS, aX]; omega) (Laid.left (Laid.all (by simp only [aS, aX]; omega))) (Fl.cons rfl rfl (by simp only [aS, aX]) (Laid.right (Laid.all (by simp only [aS, aX])) (by simp only [aS, aX]; omega)) Fl.nil))) ?_
 refine WP.aG rfl ?_
 refine WL.aW H 0 rfl rfl rfl (new := _) rfl (cK wX (by simp only [aS, aX]; omega)) (bN (bG _) (bG _)) (Laid.at (Laid.all (by simp only [aS, aX]; omega)) rfl) rfl ?_
 intro w5 H
 refine WL.nil ⟨(fa (nw 6 0) c5), ?_⟩
 refine WP.done (WE.ret ⟨[_], _, .nil _, ⟨⟨_, rfl, aU GN (aN.aF (H.l 0 rfl) (aK.all _) rfl) (cK wX (by simp only [aS, aX]; omega))⟩, trivial⟩, ?_⟩)
 exact ⟨rfl, H.aL⟩
theorem HW {X : Nat → Prop} {w : World} {i : Int} (hX : cY X w) (bU : aJ X (aZ) w) (hi : 0 ≤ i ∧ i ≤ 256) :
  bC prog 62 [.int .i64 i].toArray w fun v w' => v = .agg (kc (lL i)).toArray ∧ Out Nil w w' := by
 refine bC.aH (N := 6) func62 rfl rfl (by simp) ?_
 have H := (St.begin hX).add (cE bU)
 refine WE.aA ?_
 refine WL.alloc H rfl k6 rfl ?_
 intro b2 w1 H
 refine WL.nil (WE.aA (WL.mv rfl rfl ?_))
 refine WL.bB (l0 := [.int .u8 (0)]) H rfl iD (by decide) (cT _ _) (Fl.cons rfl rfl (by simp only [aS, aX]) Laid.head Fl.nil) rfl ?_
 intro b4 w2 H
 replace H := H.freeze (i := 0) rfl
 replace H := H.add ((H.bK 0 rfl).imp fun _ h => bJ.bZ (l := [3]) h rfl)
 refine WL.call Y7 rfl (qK (la := [3]) (i := i) H.aR (by exact H.bK 0 rfl) (by simp_all) (by omega)) ?_
 rintro _ w3 ⟨rfl, hO⟩
 replace H := H.out hO
 refine WL.aW H 0 rfl rfl rfl (new := _) rfl (by exact c9) (bG _) (Laid.at (Laid.all (by simp only [aS, aX])) rfl) rfl ?_
 intro w4 H
 refine WL.nil (WE.ret ⟨[_], _, .nil _, ⟨⟨_, rfl, aU fO (aN.aF (H.l 0 rfl) (aK.all _) rfl) (by exact c9)⟩, trivial⟩, ?_⟩)
 exact ⟨rfl, H.aL⟩
def Sh.fit : Nat → Sh → Prop
 | d, .inner l r => d < 256 ∧ l.fit (d + 1) ∧ r.fit (d + 1)
 | _, _ => True
theorem yC {d : Nat} {m : List En} (h : Pm d m) : (grow d m).fit d :=
 FN (P := fun d _ s => s.fit d) (fun _ => trivial) (fun _ _ => trivial) (fun _ _ _ hd _ h0 h1 => ⟨hd, h0, h1⟩) _ d m rfl h
theorem oC {d : Nat} {m : List En} (h : Pm d m) : (grow d m).kind = 2 ↔ 2 ≤ m.length := by
 match m, h with
 | [], _ => rw [eF]; simp [Sh.kind]
 | [e], _ => rw [dO]; simp [Sh.kind]
 | a :: b :: m, h =>
  rw [iP d _ (h.lt (by simp)) (by simp)]
  simp [Sh.kind]
def Tr.child (T : Tr) (b : Nat) : Tr := if b = 0 then T.left else T.right
def Tr.step (k : List UInt8) (d : Nat) (T : Tr) : Tr := T.child (bI k d)
def Tr.beside (k : List UInt8) (d : Nat) (T : Tr) : Tr := T.child (1 - bI k d)
def Tr.iX (k : List UInt8) (d : Nat) (T : Tr) : Nat → Tr
 | 0 => T
 | i + 1 => (Tr.iX k d T i).step k (i + d)
def Tr.dp (k : List UInt8) : Nat → Tr → Nat
 | d, .inner _ l r => if bI k d = 0 then Tr.dp k (d + 1) l + 1 else Tr.dp k (d + 1) r + 1
 | _, _ => 0
theorem Tr.oK (k : List UInt8) (T : Tr) : ∀ (i d : Nat), Tr.iX k d T (i + 1) = Tr.iX k (d + 1) (T.step k d) i := by
 intro i
 induction i with
 | zero => intro d; show T.step k (0 + d) = _; rw [Nat.zero_add]; rfl
 | succ i ih =>
  intro d
  show (Tr.iX k d T (i + 1)).step k (i + 1 + d) = (Tr.iX k (d + 1) (T.step k d) i).step k (i + (d + 1))
  rw [ih, show i + 1 + d = i + (d + 1) by omega]
theorem Tr.qS {k : List UInt8} {d : Nat} {T : Tr} (h : T.er.kind = 2) : T.dp k d = (T.step k d).dp k (d + 1) + 1 := by
 obtain ⟨a, l, r, rfl⟩ := Tr.A3 h
 unfold Tr.step Tr.child
 show (if bI k d = 0 then _ else _) = _
 split <;> rfl
theorem cW.step {bits : Int} {T : Tr} {w : World} {k : List UInt8} {d : Nat} (h : cW bits T w) : cW bits (T.step k d) w := by
 unfold Tr.step Tr.child; split
 ·
  exact h.left
 ·
  exact h.right
theorem cW.beside {bits : Int} {T : Tr} {w : World} {k : List UInt8} {d : Nat} (h : cW bits T w) : cW bits (T.beside k d) w := by
 unfold Tr.beside Tr.child; split
 ·
  exact h.left
 ·
  exact h.right
theorem cW.iX {bits : Int} {T : Tr} {w : World} {k : List UInt8} {d : Nat} (h : cW bits T w) : ∀ i, cW bits (T.iX k d i) w
 | 0 => h
 | i + 1 => (cW.iX h i).step
theorem Tr.r7 {k : List UInt8} : ∀ (i d : Nat) (T : Tr), i < T.dp k d → (T.iX k d i).er.kind = 2 := by
 intro i
 induction i with
 | zero =>
  intro d T h
  show T.er.kind = 2
  cases T <;> first | rfl | (simp [Tr.dp] at h)
 | succ i ih =>
  intro d T h
  have h2 : T.er.kind = 2 := by
   cases T <;> first | rfl | (simp [Tr.dp] at h)
  rw [Tr.oK]
  rw [Tr.qS h2] at h
  exact ih _ _ (by omega)
theorem Tr.qW {k : List UInt8} : ∀ (n d : Nat) (T : Tr), T.dp k d = n → (T.iX k d n).er.kind ≠ 2 := by
 intro n
 induction n with
 | zero =>
  intro d T h h2
  have h2' : T.er.kind = 2 := h2
  rw [Tr.qS h2'] at h
  omega
 | succ n ih =>
  intro d T h
  have h2 : T.er.kind = 2 := by
   cases T <;> first | rfl | (simp [Tr.dp] at h)
  rw [Tr.oK]
  rw [Tr.qS h2] at h
  exact ih _ _ (by omega)
theorem Tr.yM {k : List UInt8} : ∀ (n d : Nat) (T : Tr), T.dp k d = n → T.er.fit d → d ≤ 256 → d + T.dp k d ≤ 256 := by
 intro n
 induction n with
 | zero => intro d T h _ _; omega
 | succ n ih =>
  intro d T h hf hd
  have h2 : T.er.kind = 2 := by
   cases T <;> first | rfl | (simp [Tr.dp] at h)
  have h' := h
  rw [Tr.qS h2] at h
  obtain ⟨a, l, r, rfl⟩ := Tr.A3 h2
  have hs : ((Tr.inner a l r).step k d).er.fit (d + 1) := by unfold Tr.step Tr.child; split; exact hf.2.1; exact hf.2.2
  have := ih (d + 1) _ (by omega) hs hf.1
  omega
def GI (k : List UInt8) (d : Nat) (m : List En) : Nat → List En
 | 0 => m
 | i + 1 => bO (GI k d m i) (i + d) (bI k (i + d))
theorem grow_step {T : Tr} {d : Nat} {m : List En} (k : List UInt8) (hT : T.er = grow d m) (hp : Pm d m) (h2 : T.er.kind = 2) :
  d < 256 ∧ 2 ≤ m.length ∧ (T.step k d).er = grow (d + 1) (bO m d (bI k d)) ∧ (T.beside k d).er = grow (d + 1) (bO m d (1 - bI k d)) := by
 rw [hT] at h2
 have hm := (oC hp).1 h2
 have hd := hp.lt hm
 rw [iP d m hd hm] at hT
 have hb := dX k d
 cases T with
 | nil => cases hT
 | leaf => cases hT
 | inner a l r =>
  injection hT with h1 h3
  refine ⟨hd, hm, ?_, ?_⟩
  ·
   unfold Tr.step Tr.child
   by_cases h : bI k d = 0
   ·
    rw [if_pos h, h]; exact h1
   ·
    rw [if_neg h, show bI k d = 1 by omega]; exact h3
  ·
   unfold Tr.beside Tr.child
   by_cases h : bI k d = 0
   ·
    rw [h]; exact h3
   ·
    rw [show bI k d = 1 by omega]; exact h1
theorem GH {T : Tr} {d : Nat} {m : List En} {k : List UInt8} (hT : T.er = grow d m) (hp : Pm d m) : ∀ i, i ≤ T.dp k d → (T.iX k d i).er = grow (i + d) (GI k d m i) ∧ Pm (i + d) (GI k d m i) := by
 intro i
 induction i with
 | zero => intro _; rw [Nat.zero_add]; exact ⟨hT, hp⟩
 | succ i ih =>
  intro hi
  have h := ih (by omega)
  have hs := grow_step k h.1 h.2 (Tr.r7 i d T (by omega))
  rw [show i + 1 + d = i + d + 1 by omega]
  exact ⟨hs.2.2.1, h.2.part hs.1 _⟩
theorem UO {T : Tr} {d : Nat} {m : List En} {k : List UInt8} (hT : T.er = grow d m) (hp : Pm d m) {i : Nat} (hi : i < T.dp k d) : 2 ≤ (GI k d m i).length ∧ i + d < 256 := by
 have h := GH (k := k) hT hp i (by omega)
 have hs := grow_step k h.1 h.2 (Tr.r7 i d T hi)
 exact ⟨hs.2.1, hs.1⟩
theorem JQ {T : Tr} {d : Nat} {m : List En} {k : List UInt8} (hT : T.er = grow d m) (hp : Pm d m) : (GI k d m (T.dp k d)).length ≤ 1 := by
 have h := GH (k := k) hT hp _ (Nat.le_refl _)
 have h2 := Tr.qW _ d T (rfl : T.dp k d = _)
 rw [h.1] at h2
 have := mt (oC h.2).2 h2
 omega
theorem iG {m : List En} {d b : Nat} {e : En} : e ∈ bO m d b ↔ e ∈ m ∧ bI e.k d = b := by simp [bO]
def getM (m : List En) (k : List UInt8) : Option En := m.find? fun e => e.k == k
theorem A5 {m : List En} {k : List UInt8} {d : Nat} : getM (bO m d (bI k d)) k = getM m k := by
 induction m with
 | nil => rfl
 | cons e m ih =>
  have e1 : bO (e :: m) d (bI k d) = if (bI e.k d == bI k d) = true then e :: bO m d (bI k d) else bO m d (bI k d) := List.filter_cons
  rw [e1]
  by_cases h : e.k = k
  ·
   subst h
   simp [getM]
  ·
   have h' : (e.k == k) = false := by simpa using h
   by_cases hb : (bI e.k d == bI k d) = true
   ·
    rw [if_pos hb]
    show List.find? _ (e :: _) = List.find? _ (e :: _)
    rw [List.find?_cons, List.find?_cons, h']
    exact ih
   ·
    rw [if_neg hb]
    show _ = List.find? _ (e :: _)
    rw [List.find?_cons, h']
    exact ih
theorem LJ {m : List En} {k : List UInt8} {d : Nat} : ∀ i, getM (GI k d m i) k = getM m k
 | 0 => rfl
 | i + 1 => (A5).trans (LJ i)
theorem AD {m : List En} {w : World} {d b : Nat} (h : eL m w) : eL (bO m d b) w := fun e he => h e (iG.1 he).1
theorem aB (bits : Int) (d : Nat) (m : List En) : (nT bits d m).length = 32 := eT _ _
def kZ (m : List En) : Prop := ∀ e ∈ m, e.v.length ≤ 1000000
theorem kZ.part {m : List En} {d b : Nat} (h : kZ m) : kZ (bO m d b) := fun e he => h e (iG.1 he).1
theorem sP (m : List En) (d b : Nat) : (bO m d b).length ≤ m.length := List.length_filter_le _ _
def VE (bits : Int) (d : Nat) : Prop := ∀ {X : Nat → Prop} {w : World} {s : Value} {m : List En}, (∀ b, X b → b < w.heap.size) → aJ X (fP s m) w → aJ X (eL m) w → aJ X aZ w → Pm d m → m.length ≤ 1000000 → kZ m → 0 ≤ bits ∧ bits ≤ 256 →
 bC prog 26 [.int .i64 bits, s, .int .i64 (d : Int)].toArray w fun v w' => v = .agg (kc (nT bits d m)).toArray ∧ Out Nil w w'
theorem VD {X : Nat → Prop} {w : World} {bits : Int} {s : Value} {m : List En} {d : Nat} (hX : cY X w) (bU : aJ X (fP s m) w) (dI : aJ X (eL m) w) (fU : aJ X (aZ) w) (oA : Pm d m) (hlen : m.length ≤ 1000000) (hsv : kZ m) (bS : 0 ≤ bits ∧ bits ≤ 256) (ih : VE bits (d + 1)) :
  bC prog 26 [.int .i64 bits, s, .int .i64 (d : Int)].toArray w fun v w' => v = .agg (kc (nT bits d m)).toArray ∧ Out Nil w w' := by
 refine bC.aH (N := 49) func26 rfl rfl (by simp) ?_
 have H := (((St.begin hX).add (cE fU)).add (cE dI)).add (cE bU)
 have nM := oA.kl
 have gK := pS.of (dI.here)
 refine WE.aA ?_
 refine WL.alloc H rfl k6 rfl ?_
 intro b6 w1 H
 refine WL.nil (WE.seq (WE.aA (WL.mv rfl rfl ?_)))
 refine WL.pv (PV.dR (by exact H.p 0 rfl : fP s m _) nR rfl) rfl ?_
 refine WL.pv (PV.eql rfl rfl rfl) rfl (WL.nil ?_)
 refine WE.cond rfl (fun jU => ?_) (fun jU => ?_)
 ·
  try simp only [bW] at jU
  obtain rfl : m = [] := List.eq_nil_of_length_eq_zero (by omega)
  refine WE.aA (WL.mv rfl rfl ?_)
  refine WL.call aJI rfl (HW (i := bits) H.aR (by exact H.bK 2 rfl) (by assumption)) ?_
  rintro _ w2 ⟨rfl, hO⟩
  replace H := H.out hO
  refine WL.aW H 0 rfl rfl rfl (new := _) rfl (by exact c9) (bG _) (Laid.at (Laid.all rfl) rfl) rfl ?_
  intro w3 H
  refine WL.nil (WE.ret ⟨[_], _, .nil _, ⟨⟨_, rfl, aU fO (aN.aF (H.l 0 rfl) (aK.all _) rfl) (by exact c9)⟩, trivial⟩, ?_⟩)
  refine ⟨?_, H.aL⟩
  rw [nT, eF]; rfl
 ·
  try simp only [bW] at jU
  refine WE.skip (WE.seq (WE.aA (WL.mv rfl rfl ?_)))
  refine WL.pv (PV.dR (by exact H.p 0 rfl : fP s m _) nR rfl) rfl ?_
  refine WL.pv (PV.eql rfl rfl rfl) rfl (WL.nil ?_)
  refine WE.cond rfl (fun nG => ?_) (fun nG => ?_)
  ·
   try simp only [bW] at nG
   obtain ⟨e, rfl⟩ : ∃ e, m = [e] := List.length_eq_one_iff.1 (by omega)
   have hk := nM e (by simp)
   have hv := hsv e (by simp)
   have hvd := fY bits e.v
   refine WE.bH (.take 0 (.take 1 (.take 2 (.take 3 (.take 4 (.take 5 (.take 6 (.take 7 (.take 8 (.take 9 (.aG 10 (.aG 11 (.aG 12 (.aG 13 .done)))))))))))))) mixed (by kernel_rfl) ?_
   replace H := H.out (Out.drew _)
   refine WP.mv rfl rfl rfl (WP.mv rfl rfl rfl (WP.mv rfl rfl rfl ?_))
   refine WP.aC rfl rfl (PV.eA rfl (by exact H.p 0 rfl : fP s _ _) nR fH rfl rfl (by omega) (by simp)) ?_
   refine WP.aC rfl rfl (PV.dQ rfl gW rfl) ?_
   refine WP.dN rfl rfl rfl cZ rfl (fP.rdk (H.p 0 rfl) nM 0 (by simp)) (by (rw [cL]; refine congrArg some ?_; (simp [aI, aQ, *]; done))) ?_
   refine WP.mv rfl rfl rfl ?_
   refine WP.aC rfl rfl (PV.eA rfl (by exact H.p 0 rfl : fP s _ _) nR fH rfl rfl (by omega) (by simp)) ?_
   refine WP.aC rfl rfl (PV.dQ rfl mY rfl) (WP.aM rfl rfl (RV.aV rfl eU rfl) (fP.rdv (H.p 0 rfl) nM 0 (by simp)) (WP.aG rfl ?_))
   refine WL.call aJG rfl (EL (k := e.k) (la := e.v) (i := bits) H.aR (by exact (H.bK 1 rfl).imp fun _ h => h e (by simp)) (by exact H.bK 2 rfl) (by assumption) (by assumption) (by assumption)) ?_
   rintro _ w4 ⟨rfl, hO⟩
   replace H := H.out hO
   refine WL.nil ⟨(fa (nw 10 9) (fa (nw 10 5) c5)), ?_⟩
   refine WP.aG rfl ?_
   refine WL.call aJH rfl (M7 (k := e.k) (l := nC bits e.v) H.aR  (by assumption) (by assumption)) ?_
   rintro v28 w5 ⟨hO, hR⟩
   replace H := (H.out hO).add hR
   refine WL.nil ⟨(fa (nw 11 9) (fa (nw 11 5) c5)), ?_⟩
   refine WP.aG rfl ?_
   refine WL.call Y7 rfl (qK (la := 0 :: (e.k ++ nC bits e.v)) (i := bits) H.aR (by exact H.bK 0 rfl) (by (simp; omega)) (by omega)) ?_
   rintro _ w6 ⟨rfl, hO⟩
   replace H := H.out hO
   refine WL.nil ⟨(fa (nw 12 9) (fa (nw 12 5) c5)), ?_⟩
   refine WP.aG rfl ?_
   refine WL.aW H 0 rfl rfl rfl (new := _) rfl (by exact c9) (bG _) (Laid.at (Laid.all (by simp only [aS, aX, aB])) rfl) rfl ?_
   intro w7 H
   refine WL.nil ⟨(fa (nw 13 9) (fa (nw 13 5) c5)), ?_⟩
   refine WP.done (WE.ret ⟨[_], _, .nil _, ⟨⟨_, rfl, aU fO (aN.aF (H.l 0 rfl) (aK.all _) rfl) (by exact c9)⟩, trivial⟩, ?_⟩)
   refine ⟨?_, H.aL⟩
   rw [nT, dO]; rfl
  ·
   try simp only [bW] at nG
   have h2 : 2 ≤ m.length := by omega
   have hd := oA.lt h2
   refine WE.skip (WE.aA (WL.mv rfl rfl (WL.mv rfl rfl (WL.mv rfl rfl ?_))))
   refine WL.call aFY rfl (VI (m := m) (d := d) (b := 0) H.aR (by exact H.bK 0 rfl) (by assumption) (by assumption) (by assumption) (by assumption)) ?_
   rintro v33 w8 ⟨hO, hR⟩
   replace H := (H.out hO).add hR
   refine WL.mv rfl rfl (WL.pv (PV.eq (v' := .int .i64 ((d + 1 : Nat) : Int)) (PV.bT rfl rfl rfl (by omega) (by omega)) rfl) rfl ?_)
   refine WL.call aCQ rfl (ih (m := bO m d 0) H.aR (H.bK 0 rfl) (by exact (H.bK 2 rfl).imp fun _ h => AD h) (by exact H.bK 3 rfl) (by exact oA.part hd _) (by exact Nat.le_trans (sP _ _ _) hlen) (by exact kZ.part hsv) bS) ?_
   rintro _ w9 ⟨rfl, hO⟩
   replace H := H.out hO
   refine WL.alloc H rfl k6 rfl ?_
   intro b7 tM H
   refine WL.aW H 0 rfl rfl rfl (new := _) rfl (cK c9 (by simp only [aS, aX, aB])) (bG _) (Laid.at (Laid.all (by simp only [aS, aX, aB])) rfl) rfl ?_
   intro wT H
   refine WL.nil (WE.aA (WL.mv rfl rfl (WL.mv rfl rfl (WL.mv rfl rfl ?_))))
   refine WL.call aFY rfl (VI (m := m) (d := d) (b := 1) H.aR (by exact H.bK 1 rfl) (by assumption) (by assumption) (by assumption) (by assumption)) ?_
   rintro v40 G2 ⟨hO, hR⟩
   replace H := (H.out hO).add hR
   refine WL.mv rfl rfl (WL.pv (PV.eq (v' := .int .i64 ((d + 1 : Nat) : Int)) (PV.bT rfl rfl rfl (by omega) (by omega)) rfl) rfl ?_)
   refine WL.call aCQ rfl (ih (m := bO m d 1) H.aR (H.bK 0 rfl) (by exact (H.bK 3 rfl).imp fun _ h => AD h) (by exact H.bK 4 rfl) (by exact oA.part hd _) (by exact Nat.le_trans (sP _ _ _) hlen) (by exact kZ.part hsv) bS) ?_
   rintro _ D4 ⟨rfl, hO⟩
   replace H := H.out hO
   refine WL.alloc H rfl k6 rfl ?_
   intro b8 KG H
   refine WL.aW H 0 rfl rfl rfl (new := _) rfl (cK c9 (by simp only [aS, aX, aB])) (bG _) (Laid.at (Laid.all (by simp only [aS, aX, aB])) rfl) rfl ?_
   intro PD H
   refine WL.nil (WE.aA (WL.mv rfl rfl ?_))
   refine WL.bE rfl fO rfl rfl (aN.aF (H.l 1 rfl) (aK.all _) rfl) (cK c9 (by simp only [aS, aX, aB])) ?_
   refine WL.bE rfl fO rfl rfl (aN.aF (H.l 0 rfl) (aK.all _) rfl) (cK c9 (by simp only [aS, aX, aB])) ?_
   refine WL.call aJF rfl (M6 (k := nT bits (d + 1) (bO m d 0)) (l := nT bits (d + 1) (bO m d 1)) H.aR  (eT _ _) (eT _ _)) ?_
   rintro v47 P7 ⟨hO, hR⟩
   replace H := (H.out hO).add hR
   refine WL.call Y7 rfl (qK (la := 1 :: (nT bits (d + 1) (bO m d 0) ++ nT bits (d + 1) (bO m d 1))) (i := bits) H.aR (by exact H.bK 0 rfl) (by simp [nT, eT]) (by omega)) ?_
   rintro _ P6 ⟨rfl, hO⟩
   replace H := H.out hO
   refine WL.aW H 2 rfl rfl rfl (new := _) rfl (by exact c9) (bG _) (Laid.at (Laid.all (by simp only [aS, aX, aB])) rfl) rfl ?_
   intro P5 H
   refine WL.nil (WE.ret ⟨[_], _, .nil _, ⟨⟨_, rfl, aU fO (aN.aF (H.l 2 rfl) (aK.all _) rfl) (by exact c9)⟩, trivial⟩, ?_⟩)
   refine ⟨?_, H.aL⟩
   have e0 : nT bits d m = _ := congrArg (Sh.nO bits) (iP d m hd h2)
   rw [e0]; rfl
theorem Z1 (bits : Int) : ∀ (n d : Nat), 256 - d = n → VE bits d := by
 intro n
 induction n with
 | zero =>
  intro d hn X w s m hX h0 h1 h2 hp hl hs hb
  exact VD hX h0 h1 h2 hp hl hs hb (fun _ _ _ _ hp' => absurd hp'.le (by omega))
 | succ n ih =>
  intro d hn X w s m hX h0 h1 h2 hp hl hs hb
  exact VD hX h0 h1 h2 hp hl hs hb (ih (d + 1) (by omega))
theorem aDg {X : Nat → Prop} {w : World} {s : Value} {m : List En} {bits : Int} {d : Nat} (hX : cY X w) (h0 : aJ X (fP s m) w) (h1 : aJ X (eL m) w) (h2 : aJ X aZ w) (hp : Pm d m) (hl : m.length ≤ 1000000) (hs : kZ m) (hb : 0 ≤ bits ∧ bits ≤ 256) :
  bC prog 26 [.int .i64 bits, s, .int .i64 (d : Int)].toArray w fun v w' => v = .agg (kc (nT bits d m)).toArray ∧ Out Nil w w' :=
 Z1 bits _ d rfl hX h0 h1 h2 hp hl hs hb
theorem Pm.gH {d : Nat} {m : List En} (h : Pm d m) : (grow d m).gH = m.length := mD h
theorem Tr.sW {T : Tr} {k v : List UInt8} (h : T.er = .leaf k v) : ∃ a s, T = .leaf a k v s := by
 cases T with
 | nil => cases h
 | inner => cases h
 | leaf a k' v' s => injection h with h1 h2; subst h1; subst h2; exact ⟨a, s, rfl⟩
theorem Tr.R5 {T : Tr} {x y : Sh} (h : T.er = .inner x y) : ∃ a l r, T = .inner a l r ∧ l.er = x ∧ r.er = y := by
 cases T with
 | nil => cases h
 | leaf => cases h
 | inner a l r => injection h with h1 h2; exact ⟨a, l, r, rfl, h1, h2⟩
theorem Tr.II {T : Tr} (h : T.er = .nil) : T = .nil := by cases T <;> first | rfl | cases h
theorem DM {X : Nat → Prop} {w : World} {bits : Int} {T : Tr} (hX : cY X w) (bU : aJ X (cW bits T) w) :
  bC prog 61 [T.ptr].toArray w fun v w' => ∃ s2, v = .agg (kc T.key ++ [s2]).toArray ∧ Out Nil w w' ∧ w'.ownsRow w.heap.size 5 1 s2 T.val.length (kc T.val) := by
 refine bC.aH (N := 13) func61 rfl rfl (by simp) ?_
 have H := (St.begin hX).add (cE bU)
 have hk := cW.gY (bU.here)
 have hd := Tr.aT bits T
 have LC := cW.P8 (bU.here)
 have hvs := cN.fX (cW.vsl (bU.here))
 refine WE.aA ?_
 refine WL.alloc H rfl kL rfl ?_
 intro b2 w1 H
 refine WL.nil (WE.aA (WL.mv rfl rfl ?_))
 refine WL.call aFV rfl (K8 (T := T) H.aR (H.bK 0 rfl)) ?_
 rintro _ w2 ⟨rfl, hO⟩
 replace H := H.out hO
 rw [Tr.CG]
 refine WL.alloc H rfl KB rfl ?_
 intro b3 w3 H
 refine WL.aW H 0 rfl rfl rfl (new := _) rfl (cK D8 (by simp only [aS, aX, aB]; omega)) (bN (bN (bG _) (bG _)) (bA _ (by simp [hvs]))) (Laid.at (Laid.all (by simp only [aS, aX, aB]; omega)) rfl) rfl ?_
 intro w4 H
 refine WL.nil ?_
 refine WE.bH (.take 0 (.take 1 (.take 2 (.take 3 (.take 4 (.aG 5 (.take 6 (.aG 7 .done)))))))) mixed (by kernel_rfl) ?_
 replace H := H.out (Out.drew _)
 refine WP.aC rfl rfl (PV.fieldAddr rfl C8 rfl) (WP.aC rfl rfl (PV.fieldAddr rfl kH rfl) ?_)
 refine WP.dN rfl rfl rfl cZ rfl (aN.aF (H.l 0 rfl) (aK.l (aK.l (aK.all _))) rfl) (cK cL (by simp only [aS, aX, aB]; omega)) ?_
 refine WP.aC rfl rfl (PV.fieldAddr rfl Y3 rfl) ?_
 refine WP.aM rfl rfl (RV.aV rfl eU rfl) (aN.aF (H.l 0 rfl) (aK.r (aK.all _) rfl) (by simp [aI, aQ, *])) ?_
 refine WP.aG rfl ?_
 refine WL.call aBg rfl (GZ (la := T.val) H.aR ((H.bK 0 rfl).imp fun _ h => h.vsl) (by omega)) ?_
 rintro s2 w5 ⟨hO, iB⟩
 have hs2 := cN.fX (bJ.dJ iB)
 replace H := H.push hO (aP.hU w.heap.size s2 5 1 _ _) (gR iB H.size) (fun b hb => (iB.lt b hb).1)
 refine WL.nil ⟨(fa (nw 5 4) (fa (fun _ _ => (aN.aF (H.l 1 rfl) (aK.l (aK.l (aK.all _))) rfl)) c5)), ?_⟩
 refine WP.aC rfl rfl (PV.dM rfl xL kL (Fl.cons rfl rfl (by simp only [aS, aX, aB]; omega) (Laid.left (Laid.all (by simp only [aS, aX, aB]; omega))) (Fl.cons rfl (cells_one hs2) (by simp only [aS, aX, aB]) (Laid.right (Laid.all (by simp only [aS, aX, aB])) (by simp only [aS, aX, aB]; omega)) Fl.nil))) ?_
 refine WP.aG rfl ?_
 refine WL.aW H 2 rfl rfl rfl (new := kc T.key ++ [s2]) rfl (cK fH (by simp only [aS, aX, aB]; omega)) (bN (bG _) (bA _ (by simp [hs2]))) (Laid.at (Laid.all (by simp only [aS, aX, aB]; omega)) rfl) rfl ?_
 intro w6 H
 refine WL.nil ⟨(fa (nw 7 4) (fa (nw 7 2) c5)), ?_⟩
 refine WP.done (WE.ret ⟨[_], _, .nil _, ⟨⟨_, rfl, aU oM (aN.aF (H.l 2 rfl) (aK.all _) rfl) (cK fH (by simp only [aS, aX, aB]; omega))⟩, trivial⟩, ?_⟩)
 exact ⟨s2, rfl, H.aL, H.l 0 rfl⟩
theorem NM (s t : Sh) : (kM s t).gH = s.gH + t.gH := by cases s <;> cases t <;> simp [kM, Sh.gH]
theorem aKd {m : Nat} (h : m < 256) : IntKind.u8.wrap ((BitVec.ofInt IntKind.u8.bits (m : Int) &&& BitVec.ofInt IntKind.u8.bits 1).toNat : Int) = ((m % 2 : Nat) : Int) := by
 rw [KD]
 have e : (BitVec.ofInt IntKind.u8.bits (m : Int) &&& BitVec.ofInt IntKind.u8.bits 1).toNat = m % 2 := by
  show (BitVec.ofInt 8 (m : Int) &&& 1#8).toNat = _
  rw [BitVec.ofInt_natCast, BitVec.toNat_and]
  simp [Nat.and_one_is_mod]
 rw [e]
 omega
theorem jZ {X : Nat → Prop} {w : World} {k : List UInt8} {d : Nat} (hX : cY X w) (hk : k.length = 32) (hd : d < 256) :
  bC prog 74 [.agg (kc k).toArray, .int .i64 (d : Int)].toArray w fun v w' => v = .int .i64 (bI k d : Int) ∧ Out Nil w w' := by
 refine bC.aH (N := 21) func74 rfl rfl (by simp) ?_
 have H := St.begin hX
 have hx := (k.getD (d / 8) 0).toNat_lt
 have hb2 := dX k d
 refine WE.aA ?_
 refine WL.box (l := kc k) H rfl rfl rfl ?_
 intro b2 w1 H
 refine WL.as rfl rfl (WL.nil (WE.seq (WE.aA (WL.mv rfl rfl (WL.pv (PV.lss rfl rfl rfl) rfl (WL.mv rfl rfl (WL.known (t := 7) (c := false) rfl (by simp) ?_)))))))
 refine WL.mv rfl rfl (WL.pv (PV.geq rfl rfl rfl) rfl (WL.pv (PV.dF rfl rfl rfl) rfl (WL.nil ?_)))
 refine WE.bD rfl (by (simp; omega)) ?_
 refine WE.skip (WE.aA (WL.mv rfl rfl ?_))
 refine WL.pv (PV.eq (v' := .int .i64 ((d / 8 : Nat) : Int)) (PV.p6 rfl rfl rfl (by omega) (by omega) (by omega)) rfl) rfl ?_
 refine WL.pv (PV.bF rfl gZ gO rfl rfl (by omega) (by omega)) rfl (WL.aY rfl u3 rfl rfl (aN.JL (H.l 0 rfl) (d / 8) (by omega) (by omega)) (WL.mv rfl rfl (WL.pv (PV.eq (v' := .int .i64 ((d % 8 : Nat) : Int)) (PV.p5 rfl rfl rfl (by omega) (by omega)) rfl) rfl ?_)))
 refine WL.pv (PV.eq (v' := .int .i64 ((7 - d % 8 : Nat) : Int)) (PV.gC rfl rfl rfl (by omega) (by omega)) (by (congr 1; omega))) rfl ?_
 refine WL.pv (PV.eq (v' := .int .u8 (((k.getD (d / 8) 0).toNat / 2 ^ (7 - d % 8) : Nat) : Int)) (PV.B3 rfl rfl rfl (by show _ < 8; omega)) rfl) rfl ?_
 refine WL.pv (PV.eq (v' := .int .u8 ((bI k d : Nat) : Int)) (PV.JT rfl rfl rfl) (congrArg (Value.int .u8) (aKd (Nat.lt_of_le_of_lt (Nat.div_le_self _ _) hx)))) rfl ?_
 refine WL.pv (PV.lM rfl mC sZ rfl (by omega) (by omega)) rfl (WL.as rfl rfl (WL.nil (WE.ret ⟨[_], _, .nil _, ⟨rfl, trivial⟩, ?_⟩)))
 exact ⟨rfl, H.aL⟩
theorem qX {X : Nat → Prop} {w : World} {bits : Int} {T : Tr} {b : Nat} (hX : cY X w) (bU : aJ X (cW bits T) w) :
  bC prog 73 [T.ptr, .int .i64 (b : Int)].toArray w fun v w' => v = (T.child b).ptr ∧ Out Nil w w' := by
 refine bC.aH (N := 11) func73 rfl rfl (by simp) ?_
 have H := (St.begin hX).add (cE bU)
 refine WE.aA (WL.as rfl rfl (WL.nil (WE.seq (WE.aA (WL.mv rfl rfl (WL.pv (PV.eql rfl rfl rfl) rfl (WL.nil ?_)))))))
 refine WE.cond rfl (fun SQ => ?_) (fun SQ => ?_)
 ·
  try simp only [bW] at SQ
  have hb : b = 0 := by omega
  refine WE.aA (WL.mv rfl rfl ?_)
  refine WL.call TP rfl (J3 (T := T) (bits := bits) H.aR (by exact H.bK 0 rfl) ) ?_
  rintro _ w1 ⟨rfl, hO⟩
  replace H := H.out hO
  refine WL.as rfl rfl (WL.nil (WE.ret ⟨[_], _, .nil _, ⟨rfl, trivial⟩, ?_⟩))
  refine ⟨?_, H.aL⟩
  rw [Tr.child, if_pos hb]; rfl
 ·
  try simp only [bW] at SQ
  have hb : b ≠ 0 := by omega
  refine WE.skip (WE.aA (WL.mv rfl rfl ?_))
  refine WL.call TO rfl (y5 (T := T) (bits := bits) H.aR (by exact H.bK 0 rfl) ) ?_
  rintro _ w2 ⟨rfl, hO⟩
  replace H := H.out hO
  refine WL.as rfl rfl (WL.nil (WE.ret ⟨[_], _, .nil _, ⟨rfl, trivial⟩, ?_⟩))
  refine ⟨?_, H.aL⟩
  rw [Tr.child, if_neg hb]; rfl
def aId (T : Tr) (k : List UInt8) (i : Nat) (xs : List Value) (_ : World) : Prop := xs = [.int .i64 (i : Int), (T.iX k 0 i).ptr]
def aIe (b1 b2 : Nat) : Value := .func (.func 111) [].toArray [.pointer (some ⟨b1, 0, none⟩), .pointer (some ⟨b2, 0, none⟩)].toArray
theorem aAt {X : Nat → Prop} {w : World} {T : Tr} {k : List UInt8} (hX : cY X w) (hk : k.length = 32) :
  bC prog 71 [T.ptr, .agg (kc k).toArray].toArray w fun v w' => ∃ b1 b2, v = aIe b1 b2 ∧ Out Nil w w' ∧ w.heap.size ≤ b1 ∧ aN w' b1 39 [T.ptr] ∧ aJ (fun c => X c ∨ c = b1) (fun w => dA w ⟨b2, 0, none⟩ (kc k)) w' := by
 refine bC.aH (N := 6) func71 rfl rfl (by simp) ?_
 have H := St.begin hX
 refine WE.aA ?_
 refine WL.box (l := [T.ptr]) H rfl (rfl) rfl ?_
 intro b2 w1 H
 refine WL.box (l := kc k) H rfl rfl rfl ?_
 intro b3 w2 H
 refine WL.as rfl rfl (WL.nil (WE.aA (WL.pv (PV.makeFunc rfl) rfl (WL.as rfl rfl (WL.nil (WE.ret ⟨[_], _, .nil _, ⟨rfl, trivial⟩, ?_⟩))))))
 replace H := H.freeze (i := 0) rfl
 exact ⟨_, _, rfl, H.aL, H.kF _ (List.mem_of_getElem? (i := 0) rfl) _ rfl, H.l 0 rfl, (H.aA1 0 rfl).imp fun _ h => h.rd⟩
theorem D3 {C : Nat → Prop} {w : World} {b1 b2 : Nat} {bits : Int} {T : Tr} {k : List UInt8} (hC : ∀ b, C b → b < w.heap.size) (eY : aN w b1 39 ([T.ptr])) (hn0 : ¬ C b1) (bU : aJ (fun c_ => C c_ ∨ c_ = b1) (fun w => dA w ⟨b2, 0, none⟩ (kc k)) w) (dI : aJ (fun c_ => C c_ ∨ c_ = b1) (cW bits T) w) (hk : k.length = 32) (hfit : T.er.fit 0) : U9 prog 111 [] [.pointer (some ⟨b1, 0, none⟩), .pointer (some ⟨b2, 0, none⟩)] (T.dp k 0 + 1) (aId T k) (· = b1) C w := by
 intro f J Jx hst j3 NO iH hf
 show bC prog 111 ([f, .pointer (some ⟨b1, 0, none⟩), .pointer (some ⟨b2, 0, none⟩)] : List Value).toArray w _
 refine bC.aH (N := 21) func111 rfl rfl (by simp) ?_
 have H := ((St.dG (X := C) (b := b1) (t := 39) (l := [T.ptr]) hC eY).add (cC dI)).add (cC bU)
 have DQ := Tr.yM (k := k) _ 0 T rfl hfit (by omega)
 refine WE.aA (WL.as rfl rfl (WL.nil (WE.block ?_)))
 refine WE.loop (α := Nat) (rg [(4, 17)]) (fun i => [(4, .int .i64 i)]) (fun i wl => i ≤ T.dp k 0 ∧ J (· = b1) i wl ∧ St C wl wl [aP.blk b1 39 [(T.iX k 0 i).ptr]] [] [fun w => dA w ⟨b2, 0, none⟩ (kc k), cW bits T]) (fun i => T.dp k 0 - i) 0 ⟨rfl, trivial⟩ ⟨Nat.zero_le _, hst (· = b1) w (Out.refl _ _) (fun _ h => .inl h) (fun _ h => h), H⟩ ?_
 intro i γ0 w1 hI
 try dsimp only at hI
 obtain ⟨hi, hJ, H⟩ := hI
 have CN : ∃ HI, HI = w1 := ⟨_, rfl⟩
 obtain ⟨HI, CN⟩ := CN
 rw [← CN] at hJ H ⊢
 clear CN
 refine WE.seq (WE.aA (WL.mv rfl rfl (WL.mv rfl rfl (WL.aY rfl iL rfl rfl (aN.aF (H.o 0 rfl) (aK.all _) rfl) ?_))))
 refine WL.iW rfl rfl (iH (· = b1) i _ HI _ (by omega) hJ H.cR (aJ.pure rfl)) ?_
 rintro _ w2 ⟨hk, ⟨rfl, hJ⟩ | ⟨rfl, hJ⟩⟩
 ·
  replace H := St.aC6 (Ps := [fun w => dA w ⟨b2, 0, none⟩ (kc k), cW bits T]) hC hk (fun _ h => .inl h) rfl (H.o 0 rfl) (by intro p hp; simp at hp; rcases hp with rfl | rfl <;> assumption)
  refine WL.mv rfl rfl (WL.aY rfl iL rfl rfl (aN.aF (H.o 0 rfl) (aK.all _) rfl) ?_)
  refine WL.call lX rfl (eX (T := T.iX k 0 i) (bits := bits) H.aR (by exact (H.bK 1 rfl).imp fun _ h => h.iX i) ) ?_
  rintro _ w3 ⟨rfl, hO⟩
  replace H := H.out hO
  refine WL.pv (PV.eql rfl rfl rfl) rfl (WL.pv (PV.dP rfl rfl rfl) rfl (WL.nil ?_))
  refine WE.cond rfl (fun yB => ?_) (fun yB => ?_)
  ·
   try simp only [bW] at yB
   have hlt : i < T.dp k 0 := by rcases Nat.lt_or_ge i (T.dp k 0) with h | h; exact h; exact absurd (show (T.iX k 0 i).er.kind = 2 by exact yB) (by rw [show i = T.dp k 0 by omega]; exact Tr.qW _ 0 T rfl)
   refine WE.skip (WE.seq (WE.block ?_))
   refine WE.draw (.take 0 (.take 1 (.take 2 (.aG 3 (.aG 4 (.aG 5 .done)))))) mixed (by kernel_rfl) ?_
   replace H := H.out (Out.drew _)
   refine WP.aM rfl rfl (RV.aV rfl iL rfl) (aN.aF (H.o 0 rfl) (aK.all _) rfl) ?_
   refine WP.dN rfl rfl rfl cZ rfl (H.p 0 rfl) (cK cL (by simp only [aS, aX, aB]; omega)) ?_
   refine WP.mv rfl rfl rfl (WP.aG rfl ?_)
   refine WL.call FR rfl (jZ (k := k) (d := i) H.aR  (by assumption) (by omega)) ?_
   rintro _ w4 ⟨rfl, hO⟩
   replace H := H.out hO
   refine WL.nil ⟨(fa (nw 3 1) (fa (rk hO) c5)), ?_⟩
   refine WP.aG rfl ?_
   refine WL.call N3 rfl (qX (T := T.iX k 0 i) (bits := bits) (b := bI k i) H.aR (by exact (H.bK 1 rfl).imp fun _ h => h.iX i) ) ?_
   rintro _ w5 ⟨rfl, hO⟩
   replace H := H.out hO
   refine WL.nil ⟨(fa (nw 4 1) (fa (nw 4 0) c5)), ?_⟩
   refine WP.aG rfl ?_
   refine WL.lH H 0 rfl rfl rfl (new := _) rfl (by exact l5) (bA _ rfl) (Laid.at (Laid.all (by simp only [aS, aX, aB])) rfl) rfl ?_
   intro w6 H
   refine WL.nil ⟨(fa (nw 5 1) (fa (nw 5 0) c5)), ?_⟩
   refine WP.done (WE.dY (WL.mv rfl rfl (WL.pv (PV.bT rfl rfl rfl (by omega) (by omega)) rfl (WL.as rfl rfl (WL.nil ?_)))))
   exact ⟨i + 1, (by repeat (first | with_reducible exact bM.refl _ _ | refine bM.dD rfl ?_ | refine bM.bY rfl ?_ | refine bM.bV rfl ?_)), ⟨rfl, trivial⟩, rfl, ⟨by omega, j3 _ _ _ _ hJ H.cR, H.aBU⟩, (by omega)⟩
  ·
   try simp only [bW] at yB
   have aE4 : i = T.dp k 0 := by rcases Nat.lt_or_ge i (T.dp k 0) with h | h; exact absurd (Tr.r7 (k := k) i 0 T h) (by exact yB); omega
   refine WE.exit ?_
   refine ⟨[], _, .nil _, trivial, ?_⟩
   (subst aE4; exact ⟨rfl, _, .inl (j3 _ _ _ _ hJ H.cR)⟩)
 ·
  refine WL.mv rfl rfl (WL.off rfl (WL.off rfl (WL.off rfl (WL.pv (PV.dF rfl rfl rfl) rfl (WL.nil (WE.jB rfl (WE.exit ?_)))))))
  refine ⟨[], _, .nil _, trivial, ?_⟩
  exact ⟨rfl, _, .inr hJ⟩
def aAH (T : Tr) (k : List UInt8) : Nat → Value
 | 0 => .pointer none
 | i + 1 => (T.iX k 0 i).ptr
def Tr.fin (T : Tr) (k : List UInt8) : Tr := T.iX k 0 (T.dp k 0)
theorem tL {X : Nat → Prop} {w : World} {bits : Int} {T : Tr} {k : List UInt8} (hX : cY X w) (bU : aJ X (cW bits T) w) (hk : k.length = 32) (hfit : T.er.fit 0) :
  bC prog 30 [T.ptr, .agg (kc k).toArray].toArray w fun v w' => v = .tuple [(T.fin k).ptr, .int .i64 (T.dp k 0 : Int)].toArray ∧ Out Nil w w' := by
 refine bC.aH (N := 17) func30 rfl rfl (by simp) ?_
 have H := (St.begin hX).add (cE bU)
 refine WE.aA ?_
 refine WL.box (l := kc k) H rfl rfl rfl ?_
 intro b3 w1 H
 refine WL.alloc H rfl MN rfl ?_
 intro b4 w2 H
 refine WL.alloc H rfl ze3 rfl ?_
 intro b5 w3 H
 refine WL.nil (WE.seq (WE.aA (WL.mv rfl rfl ?_)))
 refine WL.bE rfl cZ rfl rfl (aN.aF (H.l 2 rfl) (aK.all _) rfl) (cK cL (by simp only [aS, aX, aB]; omega)) ?_
 refine WL.call aFW rfl (aAt (T := T) (k := k) H.aR  (by assumption)) ?_
 rintro _ w4 ⟨UH, UI, rfl, hO, hge, rV, hR⟩
 replace H := H.Q7 hO (aP.set (· = UH)) (fun c hc => by cases hc; exact rV.lt) (fun c hc => by cases hc; exact hge) hR
 refine WL.nil (WE.block ?_)
 refine WE.xF (α := Unit) (fun i _ => True) (fun i _ => []) (fun i _ => [aP.blk b5 3 [.int .i64 ((i - 1 : Nat) : Int)], aP.blk b4 39 [aAH T k i], aP.blk b3 24 (kc k)]) (fun i _ => [fun w => dA w ⟨UI, 0, none⟩ (kc k), cW bits T]) (fun _ _ => False) (fun _ _ => []) (fun _ _ => []) (fun _ _ => []) () H rfl aBe (fun W0 hO => D3 (T := T) (k := k) (bits := bits) (H.UF hO) (rV.of_eq (hO.block _ rV.lt id)) (H.aBk rfl) (H.F7 hO 0 rfl) (H.F7 hO 1 rfl) hk hfit) (by intro _ _ _ h; rw [h]; rfl) ⟨trivial, rfl, rfl, rfl⟩ ?_ ?_ ?_
 ·
  intro i _ xs_ l_ d_ o_ T_ sc_ w5 jI tC NW
  obtain rfl := NW
  refine WE.aA (WL.as rfl rfl (WL.nil (WE.dY (WL.as rfl rfl (WL.nil ?_)))))
  refine ⟨rfl, rfl, rfl, ?_⟩
  intro w6 H
  refine WE.block (WE.dY (WL.mv rfl rfl (WL.mv rfl rfl ?_)))
  refine WL.aW H 1 rfl rfl rfl (new := _) rfl (by exact l5) (bA _ rfl) (Laid.at (Laid.all (by simp only [aS, aX, aB])) rfl) rfl ?_
  intro w7 H
  refine WL.aW H 0 rfl rfl rfl (new := _) rfl (by exact sz3) (bA _ rfl) (Laid.at (Laid.all (by simp only [aS, aX, aB])) rfl) rfl ?_
  intro w8 H
  refine WL.nil ?_
  replace H := H.conv (L' := [aP.blk b5 3 [.int .i64 ((i + 1 - 1 : Nat) : Int)], aP.blk b4 39 [aAH T k (i + 1)], aP.blk b3 24 (kc k), aP.obj l_ o_, aP.obj d_ (.deferred (some [])), aP.sn T_ w6]) rfl
  replace H := H.drop (fun p hp => List.mem_cons_of_mem _ hp)
  exact ⟨(), trivial, H⟩
 ·
  intro _ T3 w9 tC H
  refine WE.bH (.take 0 (.take 1 (.aG 2 (.aG 3 .done)))) mixed (by kernel_rfl) ?_
  replace H := H.out (Out.drew _)
  refine WP.aM rfl rfl (RV.aV rfl iL rfl) (aN.aF (H.l 2 rfl) (aK.all _) rfl) (WP.aM rfl rfl (RV.aV rfl pR rfl) (aN.aF (H.l 1 rfl) (aK.all _) rfl) (WP.aG rfl ?_))
  refine WL.aW H 2 rfl rfl rfl (new := _) rfl (by exact l5) (bA _ rfl) (Laid.at (Laid.all (by simp only [aS, aX, aB])) rfl) rfl ?_
  intro tM H
  refine WL.nil ⟨(fa (fun _ _ => (aN.aF (H.l 1 rfl) (aK.all _) rfl)) (fa (nw 2 0) c5)), ?_⟩
  refine WP.aG rfl ?_
  refine WL.aW H 1 rfl rfl rfl (new := _) rfl (by exact sz3) (bA _ rfl) (Laid.at (Laid.all (by simp only [aS, aX, aB])) rfl) rfl ?_
  intro wT H
  refine WL.nil ⟨(fa (nw 3 1) (fa (nw 3 0) c5)), ?_⟩
  refine WP.done (WE.ret ?_)
  (obtain ⟨G2, uL, H⟩ := H.tY 0 rfl)
  refine ⟨[_, _], _, (uL _ (.nil _)), ⟨⟨_, rfl, cV iL (aN.aF (H.l 1 rfl) (aK.all _) rfl)⟩, ⟨_, rfl, cV pR (aN.aF (H.l 0 rfl) (aK.all _) rfl)⟩, trivial⟩, ?_⟩
  exact ⟨rfl, H.aL⟩
 ·
  intro e_ _ T3 D4 PJ tC H
  exact tC.elim
theorem cW.fin {bits : Int} {T : Tr} {w : World} {k : List UInt8} (h : cW bits T w) : cW bits (T.fin k) w := h.iX _
def Tr.NY (T : Tr) (k : List UInt8) : Option (List UInt8) := match T.fin k with
 | .leaf _ q v _ => if q = k then some v else none
 | _ => none
theorem aDv {X : Nat → Prop} {w : World} {bits : Int} {T : Tr} {k : List UInt8} (hX : cY X w) (bU : aJ X (cW bits T) w) (hk : k.length = 32) (hfit : T.er.fit 0) (wF : (T.fin k).er.kind ≠ 1) :
  bC prog 51 [T.ptr, .agg (kc k).toArray].toArray w fun v w' => v = .tuple [.slice none 0 0, .bool false].toArray ∧ Out Nil w w' := by
 refine bC.aH (N := 27) func51 rfl rfl (by simp) ?_
 have H := (St.begin hX).add (cE bU)
 have nM : (T.fin k).key.length = 32 := cW.gY (cW.fin (bU.here))
 have LC := cW.P8 (cW.fin (k := k) (bU.here))
 refine WE.aA ?_
 refine WL.box (l := kc k) H rfl rfl rfl ?_
 intro b3 w1 H
 refine WL.as rfl rfl (WL.as rfl rfl (WL.nil (WE.aA (WL.mv rfl rfl ?_))))
 refine WL.bE rfl cZ rfl rfl (aN.aF (H.l 0 rfl) (aK.all _) rfl) (cK cL (by simp only [aS, aX, aB]; omega)) ?_
 refine WL.call ZB rfl (tL (T := T) (k := k) (bits := bits) H.aR (by exact H.bK 0 rfl) (by assumption) (by assumption)) ?_
 rintro _ w2 ⟨rfl, hO⟩
 replace H := H.out hO
 refine WL.mv rfl rfl (WL.pv (PV.extract rfl rfl rfl) rfl (WL.pv (PV.extract rfl rfl rfl) rfl (WL.as rfl rfl (WL.as rfl rfl (WL.nil (WE.seq ?_))))))
 refine WE.bH (.take 0 (.aG 1 (.take 2 (.take 3 (.take 4 (.take 7 (.aG 5 (.take 6 (.take 8 (.take 9 .done)))))))))) mixed (by kernel_rfl) ?_
 replace H := H.out (Out.drew _)
 refine WP.mv rfl rfl rfl (WP.aG rfl ?_)
 refine WL.call lX rfl (eX (T := T.fin k) (bits := bits) H.aR (by exact (H.bK 0 rfl).imp fun _ h => h.fin) ) ?_
 rintro _ w3 ⟨rfl, hO⟩
 replace H := H.out hO
 refine WL.nil ⟨c5, ?_⟩
 refine WP.aC rfl rfl (PV.neq rfl rfl rfl) (WP.mv rfl rfl rfl ?_)
 refine WP.known (t := 17) (c := true) rfl (by simp [wF]) ?_
 refine WP.eD rfl rfl (WP.eD rfl rfl (WP.aG rfl (WL.off rfl ?_)))
 refine WL.nil ⟨c5, ?_⟩
 refine WP.eD rfl rfl (WP.eD rfl rfl (WP.aC rfl rfl (PV.dP rfl rfl rfl) (WP.done (WE.lN rfl (WE.aA (WL.as rfl rfl (WL.as rfl rfl ?_)))))))
 refine WL.nil (WE.ret ⟨[_, _], _, .nil _, ⟨rfl, rfl, trivial⟩, ?_⟩)
 exact ⟨rfl, H.aL⟩
theorem aDu {X : Nat → Prop} {w : World} {bits : Int} {T : Tr} {k : List UInt8} (hX : cY X w) (bU : aJ X (cW bits T) w) (hk : k.length = 32) (hfit : T.er.fit 0) (wF : (T.fin k).er.kind = 1) (hkey : (T.fin k).key ≠ k) :
  bC prog 51 [T.ptr, .agg (kc k).toArray].toArray w fun v w' => v = .tuple [.slice none 0 0, .bool false].toArray ∧ Out Nil w w' := by
 refine bC.aH (N := 27) func51 rfl rfl (by simp) ?_
 have H := (St.begin hX).add (cE bU)
 have nM : (T.fin k).key.length = 32 := cW.gY (cW.fin (bU.here))
 have LC := cW.P8 (cW.fin (k := k) (bU.here))
 refine WE.aA ?_
 refine WL.box (l := kc k) H rfl rfl rfl ?_
 intro b3 w1 H
 refine WL.as rfl rfl (WL.as rfl rfl (WL.nil (WE.aA (WL.mv rfl rfl ?_))))
 refine WL.bE rfl cZ rfl rfl (aN.aF (H.l 0 rfl) (aK.all _) rfl) (cK cL (by simp only [aS, aX, aB]; omega)) ?_
 refine WL.call ZB rfl (tL (T := T) (k := k) (bits := bits) H.aR (by exact H.bK 0 rfl) (by assumption) (by assumption)) ?_
 rintro _ w2 ⟨rfl, hO⟩
 replace H := H.out hO
 refine WL.mv rfl rfl (WL.pv (PV.extract rfl rfl rfl) rfl (WL.pv (PV.extract rfl rfl rfl) rfl (WL.as rfl rfl (WL.as rfl rfl (WL.nil (WE.seq ?_))))))
 refine WE.bH (.take 0 (.aG 1 (.take 2 (.take 3 (.take 4 (.take 7 (.aG 5 (.take 6 (.take 8 (.take 9 .done)))))))))) mixed (by kernel_rfl) ?_
 replace H := H.out (Out.drew _)
 refine WP.mv rfl rfl rfl (WP.aG rfl ?_)
 refine WL.call lX rfl (eX (T := T.fin k) (bits := bits) H.aR (by exact (H.bK 0 rfl).imp fun _ h => h.fin) ) ?_
 rintro _ w3 ⟨rfl, hO⟩
 replace H := H.out hO
 refine WL.nil ⟨c5, ?_⟩
 refine WP.aC rfl rfl (PV.neq rfl rfl rfl) (WP.mv rfl rfl rfl ?_)
 refine WP.known (t := 17) (c := false) rfl (by simp [wF]) ?_
 refine WP.mv rfl rfl rfl ?_
 refine WP.dN rfl rfl rfl cZ rfl (aN.aF (H.l 0 rfl) (aK.all _) rfl) (cK cL (by simp only [aS, aX, aB]; omega)) ?_
 refine WP.aG rfl ?_
 refine WL.call FT rfl (nB (T := T.fin k) (bits := bits) H.aR (by exact (H.bK 0 rfl).imp fun _ h => h.fin) ) ?_
 rintro _ w4 ⟨rfl, hO⟩
 replace H := H.out hO
 refine WL.nil ⟨(fa (rk hO) c5), ?_⟩
 refine WP.aC rfl rfl (PV.lK rfl kH rfl (eG.agg cZ (cK cL (by simp only [aS, aX, aB]; omega)) (aK.l (aK.all _)))) ?_
 refine WP.aC rfl rfl (PV.RO rfl gZ mC gO (by kernel_rfl) rfl rfl (by assumption) (by assumption)) (WP.aC rfl rfl (PV.dF rfl rfl rfl) (WP.done ?_))
 refine WE.cS rfl (by simp [hkey]) ?_
 refine WE.aA (WL.as rfl rfl (WL.as rfl rfl (WL.nil (WE.ret ⟨[_, _], _, .nil _, ⟨rfl, rfl, trivial⟩, ?_⟩))))
 exact ⟨rfl, H.aL⟩
theorem aDt {X : Nat → Prop} {w : World} {bits : Int} {T : Tr} {k : List UInt8} (hX : cY X w) (bU : aJ X (cW bits T) w) (hk : k.length = 32) (hfit : T.er.fit 0) (wF : (T.fin k).er.kind = 1) (hkey : (T.fin k).key = k) :
  bC prog 51 [T.ptr, .agg (kc k).toArray].toArray w fun v w' => ∃ s, v = .tuple [s, .bool true].toArray ∧ Out Nil w w' ∧ w'.ownsRow w.heap.size 5 1 s (T.fin k).val.length (kc (T.fin k).val) := by
 refine bC.aH (N := 27) func51 rfl rfl (by simp) ?_
 have H := (St.begin hX).add (cE bU)
 have nM : (T.fin k).key.length = 32 := cW.gY (cW.fin (bU.here))
 have LC := cW.P8 (cW.fin (k := k) (bU.here))
 refine WE.aA ?_
 refine WL.box (l := kc k) H rfl rfl rfl ?_
 intro b3 w1 H
 refine WL.as rfl rfl (WL.as rfl rfl (WL.nil (WE.aA (WL.mv rfl rfl ?_))))
 refine WL.bE rfl cZ rfl rfl (aN.aF (H.l 0 rfl) (aK.all _) rfl) (cK cL (by simp only [aS, aX, aB]; omega)) ?_
 refine WL.call ZB rfl (tL (T := T) (k := k) (bits := bits) H.aR (by exact H.bK 0 rfl) (by assumption) (by assumption)) ?_
 rintro _ w2 ⟨rfl, hO⟩
 replace H := H.out hO
 refine WL.mv rfl rfl (WL.pv (PV.extract rfl rfl rfl) rfl (WL.pv (PV.extract rfl rfl rfl) rfl (WL.as rfl rfl (WL.as rfl rfl (WL.nil (WE.seq ?_))))))
 refine WE.bH (.take 0 (.aG 1 (.take 2 (.take 3 (.take 4 (.take 7 (.aG 5 (.take 6 (.take 8 (.take 9 .done)))))))))) mixed (by kernel_rfl) ?_
 replace H := H.out (Out.drew _)
 refine WP.mv rfl rfl rfl (WP.aG rfl ?_)
 refine WL.call lX rfl (eX (T := T.fin k) (bits := bits) H.aR (by exact (H.bK 0 rfl).imp fun _ h => h.fin) ) ?_
 rintro _ w3 ⟨rfl, hO⟩
 replace H := H.out hO
 refine WL.nil ⟨c5, ?_⟩
 refine WP.aC rfl rfl (PV.neq rfl rfl rfl) (WP.mv rfl rfl rfl ?_)
 refine WP.known (t := 17) (c := false) rfl (by simp [wF]) ?_
 refine WP.mv rfl rfl rfl ?_
 refine WP.dN rfl rfl rfl cZ rfl (aN.aF (H.l 0 rfl) (aK.all _) rfl) (cK cL (by simp only [aS, aX, aB]; omega)) ?_
 refine WP.aG rfl ?_
 refine WL.call FT rfl (nB (T := T.fin k) (bits := bits) H.aR (by exact (H.bK 0 rfl).imp fun _ h => h.fin) ) ?_
 rintro _ w4 ⟨rfl, hO⟩
 replace H := H.out hO
 refine WL.nil ⟨(fa (rk hO) c5), ?_⟩
 refine WP.aC rfl rfl (PV.lK rfl kH rfl (eG.agg cZ (cK cL (by simp only [aS, aX, aB]; omega)) (aK.l (aK.all _)))) ?_
 refine WP.aC rfl rfl (PV.RO rfl gZ mC gO (by kernel_rfl) rfl rfl (by assumption) (by assumption)) (WP.aC rfl rfl (PV.dF rfl rfl rfl) (WP.done ?_))
 refine WE.bD rfl (by simp [hkey]) ?_
 refine WE.skip (WE.aA (WL.mv rfl rfl ?_))
 refine WL.call aCL rfl (DM (T := T.fin k) (bits := bits) H.aR (by exact (H.bK 0 rfl).imp fun _ h => h.fin)) ?_
 rintro _ w5 ⟨s4, rfl, hO, iB⟩
 replace H := H.push hO (aP.hU w.heap.size s4 5 1 _ _) (gR iB H.size) (fun b hb => (iB.lt b hb).1)
 refine WL.pv (PV.lK rfl mY rfl (eG.one eU (aK.r (aK.all _) (by simp only [aS, aX, aB]; omega)))) rfl ?_
 refine WL.as rfl rfl (WL.as rfl rfl (WL.nil (WE.ret ⟨[_, _], _, .nil _, ⟨rfl, rfl, trivial⟩, ?_⟩)))
 exact ⟨s4, rfl, H.aL, H.l 0 rfl⟩
theorem aAe {X : Nat → Prop} {w : World} {bits : Int} {T : Tr} {k : List UInt8} (hX : cY X w) (bU : aJ X (cW bits T) w) (hk : k.length = 32) (hfit : T.er.fit 0) (hg : T.NY k = none) :
  bC prog 51 [T.ptr, .agg (kc k).toArray].toArray w fun v w' => v = .tuple [.slice none 0 0, .bool false].toArray ∧ Out Nil w w' := by
 by_cases h1 : (T.fin k).er.kind = 1
 ·
  refine aDu hX bU hk hfit h1 fun h2 => ?_
  obtain ⟨a, q, v, s, e⟩ := Tr.aAI h1
  unfold Tr.NY at hg
  rw [e] at hg h2
  exact absurd hg (by simp [show q = k from h2])
 ·
  exact aDv hX bU hk hfit h1
theorem VU {X : Nat → Prop} {w : World} {bits : Int} {T : Tr} {k v0 : List UInt8} (hX : cY X w) (bU : aJ X (cW bits T) w) (hk : k.length = 32) (hfit : T.er.fit 0) (hg : T.NY k = some v0) :
  bC prog 51 [T.ptr, .agg (kc k).toArray].toArray w fun v w' => ∃ s, v = .tuple [s, .bool true].toArray ∧ Out Nil w w' ∧ w'.ownsRow w.heap.size 5 1 s v0.length (kc v0) := by
 have h : (T.fin k).er.kind = 1 ∧ (T.fin k).key = k ∧ (T.fin k).val = v0 := by
  unfold Tr.NY at hg
  cases e : T.fin k with
  | nil => rw [e] at hg; cases hg
  | inner => rw [e] at hg; cases hg
  | leaf a q v s =>
   rw [e] at hg
   dsimp only at hg
   split at hg
   ·
    injection hg with hg; exact ⟨rfl, by assumption, hg⟩
   ·
    cases hg
 have := aDt hX bU hk hfit h.1 h.2.1
 rw [h.2.2] at this
 exact this
theorem TA {T : Tr} {m : List En} {k : List UInt8} (hT : T.er = grow 0 m) (hp : Pm 0 m) : T.NY k = (getM m k).map (·.v) := by
 have h := GH (k := k) hT hp _ (Nat.le_refl _)
 have hl := JQ (k := k) hT hp
 rw [← LJ (k := k) (d := 0) (T.dp k 0)]
 have hf : (T.fin k).er = _ := h.1
 unfold Tr.NY
 match hm : GI k 0 m (T.dp k 0), hl with
 | [], _ =>
  rw [hm, eF] at hf
  rw [Tr.II hf]
  rfl
 | [e], _ =>
  rw [hm, dO] at hf
  obtain ⟨a, s, e2⟩ := Tr.sW hf
  rw [e2]
  by_cases hk : e.k = k
  ·
   simp [getM, hk]
  ·
   simp [getM, hk]
 | _ :: _ :: _, h => simp at h
theorem NZ {m : List En} {k : List UInt8} {i : Nat} (hi : i < m.length) (h : ∀ x ∈ m.take i, x.k ≠ k) (he : m[i].k = k) : getM m k = some m[i] := by
 unfold getM
 rw [List.find?_eq_some_iff_append]
 refine ⟨by simp [he], m.take i, m.drop (i + 1), ?_, fun x hx => by simpa using h x hx⟩
 rw [← List.drop_eq_getElem_cons hi, List.take_append_drop]
theorem getM_none {m : List En} {k : List UInt8} (h : ∀ x ∈ m, x.k ≠ k) : getM m k = none := by
 unfold getM
 rw [List.find?_eq_none]
 intro x hx
 simpa using h x hx
def TB (m : List En) (k : List UInt8) : Value := match getM m k with
 | none => .tuple [.slice none 0 0, .bool false].toArray
 | some e => .tuple [e.s, .bool true].toArray
theorem Q3 {X : Nat → Prop} {w : World} {s : Value} {m : List En} {k : List UInt8} (hX : cY X w) (bU : aJ X (fP s m) w) (nM : KL m) (hlen : m.length ≤ 1000000) (hk : k.length = 32) :
  bC prog 40 [s, .agg (kc k).toArray].toArray w fun v w' => v = TB m k ∧ Out Nil w w' := by
 refine bC.aH (N := 25) func40 rfl rfl (by simp) ?_
 have H := (St.begin hX).add (cE bU)
 refine WE.aA ?_
 refine WL.box (l := kc k) H rfl rfl rfl ?_
 intro b3 w1 H
 refine WL.as rfl rfl (WL.as rfl rfl (WL.nil (WE.seq (WE.aA (WL.as rfl rfl (WL.nil (WE.block ?_)))))))
 refine WE.loop (α := Nat) (rg [(4, 21)]) (fun i => [(6, .int .i64 i)]) (fun i wl => i ≤ m.length ∧ (∀ x ∈ m.take i, x.k ≠ k) ∧ St X w wl [] [aP.blk b3 24 (kc k)] [fP s m]) (fun i => m.length - i) 0 ⟨rfl, trivial⟩ ⟨Nat.zero_le _, by simp, H⟩ ?_
 intro i γ0 w2 hI
 try dsimp only at hI
 obtain ⟨hi, hall, H⟩ := hI
 refine WE.seq (WE.aA (WL.mv rfl rfl (WL.mv rfl rfl ?_)))
 refine WL.pv (PV.dR (by exact H.p 0 rfl : fP s m _) nR rfl) rfl ?_
 refine WL.pv (PV.lss rfl rfl rfl) rfl (WL.nil ?_)
 refine WE.cond rfl (fun j5 => ?_) (fun j5 => ?_)
 ·
  try simp only [bW] at j5
  have hlt : i < m.length := by omega
  have hkk := nM _ (List.getElem_mem hlt)
  refine WE.skip (WE.seq (WE.block ?_))
  refine WE.bH (.take 0 (.take 1 (.take 2 (.take 3 (.take 4 (.take 5 (.take 6 .done))))))) mixed (by kernel_rfl) ?_
  replace H := H.out (Out.drew _)
  refine WP.mv rfl rfl rfl (WP.mv rfl rfl rfl ?_)
  refine WP.aC rfl rfl (PV.eA rfl (by exact H.p 0 rfl : fP s m _) nR fH rfl rfl (by omega) (by omega)) ?_
  refine WP.aC rfl rfl (PV.dQ rfl gW rfl) ?_
  refine WP.dN rfl rfl rfl cZ rfl (fP.rdk (H.p 0 rfl) nM i hlt) (cK cL (by simp only [aS, aX, aB]; omega)) ?_
  refine WP.dN rfl rfl rfl cZ rfl (aN.aF (H.l 0 rfl) (aK.all _) rfl) (cK cL (by simp only [aS, aX, aB]; omega)) ?_
  refine WP.aC rfl rfl (PV.zW rfl gZ mC gO (by kernel_rfl) rfl rfl (by assumption) (by assumption)) (WP.done ?_)
  refine WE.cond rfl (fun j4 => ?_) (fun j4 => ?_)
  ·
   try simp only [bW] at j4
   have he : m[i].k = k := by exact j4
   refine WE.aA (WL.mv rfl rfl (WL.mv rfl rfl ?_))
   refine WL.pv (PV.eA rfl (by exact H.p 0 rfl : fP s m _) nR fH rfl rfl (by omega) (by omega)) rfl ?_
   refine WL.pv (PV.dQ rfl mY rfl) rfl (WL.aY rfl eU rfl rfl (fP.rdv (H.p 0 rfl) nM i hlt) (WL.as rfl rfl (WL.as rfl rfl (WL.nil (WE.ret ⟨[_, _], _, .nil _, ⟨rfl, rfl, trivial⟩, ?_⟩)))))
   refine ⟨?_, H.aL⟩
   rw [TB, NZ hlt hall he]; rfl
  ·
   try simp only [bW] at j4
   have he : m[i].k ≠ k := by exact j4
   refine WE.skip (WE.dY (WL.mv rfl rfl (WL.pv (PV.bT rfl rfl rfl (by omega) (by omega)) rfl (WL.as rfl rfl (WL.nil ?_)))))
   exact ⟨i + 1, (by repeat (first | with_reducible exact bM.refl _ _ | refine bM.dD rfl ?_ | refine bM.bY rfl ?_ | refine bM.bV rfl ?_)), ⟨rfl, trivial⟩, rfl, ⟨by omega, (by rw [List.take_succ_eq_append_getElem hlt]; intro x hx; rcases List.mem_append.1 hx with h | h; exact hall x h; simp at h; subst h; exact he), H⟩, (by omega)⟩
 ·
  try simp only [bW] at j5
  have LI : m.take i = m := List.take_of_length_le (by omega)
  refine WE.exit (WE.aA (WL.as rfl rfl (WL.as rfl rfl (WL.nil (WE.ret ⟨[_, _], _, .nil _, ⟨rfl, rfl, trivial⟩, ?_⟩)))))
  refine ⟨?_, H.aL⟩
  rw [LI] at hall
  rw [TB, getM_none hall]; rfl
def oV (T : Tr) (k : List UInt8) (n : Nat) : List Value := (List.range n).map fun j => ((T.iX k 0 j).beside k j).ptr
theorem pY (T : Tr) (k : List UInt8) (n : Nat) : (oV T k n).length = n := by simp [oV]
theorem M1 (T : Tr) (k : List UInt8) (n : Nat) : oV T k (n + 1) = oV T k n ++ [((T.iX k 0 n).beside k n).ptr] := by simp [oV, List.range_succ]
theorem QL (T : Tr) (k : List UInt8) (n i : Nat) (h : i < (oV T k n).length) : (oV T k n)[i] = ((T.iX k 0 i).beside k i).ptr := by simp [oV]
theorem JW {X : Nat → Prop} {w : World} {bits : Int} {T : Tr} {k : List UInt8} (hX : cY X w) (bU : aJ X (cW bits T) w) (hk : k.length = 32) (hfit : T.er.fit 0) :
  bC prog 33 [T.ptr, .agg (kc k).toArray].toArray w fun v w' => Out Nil w w' ∧ aJ X (kK v (oV T k (T.dp k 0))) w' := by
 refine bC.aH (N := 26) func33 rfl rfl (by simp) ?_
 have H := (St.begin hX).add (cE bU)
 have DQ := Tr.yM (k := k) _ 0 T rfl hfit (by omega)
 refine WE.aA ?_
 refine WL.box (l := kc k) H rfl rfl rfl ?_
 intro b3 w1 H
 refine WL.as rfl rfl (WL.nil (WE.aA ?_))
 refine WL.alloc H rfl aDF rfl ?_
 intro b5 w2 H
 replace H := H.kS 39 1
 refine WL.nil (WE.seq (WE.aA (WL.mv rfl rfl ?_)))
 refine WL.bE rfl cZ rfl rfl (aN.aF (H.l 2 rfl) (aK.all _) rfl) (cK cL (by simp only [aS, aX, aB]; omega)) ?_
 refine WL.call aFW rfl (aAt (T := T) (k := k) H.aR  (by assumption)) ?_
 rintro _ w3 ⟨UH, UI, rfl, hO, hge, rV, hR⟩
 replace H := H.Q7 hO (aP.set (· = UH)) (fun c hc => by cases hc; exact rV.lt) (fun c hc => by cases hc; exact hge) hR
 refine WL.nil (WE.block ?_)
 refine WE.xF (α := Value) (fun i q => True) (fun i q => []) (fun i q => [aP.hU w.heap.size q 39 1 (min i (T.dp k 0)) (oV T k (min i (T.dp k 0))), aP.blk b5 86 [q], aP.blk b3 24 (kc k)]) (fun i q => [fun w => dA w ⟨UI, 0, none⟩ (kc k), cW bits T]) (fun _ _ => False) (fun _ _ => []) (fun _ _ => []) (fun _ _ => []) (.slice none 0 0) H rfl aBe (fun W0 hO => D3 (T := T) (k := k) (bits := bits) (H.UF hO) (rV.of_eq (hO.block _ rV.lt id)) (H.aBk rfl) (H.F7 hO 0 rfl) (H.F7 hO 1 rfl) hk hfit) (by intro _ _ _ h; rw [h]; rfl) ⟨trivial, rfl, by rw [Nat.zero_min]; rfl, rfl⟩ ?_ ?_ ?_
 ·
  intro i q xs_ l_ d_ o_ T_ sc_ w4 jI tC NW
  obtain rfl := NW
  refine WE.aA (WL.as rfl rfl (WL.nil (WE.dY (WL.as rfl rfl (WL.nil ?_)))))
  refine ⟨rfl, rfl, rfl, ?_⟩
  intro w5 H
  refine WE.block (WE.aA (WL.mv rfl rfl ?_))
  refine WL.call lX rfl (eX (T := T.iX k 0 i) (bits := bits) H.aR (by exact (H.bK 2 rfl).imp fun _ h => h.iX i)) ?_
  rintro _ w6 ⟨rfl, hO⟩
  replace H := H.out hO
  refine WL.pv (PV.eql rfl rfl rfl) rfl (WL.nil ?_)
  refine WE.cond rfl (fun uP => ?_) (fun uP => ?_)
  ·
   try simp only [bW] at uP
   have hlt : i < T.dp k 0 := by rcases Nat.lt_or_ge i (T.dp k 0) with h | h; exact h; exact absurd (show (T.iX k 0 i).er.kind = 2 by exact uP) (by rw [show i = T.dp k 0 by omega]; exact Tr.qW _ 0 T rfl)
   have hb2 := dX k i
   have hmi : min i (T.dp k 0) = i := by omega
   rw [hmi] at H
   refine WE.draw (.take 0 (.take 1 (.take 2 (.take 3 (.aG 4 (.take 5 (.aG 6 (.aG 7 (.aG 8 (.aG 9 .done)))))))))) mixed (by kernel_rfl) ?_
   replace H := H.out (Out.drew _)
   refine WP.aM rfl rfl (RV.aV rfl OT rfl) (aN.aF (H.l 1 rfl) (aK.all _) rfl) (WP.mv rfl rfl rfl ?_)
   refine WP.dN rfl rfl rfl cZ rfl (aN.aF (H.l 2 rfl) (aK.all _) rfl) (cK cL (by simp only [aS, aX, aB]; omega)) ?_
   refine WP.mv rfl rfl rfl (WP.aG rfl ?_)
   refine WL.call FR rfl (jZ (k := k) (d := i) H.aR  (by assumption) (by omega)) ?_
   rintro _ w7 ⟨rfl, hO⟩
   replace H := H.out hO
   refine WL.nil ⟨(fa (nw 4 2) (fa (rk hO) c5)), ?_⟩
   refine WP.aC rfl rfl (PV.eq (v' := .int .i64 ((1 - bI k i : Nat) : Int)) (PV.gC rfl rfl rfl (by omega) (by omega)) (by congr 1; omega)) ?_
   refine WP.aG rfl ?_
   refine WL.call N3 rfl (qX (T := T.iX k 0 i) (bits := bits) (b := 1 - bI k i) H.aR (by exact (H.bK 2 rfl).imp fun _ h => h.iX i)) ?_
   rintro _ w8 ⟨rfl, hO⟩
   replace H := H.out hO
   refine WL.nil ⟨(fa (nw 6 2) (fa (rk hO) c5)), ?_⟩
   refine WP.aG rfl ?_
   refine WL.bB (l0 := [.pointer none]) H rfl W6 (by decide) (cT _ _) (Fl.cons rfl rfl (by simp only [aS, aX, aB]) Laid.head Fl.nil) rfl ?_
   intro b23 w9 H
   refine WL.nil ⟨(fa (nw 7 2) (fa (fun _ _ => (aN.aF (H.l 2 rfl) (aK.all _) rfl)) c5)), ?_⟩
   refine WP.aG rfl ?_
   refine WL.append (m := 1) H 1 W6 (by decide) rfl rfl rfl (cN.bZ (n := 1) (H.l 0 rfl) rfl) (bA _ rfl) (by omega) (by decide) rfl ?_
   intro v24 tM H
   replace H := H.forget 0
   refine WL.nil ⟨(fa (nw 8 2) (fa (nw 8 0) c5)), ?_⟩
   refine WP.aG rfl ?_
   refine WL.aW H 1 rfl rfl rfl (new := [v24]) (cells_one (jE (H.l 0 rfl))) (by exact aDZ) (eE (jE (H.l 0 rfl))) (Laid.at (Laid.all (by simp only [aS, aX, aB])) rfl) rfl ?_
   intro wT H
   refine WL.nil ⟨(fa (nw 9 2) (fa (nw 9 0) c5)), ?_⟩
   refine WP.done ?_
   replace H := H.conv (L' := [aP.hU w.heap.size v24 39 1 (min (i + 1) (T.dp k 0)) (oV T k (min (i + 1) (T.dp k 0))), aP.blk b5 86 [v24], aP.blk b3 24 (kc k), aP.obj l_ o_, aP.obj d_ (.deferred (some [])), aP.sn T_ w5]) (by rw [show min (i + 1) (T.dp k 0) = i + 1 by omega, M1]; rfl)
   replace H := H.drop (fun p hp => List.mem_cons_of_mem _ hp)
   exact ⟨_, trivial, H⟩
  ·
   try simp only [bW] at uP
   have aE4 : T.dp k 0 ≤ i := by rcases Nat.lt_or_ge i (T.dp k 0) with h | h; exact absurd (Tr.r7 (k := k) i 0 T h) (by exact uP); exact h
   refine WE.skip ?_
   replace H := H.conv (L' := [aP.hU w.heap.size q 39 1 (min (i + 1) (T.dp k 0)) (oV T k (min (i + 1) (T.dp k 0))), aP.blk b5 86 [q], aP.blk b3 24 (kc k), aP.obj l_ o_, aP.obj d_ (.deferred (some [])), aP.sn T_ w5]) (by rw [show min (i + 1) (T.dp k 0) = min i (T.dp k 0) by omega]; rfl)
   replace H := H.drop (fun p hp => List.mem_cons_of_mem _ hp)
   exact ⟨_, trivial, H⟩
 ·
  intro q T3 G2 tC H
  refine WE.aA (WL.aY rfl OT rfl rfl (aN.aF (H.l 2 rfl) (aK.all _) rfl) (WL.as rfl rfl (WL.nil (WE.ret ?_))))
  (obtain ⟨D4, uL, H⟩ := H.tY 0 rfl)
  refine ⟨[_], _, (uL _ (.nil _)), ⟨rfl, trivial⟩, ?_⟩
  have hmd : min (T.dp k 0 + 1) (T.dp k 0) = T.dp k 0 := by omega
  rw [hmd] at H
  replace H := H.freeze (i := 0) rfl
  exact ⟨H.aL, H.gF ((H.bK 0 rfl).imp fun _ h => by show cN _ q 1 (oV T k (T.dp k 0)).length _; rw [pY]; exact cN.dJ h)⟩
 ·
  intro e_ q T3 KG PJ tC H
  exact tC.elim
def ZH (a b : List UInt8) : Nat → Nat → Nat
 | 0, i => i
 | f + 1, i => if bI a i = bI b i then ZH a b f (i + 1) else i
def fN (a b : List UInt8) : Nat := ZH a b 256 0
structure BW (a b : List UInt8) (c : Nat) : Prop where
 le : c ≤ 256
 eq : ∀ i, i < c → bI a i = bI b i
 ne : c < 256 → bI a c ≠ bI b c
theorem ZG (a b : List UInt8) : ∀ (f i : Nat), f + i = 256 → (∀ j, j < i → bI a j = bI b j) → BW a b (ZH a b f i) := by
 intro f
 induction f with
 | zero => intro i h he; exact ⟨by show i ≤ 256; omega, he, fun hl => absurd hl (by show ¬ i < 256; omega)⟩
 | succ f ih =>
  intro i h he
  unfold ZH
  by_cases hb : bI a i = bI b i
  ·
   rw [if_pos hb]
   refine ih (i + 1) (by omega) fun j hj => ?_
   by_cases e : j = i
   ·
    subst e; exact hb
   ·
    exact he j (by omega)
  ·
   rw [if_neg hb]
   exact ⟨by omega, he, fun _ => hb⟩
theorem qT (a b : List UInt8) : BW a b (fN a b) := ZG a b 256 0 rfl fun _ h => by omega
theorem BW.uniq {a b : List UInt8} {c d : Nat} (h : BW a b c) (g : BW a b d) : c = d := by
 have h1 := h.le
 have h2 := g.le
 rcases Nat.lt_trichotomy c d with hl | hl | hl
 ·
  exact absurd (g.eq c hl) (h.ne (by omega))
 ·
  exact hl
 ·
  exact absurd (h.eq d hl) (g.ne (by omega))
theorem LY (a b : List UInt8) : fN a b ≤ 256 := (qT a b).le
theorem BK {a b : List UInt8} {c : Nat} (hc : c < 256) : c + 1 ≤ fN a b ↔ c ≤ fN a b ∧ bI a c = bI b c := by
 have h := qT a b
 constructor
 ·
  intro hl; exact ⟨by omega, h.eq c (by omega)⟩
 ·
  rintro ⟨h1, h2⟩
  rcases Nat.lt_or_ge c (fN a b) with hl | hl
  ·
   exact hl
  ·
   have e : fN a b = c := by omega
   exact absurd (e ▸ h2 : bI a (fN a b) = bI b (fN a b)) (h.ne (by omega))
theorem B8 {a b : List UInt8} (ha : a.length = 32) (hb : b.length = 32) : ∀ d, d ≤ 256 → (pre d a = pre d b ↔ d ≤ fN a b) := by
 intro d
 induction d with
 | zero => intro _; rw [nU a ha, nU b hb]; simp
 | succ d ih =>
  intro hd
  have h1 := dX a d
  have h2 := dX b d
  rw [lD a ha d (by omega), lD b hb d (by omega), BK (by omega), ← ih (by omega)]
  constructor
  ·
   intro h; omega
  ·
   rintro ⟨h3, h4⟩; rw [h3, h4]
theorem oF {a b : List UInt8} (ha : a.length = 32) (hb : b.length = 32) : 256 ≤ fN a b ↔ a = b := by
 rw [← B8 ha hb 256 (by omega), p7, p7]
 exact ⟨sU a b (by rw [ha, hb]), fun h => by rw [h]⟩
def len8 (n : Nat) : Nat := if n = 0 then 0 else Nat.log2 n + 1
theorem RT : ∀ x : Fin 256, (⟨#[0, 1, 2, 2, 3, 3, 3, 3, 4, 4, 4, 4, 4, 4, 4, 4, 5, 5, 5, 5, 5, 5, 5, 5, 5, 5, 5, 5, 5, 5, 5, 5, 6, 6, 6, 6, 6, 6, 6, 6, 6, 6, 6, 6, 6, 6, 6, 6, 6, 6, 6, 6, 6, 6, 6, 6, 6, 6, 6, 6, 6, 6, 6, 6, 7, 7, 7, 7, 7, 7, 7, 7, 7, 7, 7, 7, 7, 7, 7, 7, 7, 7, 7, 7, 7, 7, 7, 7, 7, 7, 7, 7, 7, 7, 7, 7, 7, 7, 7, 7, 7, 7, 7, 7, 7, 7, 7, 7, 7, 7, 7, 7, 7, 7, 7, 7, 7, 7, 7, 7, 7, 7, 7, 7, 7, 7, 7, 7, 8, 8, 8, 8, 8, 8, 8, 8, 8, 8, 8, 8, 8, 8, 8, 8, 8, 8, 8, 8, 8, 8, 8, 8, 8, 8, 8, 8, 8, 8, 8, 8, 8, 8, 8, 8, 8, 8, 8, 8, 8, 8, 8, 8, 8, 8, 8, 8, 8, 8, 8, 8, 8, 8, 8, 8, 8, 8, 8, 8, 8, 8, 8, 8, 8, 8, 8, 8, 8, 8, 8, 8, 8, 8, 8, 8, 8, 8, 8, 8, 8, 8, 8, 8, 8, 8, 8, 8, 8, 8, 8, 8, 8, 8, 8, 8, 8, 8, 8, 8, 8, 8, 8, 8, 8, 8, 8, 8, 8, 8, 8, 8, 8, 8, 8, 8, 8, 8, 8, 8, 8, 8, 8, 8, 8, 8, 8, 8]⟩ : ByteArray)[x.val]? = some (UInt8.ofNat (len8 x.val)) := by decide +kernel
theorem RU (x : UInt8) : (⟨#[0, 1, 2, 2, 3, 3, 3, 3, 4, 4, 4, 4, 4, 4, 4, 4, 5, 5, 5, 5, 5, 5, 5, 5, 5, 5, 5, 5, 5, 5, 5, 5, 6, 6, 6, 6, 6, 6, 6, 6, 6, 6, 6, 6, 6, 6, 6, 6, 6, 6, 6, 6, 6, 6, 6, 6, 6, 6, 6, 6, 6, 6, 6, 6, 7, 7, 7, 7, 7, 7, 7, 7, 7, 7, 7, 7, 7, 7, 7, 7, 7, 7, 7, 7, 7, 7, 7, 7, 7, 7, 7, 7, 7, 7, 7, 7, 7, 7, 7, 7, 7, 7, 7, 7, 7, 7, 7, 7, 7, 7, 7, 7, 7, 7, 7, 7, 7, 7, 7, 7, 7, 7, 7, 7, 7, 7, 7, 7, 8, 8, 8, 8, 8, 8, 8, 8, 8, 8, 8, 8, 8, 8, 8, 8, 8, 8, 8, 8, 8, 8, 8, 8, 8, 8, 8, 8, 8, 8, 8, 8, 8, 8, 8, 8, 8, 8, 8, 8, 8, 8, 8, 8, 8, 8, 8, 8, 8, 8, 8, 8, 8, 8, 8, 8, 8, 8, 8, 8, 8, 8, 8, 8, 8, 8, 8, 8, 8, 8, 8, 8, 8, 8, 8, 8, 8, 8, 8, 8, 8, 8, 8, 8, 8, 8, 8, 8, 8, 8, 8, 8, 8, 8, 8, 8, 8, 8, 8, 8, 8, 8, 8, 8, 8, 8, 8, 8, 8, 8, 8, 8, 8, 8, 8, 8, 8, 8, 8, 8, 8, 8, 8, 8, 8, 8, 8, 8]⟩ : ByteArray)[x.toNat]? = some (UInt8.ofNat (len8 x.toNat)) := RT ⟨x.toNat, x.toNat_lt⟩
theorem A1 : ∀ x : Fin 256, len8 x.val ≤ 8 ∧ (x.val ≠ 0 → 1 ≤ len8 x.val ∧ x.val.testBit (len8 x.val - 1) = true ∧ ∀ j : Fin 8, len8 x.val ≤ j.val → x.val.testBit j.val = false) := by decide +kernel
theorem CI (x : UInt8) : len8 x.toNat ≤ 8 := (A1 ⟨x.toNat, x.toNat_lt⟩).1
theorem qU (k : List UInt8) (i : Nat) : bI k i = ((k.getD (i / 8) 0).toNat.testBit (7 - i % 8)).toNat := by
 unfold bI
 rw [Nat.toNat_testBit]
theorem T6 {a b : List UInt8} (ha : a.length = 32) (hb : b.length = 32) {i : Nat} (hi : i < 32) (he : ∀ j (h : j < i), a.getD j 0 = b.getD j 0) (hx : (a.getD i 0 ^^^ b.getD i 0).toNat ≠ 0) :
  BW a b (8 * i + (8 - len8 (a.getD i 0 ^^^ b.getD i 0).toNat)) := by
 have h1 := (A1 ⟨(a.getD i 0 ^^^ b.getD i 0).toNat, UInt8.toNat_lt _⟩)
 have h2 := h1.2 hx
 dsimp only at h1 h2
 generalize hL : len8 (a.getD i 0 ^^^ b.getD i 0).toNat = L at *
 refine ⟨by omega, fun j hj => ?_, fun _ => ?_⟩
 ·
  rw [qU, qU]
  rcases Nat.lt_or_ge j (8 * i) with h | h
  ·
   rw [he (j / 8) (by omega)]
  ·
   have e : j / 8 = i := by omega
   have h3 := h2.2.2 ⟨7 - j % 8, by omega⟩ (by dsimp only; omega)
   rw [UInt8.toNat_xor, Nat.testBit_xor] at h3
   rw [e]
   congr 1
   dsimp only at h3
   revert h3
   cases (a.getD i 0).toNat.testBit (7 - j % 8) <;> cases (b.getD i 0).toNat.testBit (7 - j % 8) <;> simp
 ·
  rw [qU, qU, show (8 * i + (8 - L)) / 8 = i by omega, show 7 - (8 * i + (8 - L)) % 8 = L - 1 by omega]
  have h3 := h2.2.1
  rw [UInt8.toNat_xor, Nat.testBit_xor] at h3
  revert h3
  cases (a.getD i 0).toNat.testBit (L - 1) <;> cases (b.getD i 0).toNat.testBit (L - 1) <;> simp
theorem aDS (a b : UInt8) : IntKind.u8.wrap ((BitVec.ofInt IntKind.u8.bits (a.toNat : Int) ^^^ BitVec.ofInt IntKind.u8.bits (b.toNat : Int)).toNat : Int) = ((a ^^^ b).toNat : Int) := by
 rw [KD]
 have e : (BitVec.ofInt IntKind.u8.bits (a.toNat : Int) ^^^ BitVec.ofInt IntKind.u8.bits (b.toNat : Int)).toNat = (a ^^^ b).toNat := by
  show (BitVec.ofInt 8 (a.toNat : Int) ^^^ BitVec.ofInt 8 (b.toNat : Int)).toNat = _
  rw [BitVec.ofInt_natCast, BitVec.ofInt_natCast, BitVec.toNat_xor, UInt8.toNat_xor]
  have h1 := a.toNat_lt
  have h2 := b.toNat_lt
  simp
 rw [e]
 have := (a ^^^ b).toNat_lt
 omega
theorem bytes_eq {a b : List UInt8} (ha : a.length = 32) (hb : b.length = 32) (he : ∀ j, j < 32 → a.getD j 0 = b.getD j 0) : a = b := by
 apply List.ext_getElem (by omega)
 intro i h1 h2
 have := he i (by omega)
 rwa [e9 h1, e9 h2] at this
theorem aDp {X : Nat → Prop} {w : World} {x : UInt8} (hX : cY X w) :
  bC prog 206 [.int .u8 (x.toNat : Int)].toArray w fun v w' => v = .int .i64 (len8 x.toNat : Int) ∧ Out Nil w w' := by
 refine bC.aH (N := 6) func206 rfl rfl (by simp) ?_
 have H := St.begin hX
 have hle := CI x
 refine WE.aA (WL.as rfl rfl (WL.nil (WE.aA (WL.mv rfl rfl (WL.pv (PV.E3 (i := x.toNat) rfl (by kernel_rfl) rfl rfl (RU x)) rfl ?_)))))
 refine WL.pv (PV.eq (v' := .int .i64 ((len8 x.toNat : Nat) : Int)) (PV.lM rfl mC sZ rfl (by omega) (by have := (UInt8.ofNat (len8 x.toNat)).toNat_lt; omega)) (by congr 1; rw [UInt8.toNat_ofNat_of_lt' (by show _ < 256; omega)])) rfl ?_
 refine WL.as rfl rfl (WL.nil (WE.ret ⟨[_], _, .nil _, ⟨rfl, trivial⟩, ?_⟩))
 exact ⟨rfl, H.aL⟩
theorem aHX {X : Nat → Prop} {w : World} {x : UInt8} (hX : cY X w) :
  bC prog 195 [.int .u8 (x.toNat : Int)].toArray w fun v w' => v = .int .i64 ((8 - len8 x.toNat : Nat) : Int) ∧ Out Nil w w' := by
 refine bC.aH (N := 6) func195 rfl rfl (by simp) ?_
 have H := St.begin hX
 have hle := CI x
 refine WE.aA (WL.as rfl rfl (WL.nil (WE.aA (WL.mv rfl rfl ?_))))
 refine WL.call aGj rfl (aDp (x := x) H.aR  ) ?_
 rintro _ w1 ⟨rfl, hO⟩
 replace H := H.out hO
 refine WL.pv (PV.gC rfl rfl rfl (by omega) (by omega)) rfl (WL.as rfl rfl (WL.nil (WE.ret ⟨[_], _, .nil _, ⟨rfl, trivial⟩, ?_⟩)))
 refine ⟨?_, H.aL⟩
 show Value.int .i64 _ = Value.int .i64 _
 congr 1; omega
theorem zB {X : Nat → Prop} {w : World} {a b : List UInt8} (hX : cY X w) (ha : a.length = 32) (hb : b.length = 32) :
  bC prog 164 [.agg (kc a).toArray, .agg (kc b).toArray].toArray w fun v w' => v = .int .i64 (fN a b : Int) ∧ Out Nil w w' := by
 refine bC.aH (N := 28) func164 rfl rfl (by simp) ?_
 have H := St.begin hX
 refine WE.aA ?_
 refine WL.box (l := kc a) H rfl rfl rfl ?_
 intro b2 w1 H
 refine WL.box (l := kc b) H rfl rfl rfl ?_
 intro b3 w2 H
 refine WL.as rfl rfl (WL.nil (WE.seq (WE.aA ?_)))
 refine WL.bE rfl cZ rfl rfl (aN.aF (H.l 1 rfl) (aK.all _) rfl) (cK cL (by simp only [aS, aX, aB]; omega)) ?_
 refine WL.bE rfl cZ rfl rfl (aN.aF (H.l 0 rfl) (aK.all _) rfl) (cK cL (by simp only [aS, aX, aB]; omega)) ?_
 refine WL.pv (PV.zW rfl gZ mC gO (by kernel_rfl) rfl rfl (by assumption) (by assumption)) rfl (WL.nil ?_)
 refine WE.cond rfl (fun uN => ?_) (fun uN => ?_)
 ·
  try simp only [bW] at uN
  have hab : a = b := by exact uN
  refine WE.aA (WL.as rfl rfl (WL.nil (WE.ret ⟨[_], _, .nil _, ⟨rfl, trivial⟩, ?_⟩)))
  refine ⟨?_, H.aL⟩
  show Value.int .i64 _ = Value.int .i64 _
  have := (oF ha hb).2 hab
  have := LY a b
  congr 1; omega
 ·
  try simp only [bW] at uN
  have hab : a ≠ b := by exact uN
  refine WE.skip (WE.seq (WE.aA (WL.mv rfl rfl (WL.nil (WE.block ?_)))))
  refine WE.loop (α := Nat) (rg [(4, 3), (10, 18)]) (fun i => [(10, .int .i64 i)]) (fun i wl => i ≤ 32 ∧ (∀ j, j < i → a.getD j 0 = b.getD j 0) ∧ St X w wl [] [aP.blk b3 24 (kc b), aP.blk b2 24 (kc a)] []) (fun i => 32 - i) 0 ⟨rfl, trivial⟩ ⟨Nat.zero_le _, fun _ h => by omega, H⟩ ?_
  intro i γ0 w3 hI
  try dsimp only at hI
  obtain ⟨hle, hall, H⟩ := hI
  refine WE.aA (WL.pv (PV.lss rfl rfl rfl) rfl (WL.nil (WE.seq ?_)))
  refine WE.cond rfl (fun jU => ?_) (fun jU => ?_)
  ·
   try simp only [bW] at jU
   have hlt : i < 32 := by omega
   refine WE.skip (WE.seq (WE.block (WE.aA (WL.mv rfl rfl (WL.as rfl rfl (WL.nil ?_))))))
   refine WE.bH (.take 0 (.take 1 (.take 2 (.take 3 (.take 4 (.take 5 (.take 6 (.take 7 .done)))))))) mixed (by kernel_rfl) ?_
   replace H := H.out (Out.drew _)
   refine WP.mv rfl rfl rfl (WP.aC rfl rfl (PV.bF rfl gZ gO rfl rfl (by omega) (by omega)) (WP.aM rfl rfl (RV.aV rfl u3 rfl) (aN.JL (H.l 1 rfl) i (by omega) (by omega)) (WP.mv rfl rfl rfl (WP.aC rfl rfl (PV.bF rfl gZ gO rfl rfl (by omega) (by omega)) (WP.aM rfl rfl (RV.aV rfl u3 rfl) (aN.JL (H.l 0 rfl) i (by omega) (by omega)) ?_)))))
   refine WP.aC rfl rfl (PV.eq (v' := .int .u8 ((a.getD i 0 ^^^ b.getD i 0).toNat : Int)) (PV.aBA rfl rfl rfl) (congrArg (Value.int .u8) (aDS _ _))) ?_
   refine WP.as rfl rfl rfl (WP.done (WE.aA (WL.mv rfl rfl (WL.pv (PV.neq rfl rfl rfl) rfl (WL.nil ?_)))))
   refine WE.cond rfl (fun pB => ?_) (fun pB => ?_)
   ·
    try simp only [bW] at pB
    have hx : (a.getD i 0 ^^^ b.getD i 0).toNat ≠ 0 := by omega
    have aK7 := CI (a.getD i 0 ^^^ b.getD i 0)
    refine WE.aA (WL.mv rfl rfl (WL.pv (PV.mA rfl rfl rfl (by omega) (by omega)) rfl (WL.mv rfl rfl ?_)))
    refine WL.call aGm rfl (aHX (x := a.getD i 0 ^^^ b.getD i 0) H.aR  ) ?_
    rintro _ w4 ⟨rfl, hO⟩
    replace H := H.out hO
    refine WL.pv (PV.bT rfl rfl rfl (by omega) (by omega)) rfl (WL.as rfl rfl (WL.nil (WE.ret ⟨[_], _, .nil _, ⟨rfl, trivial⟩, ?_⟩)))
    refine ⟨?_, H.aL⟩
    show Value.int .i64 _ = Value.int .i64 _
    rw [(qT a b).uniq (T6 ha hb hlt hall hx)]
    congr 1 <;> omega
   ·
    try simp only [bW] at pB
    have hx : (a.getD i 0 ^^^ b.getD i 0).toNat = 0 := by omega
    have V6 : a.getD i 0 = b.getD i 0 := UInt8.xor_eq_zero_iff.1 (UInt8.toNat_inj.1 hx)
    refine WE.skip (WE.dY (WL.pv (PV.bT rfl rfl rfl (by omega) (by omega)) rfl (WL.mv rfl rfl (WL.nil ?_))))
    exact ⟨i + 1, (by repeat (first | with_reducible exact bM.refl _ _ | refine bM.dD rfl ?_ | refine bM.bY rfl ?_ | refine bM.bV rfl ?_)), ⟨rfl, trivial⟩, rfl, ⟨by omega, fun j hj => by (by_cases e : j = i; (subst e; exact V6); exact hall j (by omega)), H⟩, (by omega)⟩
  ·
   try simp only [bW] at jU
   have hend : i = 32 := by omega
   refine WE.exit (WE.aA (WL.as rfl rfl (WL.nil (WE.ret ⟨[_], _, .nil _, ⟨rfl, trivial⟩, ?_⟩))))
   exact absurd (bytes_eq ha hb fun j hj => hall j (by omega)) hab
theorem RB {a b : List UInt8} {d : Nat} (h : num a ≤ num b) : pre d a ≤ pre d b := Nat.div_le_div_right h
theorem NG {a b : List UInt8} {d : Nat} (h : pre d a < pre d b) : num a < num b := by
 rcases Nat.lt_or_ge (num a) (num b) with hl | hl
 ·
  exact hl
 ·
  exact absurd (RB (d := d) hl) (by omega)
theorem AX {a b : List UInt8} {d : Nat} (ha : a.length = 32) (hb : b.length = 32) (hd : d < 256) (hp : pre d a = pre d b) (h0 : bI a d = 0) (h1 : bI b d = 1) : num a < num b := by
 apply NG (d := d + 1)
 rw [lD a ha d hd, lD b hb d hd, hp, h0, h1]
 omega
theorem C2 {α : Type} {p q : α → Bool} : ∀ {l : List α}, (∀ x ∈ l, q x = !p x) → l.Pairwise (fun a b => p b = true → p a = true) → l = l.filter p ++ l.filter q := by
 intro l
 induction l with
 | nil => intro _ _; rfl
 | cons x l ih =>
  intro hq hp
  have h := List.pairwise_cons.1 hp
  have hqx := hq x (by simp)
  cases hx : p x
  ·
   have hall : ∀ y ∈ x :: l, p y = false := fun y hy => by
    rcases List.mem_cons.1 hy with rfl | hy
    ·
     exact hx
    ·
     cases hy' : p y
     ·
      rfl
     ·
      have := h.1 y hy hy'; rw [hx] at this; cases this
   rw [List.filter_eq_nil_iff.2 (by intro y hy; rw [hall y hy]; simp), List.nil_append, List.filter_eq_self.2 (by intro y hy; rw [hq y hy, hall y hy]; rfl)]
  ·
   rw [hx] at hqx
   rw [List.filter_cons_of_pos hx, List.filter_cons_of_neg (by rw [hqx]; simp), List.cons_append]
   exact congrArg (x :: ·) (ih (fun y hy => hq y (List.mem_cons_of_mem _ hy)) h.2)
theorem IB {m : List En} {d : Nat} (h : Pm d m) (hs : j7 m) (hd : d < 256) : m = bO m d 0 ++ bO m d 1 := by
 refine C2 (fun x _ => ?_) ?_
 ·
  have := dX x.k d
  by_cases h0 : bI x.k d = 0
  ·
   simp [h0]
  ·
   have : bI x.k d = 1 := by omega
   simp [this]
 ·
  have hp := h.ZI
  have hk := h.kl
  unfold j7 at hs
  refine List.Pairwise.imp_of_mem (fun {a b} ha hb hlt zG => ?_) hs
  have h0 : bI b.k d = 0 := by simpa using zG
  by_cases ha0 : bI a.k d = 0
  ·
   simp [ha0]
  ·
   have ha1 := dX a.k d
   have := AX (hk b hb) (hk a ha) hd (hp b hb a ha) h0 (by omega)
   omega
def Tr.o6 : Nat → Tr → List (Tr × Nat)
 | _, .nil => []
 | d, .leaf a k v s => [(.leaf a k v s, d)]
 | d, .inner _ l r => Tr.o6 (d + 1) l ++ Tr.o6 (d + 1) r
theorem CF : ∀ (T : Tr) (d : Nat), (T.o6 d).length = T.er.gH
 | .nil, _ => rfl
 | .leaf _ _ _ _, _ => rfl
 | .inner _ l r, d => by unfold Tr.o6; rw [List.length_append, CF l, CF r]; rfl
theorem K5 {bits : Int} {w : World} : ∀ (T : Tr) (d : Nat), cW bits T w → ∀ p ∈ T.o6 d, cW bits p.1 w
 | .nil, _, _, _, h => by cases h
 | .leaf _ _ _ _, _, hA, p, h => by
  have e : p = _ := List.mem_singleton.1 h
  rw [e]; exact hA
 | .inner _ l r, d, hA, p, h => by
  rcases List.mem_append.1 h with h | h
  ·
   exact K5 l _ hA.left p h
  ·
   exact K5 r _ hA.right p h
def DA : Nat → Nat → List En → List (En × Nat)
 | _, _, [] => []
 | _, d, [e] => [(e, d)]
 | 0, d, e :: _ => [(e, d)]
 | n + 1, d, m => DA n (d + 1) (bO m d 0) ++ DA n (d + 1) (bO m d 1)
theorem T0 : ∀ (n d : Nat) (m : List En), 256 - d = n → Pm d m → j7 m → (DA n d m).map (·.1) = m := by
 intro n
 induction n with
 | zero =>
  intro d m hn hp hs
  match m, hp with
  | [], _ => rfl
  | [e], _ => rfl
  | a :: b :: m, hp => have := hp.lt (by simp); omega
 | succ n ih =>
  intro d m hn hp hs
  match m, hp, hs with
  | [], _, _ => rfl
  | [e], _, _ => rfl
  | a :: b :: m, hp, hs =>
   have hd := hp.lt (by simp)
   show (DA n (d + 1) _ ++ DA n (d + 1) _).map _ = _
   rw [List.map_append, ih (d + 1) _ (by omega) (hp.part hd 0) (hs.filter _), ih (d + 1) _ (by omega) (hp.part hd 1) (hs.filter _)]
   exact (IB hp hs hd).symm
theorem XV : ∀ (n d : Nat) (m : List En) (T : Tr), 256 - d = n → Pm d m → T.er = grow d m → (T.o6 d).map (fun p => (p.1.key, p.1.val, p.2)) = (DA n d m).map fun p => (p.1.k, p.1.v, p.2) := by
 intro n
 induction n with
 | zero =>
  intro d m T hn hp hT
  match m, hp with
  | [], _ => rw [eF] at hT; rw [Tr.II hT]; rfl
  | [e], _ => rw [dO] at hT; obtain ⟨a, s, rfl⟩ := Tr.sW hT; rfl
  | a :: b :: m, hp => have := hp.lt (by simp); omega
 | succ n ih =>
  intro d m T hn hp hT
  match m, hp with
  | [], _ => rw [eF] at hT; rw [Tr.II hT]; rfl
  | [e], _ => rw [dO] at hT; obtain ⟨a, s, rfl⟩ := Tr.sW hT; rfl
  | a :: b :: m, hp =>
   have hd := hp.lt (by simp)
   rw [iP d _ hd (by simp)] at hT
   obtain ⟨x, l, r, rfl, h1, h2⟩ := Tr.R5 hT
   show (Tr.o6 (d + 1) l ++ Tr.o6 (d + 1) r).map _ = (DA n (d + 1) _ ++ DA n (d + 1) _).map _
   rw [List.map_append, List.map_append, ih _ _ l (by omega) (hp.part hd 0) h1, ih _ _ r (by omega) (hp.part hd 1) h2]
theorem XU {T : Tr} {d : Nat} {m : List En} (hT : T.er = grow d m) (hp : Pm d m) (hs : j7 m) : (T.o6 d).map (fun p => (p.1.key, p.1.val)) = m.map fun e => (e.k, e.v) := by
 have h1 := XV _ d m T rfl hp hT
 have h2 := T0 _ d m rfl hp hs
 have h3 := congrArg (List.map fun p : List UInt8 × List UInt8 × Nat => (p.1, p.2.1)) h1
 simp only [List.map_map] at h3
 have h4 : (DA (256 - d) d m).map (fun p => (p.1.k, p.1.v)) = m.map fun e => (e.k, e.v) := by
  conv => rhs; rw [← h2]
  rw [List.map_map]; rfl
 exact h3.trans h4
theorem y7 {X : Nat → Prop} {w : World} {bh bc : Nat} {bits n : Int} {k lv : List UInt8} {s : Value} (hX : cY X w) (eY : aN w bc 213 ([.int .i64 n])) (bU : aJ (fun c_ => X c_ ∨ c_ = bc) (fQ bh bc bits) w) (dI : aJ (fun c_ => X c_ ∨ c_ = bc) (aZ) w) (bS : 0 ≤ bits ∧ bits ≤ 256) (rR : lv.length ≤ 1000000) (hk : k.length = 32) (hw : aJ (fun c => c = bc) (bJ s lv) w) :
  bC prog 137 [.pointer (some ⟨bh, 0, none⟩), .agg (kc k ++ [s]).toArray].toArray w fun v w' => ∃ (T : Tr) (m : Int), v = T.ptr ∧ T.er = .leaf k lv ∧ Out (· = bc) w w' ∧ aN w' bc 213 [.int .i64 m] ∧ aJ (fun c => X c ∨ c = bc) (cW bits T) w' := by
 refine bC.aH (N := 18) func137 rfl rfl (by simp) ?_
 have H := ((St.dG (b := bc) (t := 213) (l := [.int .i64 n]) hX eY).add (cC dI)).add (cC bU)
 have LC := fY bits lv
 have hs1 : s.oneCell' = true := cN.fX hw.here
 refine WE.aA ?_
 refine WL.box (l := kc k ++ [s]) H rfl (rfl) rfl ?_
 intro b3 w1 H
 refine WL.as rfl rfl (WL.nil ?_)
 refine WE.bH (.take 0 (.take 1 (.take 2 (.take 3 (.take 4 (.take 5 (.take 7 (.take 8 (.aG 6 (.aG 9 (.take 10 (.take 11 (.aG 12 (.take 13 .done)))))))))))))) mixed (by kernel_rfl) ?_
 replace H := H.out (Out.drew _)
 refine WP.mv rfl rfl rfl (WP.mv rfl rfl rfl (WP.aC rfl rfl (PV.fieldAddr rfl gW rfl) ?_))
 refine WP.dN rfl rfl rfl cZ rfl (aN.aF (H.l 0 rfl) (aK.l (aK.all _)) rfl) (cK cL (by simp only [aS, aX, aB]; omega)) ?_
 refine WP.aC rfl rfl (PV.fieldAddr rfl mY rfl) ?_
 refine WP.aM rfl rfl (RV.aV rfl eU rfl) (aN.aF (H.l 0 rfl) (aK.r (aK.all _) rfl) (by simp [aI, aQ, *])) ?_
 refine WP.aC rfl rfl (PV.fieldAddr rfl mY rfl) ?_
 refine WP.aM rfl rfl (RV.aV rfl eU rfl) (aN.aF (H.l 0 rfl) (aK.r (aK.all _) rfl) (by simp [aI, aQ, *])) ?_
 refine WP.aG rfl ?_
 refine WL.call aGv rfl (VO (X := Nil) (k := k) (la := lv) (nZ _) (H.o 0 rfl) (by exact (H.aO 0 rfl 0 rfl).wk) ((H.D1 H.mS hw rfl).G1) (by exact (H.aO 0 rfl 1 rfl).wk) bS rR hk) ?_
 rintro _ w2 ⟨m1, rfl, hO, hB⟩
 replace H := H.fA 0 rfl hO hB
 refine WL.nil ⟨(fa (fun _ _ => (aN.aF (H.l 0 rfl) (aK.r (aK.all _) rfl) (by simp [aI, aQ, *]))) (fa (nw 6 5) (fa (nw 6 3) c5))), ?_⟩
 refine WP.aG rfl ?_
 refine WL.call aBg rfl (GZ (X := Nil) (la := lv) (nZ _) ((H.D1 H.mS hw rfl).wk0) (by omega)) ?_
 rintro s2 w3 ⟨hO, iB⟩
 have hr_ := (mT H.aR iB).imp fun _ h => bJ.dJ h
 replace H := (H.out hO).add hr_
 refine WL.nil ⟨(fa (nw 9 8) (fa (nw 9 5) (fa (nw 9 3) c5))), ?_⟩
 refine WP.aC rfl rfl (PV.dM rfl aAE KB (Fl.cons rfl rfl (by simp only [aS, aX, aB]; omega) (Laid.left (Laid.all (by simp only [aS, aX, aB]; omega))) (Fl.cons rfl (cN.cells (H.p 0 rfl)) (by simp only [aS, aX, aB]) (Laid.right (Laid.all (by simp only [aS, aX, aB])) (by simp only [aS, aX, aB]; omega)) Fl.nil))) ?_
 refine WP.aC rfl rfl (PV.K2 rfl F4) (WP.aG rfl ?_)
 refine WL.call aA8 rfl (HJ (k := k) (d := nC bits lv) (s := s2) H.aR (H.o 0 rfl) (by exact H.aO 0 rfl 1 rfl) (by exact H.aO 0 rfl 2 rfl) bS hk LC) ?_
 rintro _ w4 ⟨a2, m2, rfl, hO, hB, hR⟩
 replace H := H.dH 0 rfl hO hB hR
 refine WL.nil ⟨(fa (nw 12 8) (fa (nw 12 5) (fa (nw 12 3) c5))), ?_⟩
 refine WP.as rfl rfl rfl (WP.done (WE.ret ⟨[_], _, .nil _, ⟨rfl, trivial⟩, ?_⟩))
 exact ⟨.leaf a2 k lv s2, m2, rfl, rfl, H.cR, H.o 0 rfl, (H.fV ((H.bK 0 rfl).and (H.bK 1 rfl))).imp fun _ h => ⟨hk, h.2, rR, h.1⟩⟩
structure vL (C : Nat → Prop) (W0 w : World) : Prop where
 os : w.os = W0.os
 tape : w.tape = W0.tape
 output : w.output = W0.output
 size : W0.heap.size ≤ w.heap.size
 old : ∀ b, b < W0.heap.size → ¬ C b → w.heap[b]? = W0.heap[b]?
theorem vL.aB4 {C : Nat → Prop} {W0 w : World} (h : Out Nil W0 w) : vL C W0 w := ⟨h.os, h.tape, h.output, h.size, fun b hb _ => h.block b hb id⟩
theorem vL.out {C : Nat → Prop} {W0 w w' : World} (h : vL C W0 w) (ho : Out Nil w w') : vL C W0 w' :=
 ⟨ho.os.trans h.os, ho.tape.trans h.tape, ho.output.trans h.output, Nat.le_trans h.size ho.size, fun b hb hc => (ho.block b (Nat.lt_of_lt_of_le hb h.size) id).trans (h.old b hb hc)⟩
theorem vL.kept {T C : Nat → Prop} {W0 W w : World} (h : Kept T C W0 W w) (hT : ∀ b, T b → W0.heap.size ≤ b) : vL C W0 w :=
 ⟨h.os, h.tape, h.output, h.size, fun b hb hc => h.old b hb hc fun ht => by have := hT b ht; omega⟩
theorem vL.bK {C : Nat → Prop} {W0 w : World} {p : World → Prop} (h : vL C W0 w) (hp : aJ C p W0) : aJ C p w := fun w' hw =>
 hp w' fun b hb hc => (hw b (Nat.lt_of_lt_of_le hb h.size) hc).trans (h.old b hb hc)
def VA (P : Program) (g : FuncId) (fs cs : List Value) (n : Nat) (V : Nat → List Value → World → Prop) (C : Nat → Prop) (W0 : World) : Prop :=
 ∀ (f : Value) (J : Nat → World → Prop) (Jx : World → Prop), J 0 W0 → (∀ i W W', J i W → Out Nil W W' → J i W') → (∀ W W', Jx W → Out Nil W W' → Jx W') →
  (∀ i xs W W2, i < n → J i W → Out Nil W W2 → aJ (· < W.heap.size) (V i xs) W2 → eQ P f xs W2 fun v W' => Kept Nil C W0 W2 W' ∧ ((v = .bool true ∧ J (i + 1) W') ∨ (v = .bool false ∧ Jx W'))) → z7 f →
  bC P g (fs ++ [f] ++ cs).toArray W0 fun v W' => v = .tuple #[] ∧ (J n W' ∨ Jx W')
theorem VA.aIl {P : Program} {g : FuncId} {fs cs : List Value} {n : Nat} {V : Nat → List Value → World → Prop} {C : Nat → Prop} {W0 : World} (h : VA P g fs cs n V C W0) : U9 P g fs cs n V Nil C W0 := by
 intro f J Jx hst j3 NO iH hf
 refine (h f (J Nil) (Jx Nil) (hst Nil W0 (Out.refl _ _) (fun _ h => h.elim) (fun _ h => h.elim)) (fun i W W' => j3 Nil i W W') (fun W W' => NO Nil W W') (fun i xs W W2 h1 h2 h3 h4 => iH Nil i xs W W2 h1 h2 h3 h4) hf).mono ?_
 rintro v W' ⟨h1, h2⟩
 exact ⟨h1, Nil, h2⟩
structure aBw (C : Nat → Prop) (w : World) (l : Nat) (W W' : World) : Prop where
 os : W'.os = W.os
 tape : W'.tape = W.tape
 output : W'.output = W.output
 size : w.heap.size + 2 ≤ W'.heap.size
 old : ∀ b, b < w.heap.size → ¬ C b → W'.heap[b]? = W.heap[b]?
 loop : W'.heap[l]? = W.heap[l]?
def lvV (L : List (Tr × Nat)) (i : Nat) (xs : List Value) (_ : World) : Prop := ∃ p, L[i]? = some p ∧ xs = [p.1.ptr, .int .i64 (p.2 : Int)]
theorem XW {L : List (Tr × Nat)} (i : Nat) (xs : List Value) (W : World) (h : lvV L i xs W) : xs.length = 2 := by obtain ⟨p, _, rfl⟩ := h; rfl
def aDo (T : Tr) : Prop := ∀ {X : Nat → Prop} {w W0 : World} {bits : Int} {d i : Nat} {L : List (Tr × Nat)} {f : Value} {J : Nat → World → Prop} {Jx : World → Prop}, (∀ b, X b → b < w.heap.size) → (∀ b, X b → b < W0.heap.size) → aJ X (cW bits T) W0 → vL X W0 w → T.er.fit d →
 (∀ j, j < (T.o6 d).length → L[i + j]? = (T.o6 d)[j]?) → (∀ i W W', J i W → Out Nil W W' → J i W') →
 (∀ i xs W W2, i < L.length → J i W → Out Nil W W2 → aJ (· < W.heap.size) (lvV L i xs) W2 → eQ prog f xs W2 fun v W' => Kept Nil X W0 W2 W' ∧ ((v = .bool true ∧ J (i + 1) W') ∨ (v = .bool false ∧ Jx W'))) → z7 f → J i w →
 bC prog 101 [T.ptr, .int .i64 (d : Int), f].toArray w fun v w' => ∃ b, v = .bool b ∧ vL X W0 w' ∧ (b = true → J (i + (T.o6 d).length) w') ∧ (b = false → Jx w')
def aHi (b : Nat) : Value := .func (.func 100) [].toArray [.pointer (some ⟨b, 0, none⟩)].toArray
theorem Z8 {X : Nat → Prop} {w : World} {W0 : World} {bits : Int} {d i : Nat} {L : List (Tr × Nat)} {f : Value} {J : Nat → World → Prop} {Jx : World → Prop}  (hX : cY X w) (hX0 : ∀ b, X b → b < W0.heap.size) (hA : aJ X (cW bits Tr.nil) W0) (JD : vL X W0 w) (hfit : Tr.nil.er.fit d) (hL : ∀ j, j < (Tr.nil.o6 d).length → L[i + j]? = (Tr.nil.o6 d)[j]?) (j3 : ∀ i W W', J i W → Out Nil W W' → J i W') (iH : ∀ i xs W W2, i < L.length → J i W → Out Nil W W2 → aJ (· < W.heap.size) (lvV L i xs) W2 → eQ prog f xs W2 fun v W' => Kept Nil X W0 W2 W' ∧ ((v = .bool true ∧ J (i + 1) W') ∨ (v = .bool false ∧ Jx W'))) (hf : z7 f) (hJ : J i w) :
  bC prog 101 [Tr.nil.ptr, .int .i64 (d : Int), f].toArray w fun v w' => ∃ b, v = .bool b ∧ vL X W0 w' ∧ (b = true → J (i + (Tr.nil.o6 d).length) w') ∧ (b = false → Jx w') := by
 refine bC.aH (N := 31) func101 rfl rfl (by simp) ?_
 have H := (St.begin hX).add (cE (JD.bK hA))
 refine WE.aA (WL.as rfl rfl (WL.nil (WE.seq (WE.aA (WL.mv rfl rfl ?_)))))
 refine WL.call lX rfl (eX (T := .nil) (bits := bits) H.aR (by exact H.bK 0 rfl) ) ?_
 rintro _ w1 ⟨rfl, hO⟩
 replace H := H.out hO
 refine WL.nil (WE.block (WE.aA (WL.pv (PV.eql rfl rfl rfl) rfl (WL.as rfl rfl (WL.nil ?_)))))
 refine WE.bD rfl rfl ?_
 refine WE.aA (WL.pv (PV.eql rfl rfl rfl) rfl (WL.as rfl rfl (WL.nil ?_)))
 refine WE.bD rfl rfl ?_
 refine WE.skip (WE.aA (WL.as rfl rfl (WL.nil (WE.ret ⟨[_], _, .nil _, ⟨rfl, trivial⟩, ?_⟩))))
 exact ⟨true, rfl, JD.out H.aL, (fun _ => j3 _ _ _ hJ H.aL), fun h => by cases h⟩
theorem VM {X : Nat → Prop} {w : World} {W0 : World} {bits : Int} {d i : Nat} {L : List (Tr × Nat)} {f : Value} {J : Nat → World → Prop} {Jx : World → Prop} {a : Nat} {q u : List UInt8} {s : Value} (hX : cY X w) (hX0 : ∀ b, X b → b < W0.heap.size) (hA : aJ X (cW bits (Tr.leaf a q u s)) W0) (JD : vL X W0 w) (hfit : (Tr.leaf a q u s).er.fit d) (hL : ∀ j, j < ((Tr.leaf a q u s).o6 d).length → L[i + j]? = ((Tr.leaf a q u s).o6 d)[j]?) (j3 : ∀ i W W', J i W → Out Nil W W' → J i W') (iH : ∀ i xs W W2, i < L.length → J i W → Out Nil W W2 → aJ (· < W.heap.size) (lvV L i xs) W2 → eQ prog f xs W2 fun v W' => Kept Nil X W0 W2 W' ∧ ((v = .bool true ∧ J (i + 1) W') ∨ (v = .bool false ∧ Jx W'))) (hf : z7 f) (hJ : J i w) :
  bC prog 101 [(Tr.leaf a q u s).ptr, .int .i64 (d : Int), f].toArray w fun v w' => ∃ b, v = .bool b ∧ vL X W0 w' ∧ (b = true → J (i + ((Tr.leaf a q u s).o6 d).length) w') ∧ (b = false → Jx w') := by
 refine bC.aH (N := 31) func101 rfl rfl (by simp) ?_
 have H := (St.begin hX).add (cE (JD.bK hA))
 have hLi : L[i]? = some ((Tr.leaf a q u s), d) := hL 0 (Nat.succ_pos _)
 have hiL := (List.getElem?_eq_some_iff.1 hLi).1
 refine WE.aA (WL.as rfl rfl (WL.nil (WE.seq (WE.aA (WL.mv rfl rfl ?_)))))
 refine WL.call lX rfl (eX (T := (Tr.leaf a q u s)) (bits := bits) H.aR (by exact H.bK 0 rfl) ) ?_
 rintro _ w1 ⟨rfl, hO⟩
 replace H := H.out hO
 refine WL.nil (WE.block (WE.aA (WL.pv (PV.eql rfl rfl rfl) rfl (WL.as rfl rfl (WL.nil ?_)))))
 refine WE.cS rfl rfl ?_
 refine WE.aA (WL.mv rfl rfl (WL.mv rfl rfl (WL.mv rfl rfl ?_)))
 refine WL.iW rfl rfl (iH i _ w _ hiL hJ H.aL (aJ.pure ⟨_, hLi, rfl⟩)) ?_
 rintro _ w2 ⟨hk, ⟨rfl, hJ⟩ | ⟨rfl, hJ⟩⟩
 ·
  have FM := vL.kept hk (fun _ h => h.elim)
  refine WL.as rfl rfl (WL.nil (WE.ret ⟨[_], _, .nil _, ⟨rfl, trivial⟩, ?_⟩))
  exact ⟨true, rfl, FM, (fun _ => hJ), fun h => by cases h⟩
 ·
  have FM := vL.kept hk (fun _ h => h.elim)
  refine WL.as rfl rfl (WL.nil (WE.ret ⟨[_], _, .nil _, ⟨rfl, trivial⟩, ?_⟩))
  exact ⟨false, rfl, FM, (fun h => by cases h), fun _ => hJ⟩
theorem O2 {X : Nat → Prop} {w : World} {W0 : World} {bits : Int} {d i : Nat} {L : List (Tr × Nat)} {f : Value} {J : Nat → World → Prop} {Jx : World → Prop} {a : Nat} {l r : Tr} (hX : cY X w) (hX0 : ∀ b, X b → b < W0.heap.size) (hA : aJ X (cW bits (Tr.inner a l r)) W0) (JD : vL X W0 w) (hfit : (Tr.inner a l r).er.fit d) (hL : ∀ j, j < ((Tr.inner a l r).o6 d).length → L[i + j]? = ((Tr.inner a l r).o6 d)[j]?) (j3 : ∀ i W W', J i W → Out Nil W W' → J i W') (iH : ∀ i xs W W2, i < L.length → J i W → Out Nil W W2 → aJ (· < W.heap.size) (lvV L i xs) W2 → eQ prog f xs W2 fun v W' => Kept Nil X W0 W2 W' ∧ ((v = .bool true ∧ J (i + 1) W') ∨ (v = .bool false ∧ Jx W'))) (hf : z7 f) (hJ : J i w) (ihl : aDo l) (ihr : aDo r) :
  bC prog 101 [(Tr.inner a l r).ptr, .int .i64 (d : Int), f].toArray w fun v w' => ∃ b, v = .bool b ∧ vL X W0 w' ∧ (b = true → J (i + ((Tr.inner a l r).o6 d).length) w') ∧ (b = false → Jx w') := by
 refine bC.aH (N := 31) func101 rfl rfl (by simp) ?_
 have H := (St.begin hX).add (cE (JD.bK hA))
 have G5 : (Tr.o6 d (Tr.inner a l r)).length = (l.o6 (d + 1)).length + (r.o6 (d + 1)).length := List.length_append
 have aKz : d < 256 := hfit.1
 have hLl : ∀ j, j < (l.o6 (d + 1)).length → L[i + j]? = (l.o6 (d + 1))[j]? := fun j hj => (hL j (by rw [G5]; omega)).trans (List.getElem?_append_left hj)
 have hLr : ∀ j, j < (r.o6 (d + 1)).length → L[i + (l.o6 (d + 1)).length + j]? = (r.o6 (d + 1))[j]? := fun j hj => by rw [Nat.add_assoc]; refine (hL ((l.o6 (d + 1)).length + j) (by rw [G5]; omega)).trans ?_; show (l.o6 (d + 1) ++ r.o6 (d + 1))[_]? = _; rw [List.getElem?_append_right (by omega)]; congr 1; omega
 refine WE.aA (WL.as rfl rfl (WL.nil (WE.seq (WE.aA (WL.mv rfl rfl ?_)))))
 refine WL.call lX rfl (eX (T := (Tr.inner a l r)) (bits := bits) H.aR (by exact H.bK 0 rfl) ) ?_
 rintro _ w1 ⟨rfl, hO⟩
 replace H := H.out hO
 refine WL.nil (WE.block (WE.aA (WL.pv (PV.eql rfl rfl rfl) rfl (WL.as rfl rfl (WL.nil ?_)))))
 refine WE.bD rfl rfl ?_
 refine WE.aA (WL.pv (PV.eql rfl rfl rfl) rfl (WL.as rfl rfl (WL.nil ?_)))
 refine WE.cS rfl rfl ?_
 refine WE.aA (WL.mv rfl rfl ?_)
 refine WL.call TP rfl (J3 (T := (Tr.inner a l r)) (bits := bits) H.aR (by exact H.bK 0 rfl) ) ?_
 rintro _ w2 ⟨rfl, hO⟩
 replace H := H.out hO
 refine WL.mv rfl rfl (WL.pv (PV.eq (v' := .int .i64 ((d + 1 : Nat) : Int)) (PV.bT rfl rfl rfl (by omega) (by omega)) rfl) rfl (WL.mv rfl rfl ?_))
 refine WL.call TR rfl (ihl (X := X) (W0 := W0) (bits := bits) (d := d + 1) (i := i) (L := L) (J := J) (Jx := Jx) (fun b hb => H.aR b (.inl hb)) hX0 (hA.imp fun _ h => h.left) (JD.out H.aL) hfit.2.1 hLl j3 iH hf (j3 _ _ _ hJ H.aL)) ?_
 rintro _ w3 ⟨b22, rfl, FM, aIF, aJe⟩
 replace H := (St.begin (fun b hb => Nat.lt_of_lt_of_le (hX0 b hb) FM.size)).add (cE (FM.bK hA))
 refine WL.mv rfl rfl ?_
 refine WL.split (t := 23) rfl (fun CP => ?_) (fun CP => ?_)
 ·
  refine WL.known (t := 22) (c := true) rfl CP ?_
  try simp only [bW] at CP
  subst CP
  refine WL.mv rfl rfl ?_
  refine WL.call TO rfl (y5 (T := (Tr.inner a l r)) (bits := bits) H.aR (by exact H.bK 0 rfl) ) ?_
  rintro _ w4 ⟨rfl, hO⟩
  replace H := H.out hO
  refine WL.mv rfl rfl (WL.pv (PV.eq (v' := .int .i64 ((d + 1 : Nat) : Int)) (PV.bT rfl rfl rfl (by omega) (by omega)) rfl) rfl (WL.mv rfl rfl ?_))
  refine WL.call TR rfl (ihr (X := X) (W0 := W0) (bits := bits) (d := d + 1) (i := i + (l.o6 (d + 1)).length) (L := L) (J := J) (Jx := Jx) (fun b hb => H.aR b (.inl hb)) hX0 (hA.imp fun _ h => h.right) (FM.out H.aL) hfit.2.2 hLr j3 iH hf (j3 _ _ _ (aIF rfl) H.aL)) ?_
  rintro _ w5 ⟨b29, rfl, aJn, aIE, aJd⟩
  refine WL.pv (PV.dP rfl rfl rfl) rfl (WL.as rfl rfl (WL.nil (WE.ret ⟨[_], _, .nil _, ⟨rfl, trivial⟩, ?_⟩)))
  exact ⟨b29, rfl, aJn, (fun h => by have h_ := aIE h; rw [G5, ← Nat.add_assoc]; exact h_), aJd⟩
 ·
  refine WL.known (t := 22) (c := false) rfl CP ?_
  try simp only [bW] at CP
  subst CP
  refine WL.off rfl (WL.off rfl (WL.off rfl (WL.off rfl (WL.off rfl (WL.off rfl (WL.pv (PV.dF rfl rfl rfl) rfl (WL.as rfl rfl ?_)))))))
  refine WL.nil (WE.ret ⟨[_], _, .nil _, ⟨rfl, trivial⟩, ?_⟩)
  exact ⟨false, rfl, FM, (fun h => by cases h), fun _ => aJe rfl⟩
theorem VL : ∀ T : Tr, aDo T
 | .nil => fun hX h0 h1 h2 h3 h4 h5 h6 h7 h8 => Z8 hX h0 h1 h2 h3 h4 h5 h6 h7 h8
 | .leaf a q u s => fun hX h0 h1 h2 h3 h4 h5 h6 h7 h8 => VM hX h0 h1 h2 h3 h4 h5 h6 h7 h8
 | .inner a l r => fun hX h0 h1 h2 h3 h4 h5 h6 h7 h8 => O2 hX h0 h1 h2 h3 h4 h5 h6 h7 h8 (VL l) (VL r)
theorem N7 {C : Nat → Prop} {w : World} {b1 : Nat} {bits : Int} {T : Tr} (hC : ∀ b, C b → b < w.heap.size) (bU : aJ C (fun w => dA w ⟨b1, 0, none⟩ [T.ptr]) w) (dI : aJ C (cW bits T) w) (hfit : T.er.fit 0) : VA prog 100 [] [.pointer (some ⟨b1, 0, none⟩)] ((T.o6 0).length) (lvV (T.o6 0)) C w := by
 intro f J Jx hJ0 j3 NO iH hf
 show bC prog 100 ([f, .pointer (some ⟨b1, 0, none⟩)] : List Value).toArray w _
 refine bC.aH (N := 6) func100 rfl rfl (by simp) ?_
 have H := ((St.begin (X := C) hC).add (cE dI)).add (cE bU)
 refine WE.dY (WL.aY rfl iL rfl rfl (H.p 0 rfl) (WL.mv rfl rfl ?_))
 refine WL.call TR rfl (VL T (X := C) (W0 := w) (bits := bits) (d := 0) (i := 0) (L := T.o6 0) (J := J) (Jx := Jx) (fun b hb => H.aR b (.inl hb)) hC dI (vL.aB4 H.aL) hfit (fun j _ => by rw [Nat.zero_add]) j3 iH hf (j3 _ _ _ hJ0 H.aL)) ?_
 rintro _ w1 ⟨b5, rfl, hOn, ht, FC⟩
 refine WL.nil ?_
 refine ⟨[], _, .nil _, trivial, ?_⟩
 cases b5 with
 | true => exact ⟨rfl, .inl (by have h_ := ht rfl; rwa [Nat.zero_add] at h_)⟩
 | false => exact ⟨rfl, .inr (FC rfl)⟩
theorem aCU {X : Nat → Prop} {w : World} {T : Tr} (hX : cY X w) :
  bC prog 60 [T.ptr].toArray w fun v w' => ∃ b, v = aHi b ∧ Out Nil w w' ∧ aJ X (fun w => dA w ⟨b, 0, none⟩ [T.ptr]) w' := by
 refine bC.aH (N := 4) func60 rfl rfl (by simp) ?_
 have H := St.begin hX
 refine WE.aA ?_
 refine WL.box (l := [T.ptr]) H rfl (rfl) rfl ?_
 intro b1 w1 H
 refine WL.as rfl rfl (WL.nil (WE.aA (WL.pv (PV.makeFunc rfl) rfl (WL.as rfl rfl (WL.nil (WE.ret ⟨[_], _, .nil _, ⟨rfl, trivial⟩, ?_⟩))))))
 replace H := H.freeze (i := 0) rfl
 exact ⟨_, rfl, H.aL, (H.gF (H.bK 0 rfl)).imp fun _ h => h.rd⟩
theorem OG (x : UInt8) (a b : List UInt8) (h : a.length = b.length) : iI (x :: a) (x :: b) = iI a b := by
 unfold iI
 rw [lE, lE, h]
 simp only [Nat.add_lt_add_iff_left]
theorem kW : ∀ (a b : List UInt8), a.length = b.length → Lib.compareBytes a b = iI a b
 | [], [], _ => by simp [Lib.compareBytes, iI]
 | [], _ :: _, h => by cases h
 | _ :: _, [], h => by cases h
 | x :: a, y :: b, h => by
  have hl : a.length = b.length := by simpa using h
  unfold Lib.compareBytes
  by_cases h1 : x < y
  ·
   rw [if_pos h1]
   have := qM (a := x :: a) (b := y :: b) h 0 (by simp) rfl (UInt8.lt_iff_toNat_lt.1 h1)
   rw [iI, if_pos this]
  ·
   rw [if_neg h1]
   by_cases h2 : y < x
   ·
    rw [if_pos h2]
    have := qM (a := y :: b) (b := x :: a) h.symm 0 (by simp) rfl (UInt8.lt_iff_toNat_lt.1 h2)
    rw [iI, if_neg (by omega), if_pos this]
   ·
    rw [if_neg h2]
    have e : x = y := by
     have h3 : ¬ x.toNat < y.toNat := fun h => h1 (UInt8.lt_iff_toNat_lt.2 h)
     have h4 : ¬ y.toNat < x.toNat := fun h => h2 (UInt8.lt_iff_toNat_lt.2 h)
     exact UInt8.toNat_inj.1 (by omega)
    subst e
    rw [kW a b hl, OG _ _ _ hl]
theorem yP {X : Nat → Prop} {w : World} {a b : Value} {la lb : List UInt8} (hX : cY X w) (bU : aJ X (bJ a la) w) (dI : aJ X (bJ b lb) w) :
  bC prog 143 [a, b].toArray w fun v w' => v = .int .i64 (Lib.compareBytes la lb) ∧ Out Nil w w' := by
 refine bC.aH (N := 8) func143 rfl rfl (by simp) ?_
 have H := ((St.begin hX).add (cE dI)).add (cE bU)
 refine WE.aA (WL.as rfl rfl (WL.nil (WE.aA (WL.mv rfl rfl (WL.mv rfl rfl ?_)))))
 refine WL.extern (e := Extern.BytealgCompare.compare) (v := .int .i64 (Lib.compareBytes la lb)) func184 (by kernel_rfl) (by kernel_rfl) (by kernel_rfl) (by kernel_rfl) rfl (sI (H.p 0 rfl) (H.p 1 rfl)) ?_
 refine WL.as rfl rfl (WL.nil (WE.ret ⟨[_], _, .nil _, ⟨rfl, trivial⟩, ?_⟩))
 exact ⟨rfl, H.aL⟩
theorem rE {X : Nat → Prop} {w : World} {k l : List UInt8} (hX : cY X w) (hk : k.length = 32) (hl : l.length = 32) :
  bC prog 94 [.agg (kc k).toArray, .agg (kc l).toArray].toArray w fun v w' => v = .int .i64 (iI k l) ∧ Out Nil w w' := by
 refine bC.aH (N := 8) func94 rfl rfl (by simp) ?_
 have H := St.begin hX
 refine WE.aA ?_
 refine WL.box (l := kc k) H rfl rfl rfl ?_
 intro b2 w1 H
 refine WL.box (l := kc l) H rfl rfl rfl ?_
 intro b3 w2 H
 refine WL.as rfl rfl (WL.nil ?_)
 refine WE.bH (.take 0 (.take 1 (.aG 2 (.take 3 .done)))) mixed (by kernel_rfl) ?_
 replace H := H.out (Out.drew _)
 replace H := H.freeze (i := 0) rfl
 replace H := H.freeze (i := 0) rfl
 replace H := H.uB [1, 0]
 refine WP.aC rfl rfl (PV.iE rfl gZ (by rw [gO]; rfl) rfl) ?_
 refine WP.aC rfl rfl (PV.iE rfl gZ (by rw [gO]; rfl) rfl) ?_
 refine WP.aG rfl ?_
 refine WL.call aBc rfl (yP (la := k) (lb := l) H.aR ((H.bK 1 rfl).imp fun _ h => bJ.bZ h hk) ((H.bK 0 rfl).imp fun _ h => bJ.bZ h hl)) ?_
 rintro _ w3 ⟨rfl, hO⟩
 replace H := H.out hO
 rw [kW k l (by rw [hk, hl])]
 refine WL.nil ⟨c5, ?_⟩
 refine WP.as rfl rfl rfl (WP.done (WE.ret ⟨[_], _, .nil _, ⟨rfl, trivial⟩, ?_⟩))
 exact ⟨rfl, H.aL⟩
def vR (m : List En) : List (List UInt8 × List UInt8) := m.map fun e => (e.k, e.v)
def kvT (L : List (Tr × Nat)) : List (List UInt8 × List UInt8) := L.map fun p => (p.1.key, p.1.val)
theorem RZ {L : List (Tr × Nat)} {i : Nat} {p : Tr × Nat} (h : L[i]? = some p) : kvT (L.take (i + 1)) = kvT (L.take i) ++ [(p.1.key, p.1.val)] := by
 unfold kvT
 rw [List.take_add_one, h, List.map_append]; rfl
theorem X4 {T : Tr} {m : List En} (hT : T.er = grow 0 m) (hp : Pm 0 m) (hs : j7 m) : kvT (T.o6 0) = vR m := XU hT hp hs
theorem IP {es m : List En} (h : vR es = vR m) : es.length = m.length ∧ ∀ i (h1 : i < es.length) (h2 : i < m.length), es[i].k = m[i].k ∧ es[i].v = m[i].v := by
 have hl : es.length = m.length := by simpa [vR] using congrArg List.length h
 refine ⟨hl, fun i h1 h2 => ?_⟩
 have := congrArg (fun l => l[i]?) h
 simp [vR, List.getElem?_map, List.getElem?_eq_getElem h1, List.getElem?_eq_getElem h2] at this
 exact this
theorem E1 {es m : List En} (h : vR es = vR m) : es.map En.k = m.map En.k := by
 have := congrArg (List.map Prod.fst) h
 simpa [vR, List.map_map, Function.comp_def] using this
theorem aB2 {q : List UInt8} {s : Value} (h : s.oneCell' = true) : eN (kc q ++ [s]) := bN (bG _) (bA _ (by simp [h]))
theorem R1 (es : List En) (q u : List UInt8) (s : Value) : vR (es ++ [⟨q, s, u⟩]) = vR es ++ [(q, u)] := by simp [vR]
theorem MU {es : List En} {e : En} {w : World} (h : eL es w) (he : bJ e.s e.v w) : eL (es ++ [e]) w := fun x hx => by
 rcases List.mem_append.1 hx with hx | hx
 ·
  exact h x hx
 ·
  rw [List.mem_singleton.1 hx]; exact he
theorem N2 (es : List En) (e : En) : (es ++ [e]).flatMap nN = es.flatMap nN ++ (kc e.k ++ [e.s]) := by rw [List.flatMap_append, List.flatMap_singleton]; rfl
theorem O7 {X : Nat → Prop} {w : World} {bits : Int} {T : Tr} (hX : cY X w) (bU : aJ X (cW bits T) w) (hfit : T.er.fit 0) (I5 : T.er.gH ≤ 1000000) :
  bC prog 25 [T.ptr].toArray w fun v w' => ∃ es : List En, Out Nil w w' ∧ aJ X (fP v es) w' ∧ aJ X (eL es) w' ∧ vR es = kvT (T.o6 0) := by
 refine bC.aH (N := 15) func25 rfl rfl (by simp) ?_
 have H := (St.begin hX).add (cE bU)
 have hln := CF T 0
 refine WE.aA (WL.as rfl rfl (WL.nil (WE.aA ?_)))
 refine WL.alloc H rfl aIb rfl ?_
 intro b3 w1 H
 refine WL.nil (WE.seq (WE.aA (WL.mv rfl rfl ?_)))
 refine WL.call aJJ rfl (aCU (T := T) H.aR  ) ?_
 rintro _ w2 ⟨aJ9, rfl, hO, hR⟩
 replace H := (H.out hO).add hR
 refine WL.nil (WE.block ?_)
 replace H := H.kS 111 33
 replace H := H.add (show aJ _ (eL []) _ from fun _ _ e he => by cases he)
 replace H := H.wD
 refine WE.xF (α := Value × List En) (fun i x => vR x.2 = kvT ((T.o6 0).take i) ∧ x.2.length = i) (fun i x => []) (fun i x => [aP.hU w.heap.size x.1 111 33 i (x.2.flatMap nN), aP.blk b3 26 [x.1]]) (fun i x => [eL x.2, fun w => dA w ⟨aJ9, 0, none⟩ [T.ptr], cW bits T]) (fun _ _ => False) (fun _ _ => []) (fun _ _ => []) (fun _ _ => []) (.slice none 0 0, []) H rfl aHe (fun W0 hO => (N7 (T := T) (bits := bits) (H.UF hO) (H.rZ hO 1 rfl) (H.rZ hO 2 rfl) hfit).aIl) (XW) ⟨⟨rfl, rfl⟩, rfl, rfl, rfl⟩ ?_ ?_ ?_
 ·
  intro i ⟨v, es⟩ xs_ l_ d_ o_ T_ sc_ w3 jI tC NW
  obtain ⟨p, hLp, rfl⟩ := NW
  have oA := List.mem_of_getElem? hLp
  refine WE.dY (WL.as rfl rfl (WL.nil ?_))
  refine ⟨rfl, rfl, rfl, ?_⟩
  intro w4 H
  have hkp := cW.gY (K5 T 0 (H.p 3 rfl) p oA)
  have hil := (List.getElem?_eq_some_iff.1 hLp).1
  have hE : ∀ s11 : Value, (kc p.1.key ++ [s11]).length = 1 * 33 := fun s => by simp [aI, hkp]
  have hE2 : ∀ s11 : Value, (kc p.1.key ++ [s11]).length = 33 := hE
  refine WE.block ?_
  refine WE.draw (.take 0 (.take 1 (.aG 2 (.aG 3 (.aG 4 (.aG 5 .done)))))) mixed (by kernel_rfl) ?_
  replace H := H.out (Out.drew _)
  refine WP.aM rfl rfl (RV.aV rfl aHJ rfl) (aN.aF (H.l 1 rfl) (aK.all _) rfl) (WP.mv rfl rfl rfl (WP.aG rfl ?_))
  refine WL.call aCL rfl (DM (T := p.1) (bits := bits) H.aR ((H.bK 3 rfl).imp fun _ h => K5 T 0 h p oA)) ?_
  rintro _ w5 ⟨s11, rfl, hO, iB⟩
  have aIN := cN.fX (bJ.dJ iB)
  have hr_ := (mT H.aR iB).imp fun _ h => bJ.dJ h
  replace H := (H.out hO).add hr_
  refine WL.nil ⟨(fa (fun _ _ => (aN.aF (H.l 1 rfl) (aK.all _) rfl)) c5), ?_⟩
  refine WP.aG rfl ?_
  refine WL.bB (l0 := ((kc (List.replicate 32 0) ++ ([.slice none 0 0])))) H rfl vO (by decide) rfl (Fl.cons rfl rfl (by simp only [aS, aX, aB]; omega) (Laid.all (by simp only [aS, aX, aB]; omega)) Fl.nil) rfl ?_
  intro b12 w6 H
  refine WL.nil ⟨(fa (fun _ _ => (aN.aF (H.l 2 rfl) (aK.all _) rfl)) c5), ?_⟩
  refine WP.aG rfl ?_
  refine WL.append (m := 1) H 1 vO (by decide) rfl rfl rfl (cN.bZ (n := 1) (H.l 0 rfl) (hE s11)) (aB2 aIN) (by omega) (by decide) rfl ?_
  intro v13 w7 H
  replace H := H.forget 0
  have aEO := jE (H.l 0 rfl)
  refine WL.nil ⟨(fa (nw 4 0) c5), ?_⟩
  refine WP.aG rfl ?_
  refine WL.aW H 1 rfl rfl rfl (new := [v13]) (cells_one aEO) (by exact aIi) (eE aEO) (Laid.at (Laid.all (by simp only [aS, aX, aB])) rfl) rfl ?_
  intro w8 H
  refine WL.nil ⟨(fa (nw 5 0) c5), ?_⟩
  refine WP.done ?_
  let e11 : En := ⟨p.1.key, s11, p.1.val⟩
  replace H := H.add (show aJ _ (eL (es ++ [e11])) _ from ((H.bK 2 rfl).and (H.bK 0 rfl)).imp fun _ h => MU h.1 h.2)
  replace H := H.conv (L' := [aP.hU w.heap.size v13 111 33 (i + 1) ((es ++ [e11]).flatMap nN), aP.blk b3 26 [v13], aP.obj l_ o_, aP.obj d_ (.deferred (some [])), aP.sn T_ w4]) (by rw [N2]; rfl)
  replace H := H.uB [0, 4, 5, 6]
  exact ⟨(v13, es ++ [e11]), ⟨by rw [R1, RZ hLp, tC.1], by rw [List.length_append, tC.2]; rfl⟩, H⟩
 ·
  intro ⟨v, es⟩ T3 w9 tC H
  refine WE.aA (WL.aY rfl aHJ rfl rfl (aN.aF (H.l 2 rfl) (aK.all _) rfl) (WL.as rfl rfl (WL.nil (WE.ret ?_))))
  (obtain ⟨tM, uL, H⟩ := H.tY 0 rfl)
  refine ⟨[_], _, (uL _ (.nil _)), ⟨rfl, trivial⟩, ?_⟩
  rw [List.take_of_length_le (Nat.le_refl _)] at tC
  refine ⟨es, H.aL, (by exact (mT hX (H.l 0 rfl)).imp fun _ h => (by have h_ := cN.dJ h; rw [← tC.2] at h_; exact h_)), H.gF (H.bK 0 rfl), tC.1⟩
 ·
  intro e_ ⟨v, es⟩ T3 wT PJ tC H
  exact tC.elim
theorem j7.part {m : List En} {d b : Nat} (h : j7 m) : j7 (bO m d b) := h.filter _
theorem o8 {d : Nat} {m : List En} (h : Pm d m) (hd : d < 256) : kM (grow (d + 1) (bO m d 0)) (grow (d + 1) (bO m d 1)) = grow d m := by
 match m, h with
 | [], _ => simp [bO, eF, kM]
 | [e], _ =>
  have hb := dX e.k d
  rw [dO]
  by_cases h0 : bI e.k d = 0
  ·
   have e0 : bO [e] d 0 = [e] := by simp [bO, h0]
   have e1 : bO [e] d 1 = [] := by simp [bO, h0]
   rw [e0, e1, dO, eF]; rfl
  ·
   have e0 : bO [e] d 0 = [] := by simp [bO, h0]
   have e1 : bO [e] d 1 = [e] := by simp [bO]; omega
   rw [e0, e1, dO, eF]; rfl
 | a :: b :: m, h =>
  rw [iP d _ hd (by simp)]
  exact E2 (by rw [(h.part hd 0).gH, (h.part hd 1).gH, nV]; simp)
theorem sK (m : List En) (k : List UInt8) (d b : Nat) : bO (fG m k) d b = fG (bO m d b) k := by
 unfold bO fG
 rw [List.filter_filter, List.filter_filter]
 apply List.filter_congr
 intro e _
 rw [Bool.and_comm]
theorem uF {m : List En} {k : List UInt8} {d b : Nat} (hb : bI k d ≠ b) : fG (bO m d b) k = bO m d b := by
 unfold fG
 rw [List.filter_eq_self]
 intro e he
 have := (iG.1 he).2
 simp
 rintro rfl
 exact hb this
theorem R3 {e x : En} {l : List En} (h : num e.k < num x.k) : ins e (x :: l) = e :: x :: l := if_pos h
theorem R4 {e x : En} {l : List En} (h : ¬ num e.k < num x.k) : ins e (x :: l) = x :: ins e l := if_neg h
theorem xW {e : En} {p : En → Bool} : ∀ {l : List En}, j7 l → (ins e l).filter p = if p e then ins e (l.filter p) else l.filter p := by
 intro l
 induction l with
 | nil => intro _; cases hp : p e <;> simp [ins, hp]
 | cons x l ih =>
  intro hs
  have h1 := List.pairwise_cons.1 hs
  by_cases hl : num e.k < num x.k
  ·
   rw [R3 hl]
   cases hp : p e
   ·
    simp [List.filter_cons, hp]
   ·
    rw [List.filter_cons_of_pos hp, if_pos rfl]
    have hall : ∀ y ∈ (x :: l).filter p, num e.k < num y.k := fun y hy => by
     rcases List.mem_cons.1 (List.mem_filter.1 hy).1 with rfl | hy
     ·
      exact hl
     ·
      exact Nat.lt_trans hl (h1.1 y hy)
    generalize (x :: l).filter p = q at *
    cases q with
    | nil => rfl
    | cons y q => exact (R3 (hall y (by simp))).symm
  ·
   rw [R4 hl, List.filter_cons, ih h1.2]
   cases hx : p x
   ·
    rw [List.filter_cons, hx]; rfl
   ·
    rw [List.filter_cons, hx]
    cases hp : p e
    ·
     rfl
    ·
     show x :: ins e _ = ins e (x :: _)
     rw [R4 hl]
theorem AL {m : List En} {e : En} {d : Nat} (hs : j7 m) : bO (fS m e) d (bI e.k d) = fS (bO m d (bI e.k d)) e := by
 unfold fS
 have := xW (e := e) (p := fun x => bI x.k d == bI e.k d) (hs.filter (p := fun x => decide (x.k ≠ e.k)))
 unfold bO
 show List.filter _ (ins e (fG m e.k)) = _
 rw [show fG m e.k = m.filter fun x => decide (x.k ≠ e.k) from rfl, this]
 rw [if_pos (by simp)]
 congr 1
 exact sK m e.k d (bI e.k d)
theorem xI {m : List En} {e : En} {d b : Nat} (hs : j7 m) (hb : bI e.k d ≠ b) : bO (fS m e) d b = bO m d b := by
 have := xW (e := e) (p := fun x => bI x.k d == b) (hs.filter (p := fun x => decide (x.k ≠ e.k)))
 unfold bO fS
 rw [show fG m e.k = m.filter fun x => decide (x.k ≠ e.k) from rfl, this]
 rw [if_neg (by simpa using hb)]
 have h2 : bO (fG m e.k) d b = bO m d b := by rw [sK, uF hb]
 exact h2
def vY (d : Nat) (m : List En) (k : List UInt8) : Prop := ∀ e ∈ m, d ≤ fN e.k k
theorem vY.part {d : Nat} {m : List En} {k : List UInt8} (h : vY d m k) (hd : d < 256) : vY (d + 1) (bO m d (bI k d)) k := fun e he =>
 (BK hd).2 ⟨h e (iG.1 he).1, (iG.1 he).2⟩
theorem vY.zero (m : List En) (k : List UInt8) : vY 0 m k := fun _ _ => Nat.zero_le _
theorem aBX {d : Nat} {m : List En} {e : En} (h : Pm d m) (hs : j7 m) (he : e.k.length = 32) (hn : vY d m e.k) : Pm d (fS m e) where
 le := h.le
 kl := wC h.kl he
 N9 := (sN hs h.kl he).N9
 ZI := by
  have hp : ∀ x ∈ fS m e, pre d x.k = pre d e.k := fun x hx => by
   rcases mB.1 hx with rfl | ⟨hx, _⟩
   ·
    rfl
   ·
    exact (B8 (h.kl x hx) he d h.le).2 (hn x hx)
  intro a ha b hb
  rw [hp a ha, hp b hb]
def G3 (k : List UInt8) (d : Nat) (n b : Sh) : Sh := if bI k d = 0 then kM n b else kM b n
theorem CL (k : List UInt8) (d : Nat) (n b : Sh) : (G3 k d n b).gH = n.gH + b.gH := by unfold G3; split <;> rw [NM]; omega
def vC (k : List UInt8) (a b : Sh) : Nat → Nat → Sh
 | 0, c => G3 k c a b
 | f + 1, d => G3 k d (vC k a b f (d + 1)) .nil
theorem NB {a b : En} (ha : a.k.length = 32) (hb : b.k.length = 32) (hne : num a.k ≠ num b.k) : ∀ (f d : Nat), d + f = fN a.k b.k → ∀ m : List En, (m = [a, b] ∨ m = [b, a]) → vC a.k (.leaf a.k a.v) (.leaf b.k b.v) f d = grow d m := by
 have hc : fN a.k b.k < 256 := by
  rcases Nat.lt_or_ge (fN a.k b.k) 256 with h | h
  ·
   exact h
  ·
   exact absurd (congrArg num ((oF ha hb).1 h)) hne
 have oA : ∀ d, d ≤ fN a.k b.k → ∀ m : List En, (m = [a, b] ∨ m = [b, a]) → Pm d m := fun d hd m hm => by
  have hpre := (B8 ha hb d (by omega)).2 hd
  refine ⟨by omega, ?_, ?_, ?_⟩
  ·
   rcases hm with rfl | rfl <;> (intro e he; simp at he; rcases he with rfl | rfl <;> assumption)
  ·
   rcases hm with rfl | rfl <;> simp <;> first | exact hne | exact hne.symm
  ·
   intro x hx y hy
   have h1 : ∀ z ∈ m, pre d z.k = pre d a.k := by rcases hm with rfl | rfl <;> (intro z hz; simp at hz; rcases hz with rfl | rfl <;> simp [hpre])
   rw [h1 x hx, h1 y hy]
 intro f
 induction f with
 | zero =>
  intro d hd m hm
  have YM : d < 256 := by omega
  have YP : bI a.k d ≠ bI b.k d := by rw [show d = fN a.k b.k by omega]; exact (qT a.k b.k).ne hc
  have h1 := dX a.k d
  have h2 := dX b.k d
  rw [iP d m YM (by rcases hm with rfl | rfl <;> simp)]
  show G3 a.k d _ _ = _
  unfold G3
  by_cases h0 : bI a.k d = 0
  ·
   have G7 : bI b.k d = 1 := by omega
   have e0 : bO m d 0 = [a] := by rcases hm with rfl | rfl <;> simp [bO, h0, G7]
   have e1 : bO m d 1 = [b] := by rcases hm with rfl | rfl <;> simp [bO, h0, G7]
   rw [if_pos h0, e0, e1, dO, dO]; rfl
  ·
   have ha1 : bI a.k d = 1 := by omega
   have zG : bI b.k d = 0 := by omega
   have e0 : bO m d 0 = [b] := by rcases hm with rfl | rfl <;> simp [bO, ha1, zG]
   have e1 : bO m d 1 = [a] := by rcases hm with rfl | rfl <;> simp [bO, ha1, zG]
   rw [if_neg h0, e0, e1, dO, dO]; rfl
 | succ f ih =>
  intro d hd m hm
  have YM : d < 256 := by omega
  have YP : bI a.k d = bI b.k d := (qT a.k b.k).eq d (by omega)
  have h1 := dX a.k d
  show G3 a.k d _ _ = _
  have hp : bO m d (bI a.k d) = m := by rcases hm with rfl | rfl <;> simp [bO, YP]
  have hq : bO m d (1 - bI a.k d) = [] := by
   have : bI b.k d ≠ 1 - bI b.k d := by rw [← YP]; omega
   rcases hm with rfl | rfl <;> simp [bO, YP, this]
  have hl : 2 ≤ m.length := by rcases hm with rfl | rfl <;> simp
  rw [ih (d + 1) (by omega) m hm]
  rw [← o8 (oA d (by omega) m hm) YM]
  unfold G3
  by_cases h0 : bI a.k d = 0
  ·
   rw [if_pos h0]
   rw [h0] at hp hq
   rw [hp, show bO m d 1 = [] from hq, eF]
  ·
   have ha1 : bI a.k d = 1 := by omega
   rw [if_neg h0]
   rw [ha1] at hp hq
   rw [hp, show bO m d 0 = [] from hq, eF]
def sM (k v : List UInt8) : Nat → Sh → Sh
 | _, .nil => .leaf k v
 | d, .leaf q u => if q = k then .leaf k v else vC q (.leaf q u) (.leaf k v) (fN q k - d) d
 | d, .inner l r => if bI k d = 0 then kM (sM k v (d + 1) l) r else kM l (sM k v (d + 1) r)
theorem M8 (e : En) (he : e.k.length = 32) : ∀ (n d : Nat) (m : List En), 256 - d = n → Pm d m → j7 m → vY d m e.k → sM e.k e.v d (grow d m) = grow d (fS m e) := by
 intro n
 induction n with
 | zero =>
  intro d m hn hp hs G4
  match m, hp, hs, G4 with
  | [], _, _, _ => rw [eF]; exact (dO d e).symm
  | [x], hp, hs, G4 =>
   rw [dO]
   have hx := hp.kl x (by simp)
   have CT := G4 x (by simp)
   have hd := hp.le
   have V6 : x.k = e.k := (oF hx he).1 (by omega)
   show (if x.k = e.k then _ else _) = _
   rw [if_pos V6]
   have : fS [x] e = [e] := by simp [fS, fG, V6, ins]
   rw [this, dO]
  | a :: b :: m, hp, _, _ => have := hp.lt (by simp); omega
 | succ n ih =>
  intro d m hn hp hs G4
  match m, hp, hs, G4 with
  | [], _, _, _ => rw [eF]; exact (dO d e).symm
  | [x], hp, hs, G4 =>
   rw [dO]
   have hx := hp.kl x (by simp)
   have CT := G4 x (by simp)
   show (if x.k = e.k then _ else _) = _
   by_cases V6 : x.k = e.k
   ·
    rw [if_pos V6]
    have : fS [x] e = [e] := by simp [fS, fG, V6, ins]
    rw [this, dO]
   ·
    rw [if_neg V6]
    refine NB hx he (fun h => V6 (sU _ _ (by rw [hx, he]) h)) _ d (by omega) _ ?_
    have : fG [x] e.k = [x] := by simp [fG, V6]
    unfold fS
    rw [this]
    unfold ins
    split
    ·
     exact .inr rfl
    ·
     exact .inl rfl
  | a :: b :: m, hp, hs, G4 =>
   have hd := hp.lt (by simp)
   have hb := dX e.k d
   have aIQ := aBX hp hs he G4
   rw [← o8 aIQ hd, iP d _ hd (by simp)]
   show (if bI e.k d = 0 then _ else _) = _
   by_cases h0 : bI e.k d = 0
   ·
    rw [if_pos h0]
    have hpt := AL (d := d) (e := e) hs
    have hot := xI (d := d) (b := 1) (e := e) hs (by omega)
    have hnp := G4.part hd
    rw [h0] at hpt hnp
    rw [hpt, hot, ih (d + 1) _ (by omega) (hp.part hd 0) hs.part hnp]
   ·
    have h1 : bI e.k d = 1 := by omega
    rw [if_neg h0]
    have hpt := AL (d := d) (e := e) hs
    have hot := xI (d := d) (b := 0) (e := e) hs (by omega)
    have hnp := G4.part hd
    rw [h1] at hpt hnp
    rw [hpt, hot, ih (d + 1) _ (by omega) (hp.part hd 1) hs.part hnp]
theorem xG {d : Nat} {m : List En} (e : En) (he : e.k.length = 32) (hp : Pm d m) (hs : j7 m) (hn : vY d m e.k) : sM e.k e.v d (grow d m) = grow d (fS m e) := M8 e he _ d m rfl hp hs hn
theorem QV {d : Nat} {m : List En} {k : List UInt8} (h : Pm d m) : Pm d (fG m k) where
 le := h.le
 kl := QY h.kl
 N9 := h.N9.filter _
 ZI := fun a ha b hb => h.ZI a (jG.1 ha).1 b (jG.1 hb).1
def V3 (k : List UInt8) : Nat → List Sh → Sh → Sh
 | _, [], e => e
 | d, b :: bs, e => G3 k d (V3 k (d + 1) bs e) b
theorem QA (k : List UInt8) (d : Nat) (bs : List Sh) (e : Sh) (i : Nat) (h : i < bs.length) : V3 k (d + i) (bs.drop i) e = G3 k (d + i) (V3 k (d + (i + 1)) (bs.drop (i + 1)) e) bs[i] := by
 rw [List.drop_eq_getElem_cons h]
 rfl
theorem KJ (k : List UInt8) (e : Sh) : ∀ (bs : List Sh) (d : Nat), (V3 k d bs e).gH = e.gH + (bs.map Sh.gH).sum
 | [], _ => by simp [V3]
 | b :: bs, d => by show (G3 k d _ _).gH = _; rw [CL, KJ k e bs]; simp; omega
def oI (T : Tr) (k : List UInt8) (d n : Nat) : List Tr := (List.range n).map fun j => (T.iX k d j).beside k (j + d)
theorem yS (T : Tr) (k : List UInt8) (d n : Nat) : (oI T k d n).length = n := by simp [oI]
theorem ON (T : Tr) (k : List UInt8) (d n : Nat) : oI T k d (n + 1) = oI T k d n ++ [(T.iX k d n).beside k (n + d)] := by simp [oI, List.range_succ]
theorem BP (T : Tr) (k : List UInt8) (d n : Nat) : oI T k d (n + 1) = T.beside k d :: oI (T.step k d) k (d + 1) n := by
 unfold oI
 rw [List.range_succ_eq_map, List.map_cons, List.map_map]
 congr 1
 ·
  show T.beside k (0 + d) = _; rw [Nat.zero_add]
 ·
  apply List.map_congr_left
  intro j _
  show (T.iX k d (j + 1)).beside k (j + 1 + d) = (Tr.iX k (d + 1) (T.step k d) j).beside k (j + (d + 1))
  rw [Tr.oK, show j + 1 + d = j + (d + 1) by omega]
theorem HX (k v : List UInt8) {d : Nat} {T : Tr} (h : T.er.kind = 2) : sM k v d T.er = G3 k d (sM k v (d + 1) (T.step k d).er) (T.beside k d).er := by
 obtain ⟨a, l, r, rfl⟩ := Tr.A3 h
 have hb := dX k d
 show (if bI k d = 0 then kM (sM k v (d + 1) l.er) r.er else kM l.er (sM k v (d + 1) r.er)) = _
 unfold G3 Tr.step Tr.beside Tr.child
 by_cases h0 : bI k d = 0
 ·
  simp only [h0]; rfl
 ·
  have h1 : bI k d = 1 := by omega
  simp only [h1]; rfl
theorem XF (k v : List UInt8) : ∀ (n d : Nat) (T : Tr), T.dp k d = n → sM k v d T.er = V3 k d ((oI T k d n).map Tr.er) (sM k v (n + d) (T.iX k d n).er) := by
 intro n
 induction n with
 | zero => intro d T h; rw [Nat.zero_add]; rfl
 | succ n ih =>
  intro d T h
  have h2 : T.er.kind = 2 := by
   cases T <;> first | rfl | (simp [Tr.dp] at h)
  rw [Tr.qS h2] at h
  rw [HX k v h2, BP, ih (d + 1) (T.step k d) (by omega), Tr.oK, show n + (d + 1) = n + 1 + d by omega]
  rfl
theorem uH (k q v u : List UInt8) (k' : List UInt8) : ∀ (f d : Nat), (vC k' (.leaf k v) (.leaf q u) f d).gH = 2
 | 0, d => by show (G3 _ _ _ _).gH = 2; rw [CL]; rfl
 | f + 1, d => by show (G3 _ _ _ _).gH = 2; rw [CL, uH k q v u k' f (d + 1)]; rfl
theorem ZP (k : List UInt8) : ∀ (n d : Nat) (T : Tr), T.dp k d = n → ((oI T k d n).map fun b => b.er.gH).sum + (T.iX k d n).er.gH = T.er.gH := by
 intro n
 induction n with
 | zero => intro d T _; simp [oI, Tr.iX]
 | succ n ih =>
  intro d T h
  have h2 : T.er.kind = 2 := by
   cases T <;> first | rfl | (simp [Tr.dp] at h)
  rw [Tr.qS h2] at h
  rw [BP, List.map_cons, List.sum_cons, Tr.oK, Nat.add_assoc, ih (d + 1) _ (by omega)]
  obtain ⟨a, l, r, rfl⟩ := Tr.A3 h2
  have hb := dX k d
  unfold Tr.step Tr.beside Tr.child
  by_cases h0 : bI k d = 0
  ·
   simp only [h0]; show r.er.gH + l.er.gH = l.er.gH + r.er.gH; omega
  ·
   have h1 : bI k d = 1 := by omega
   simp only [h1]; rfl
theorem D9 (l : List Nat) : ∀ n, (l.drop n).sum ≤ l.sum
 | 0 => Nat.le_refl _
 | n + 1 => by
  cases l with
  | nil => simp
  | cons x l => rw [List.drop_succ_cons, List.sum_cons]; exact Nat.le_trans (D9 l n) (Nat.le_add_left _ _)
theorem MV {E g : Sh} {bs : List Tr} {k : List UInt8} {d i : Nat} (hc : E.gH + ((bs.map Tr.er).map Sh.gH).sum ≤ 1000000000) (hg : g = V3 k (d + (bs.length - i)) ((bs.map Tr.er).drop (bs.length - i)) E) (h : bs.length - 1 - i < bs.length) (hi : i < bs.length) :
  g.gH + (bs[bs.length - 1 - i]).er.gH ≤ 1000000000 := by
 rw [hg, KJ, List.map_drop]
 have e : ((bs.map Tr.er).map Sh.gH).drop (bs.length - 1 - i) = (bs[bs.length - 1 - i]).er.gH :: ((bs.map Tr.er).map Sh.gH).drop (bs.length - i) := by
  rw [List.drop_eq_getElem_cons (by simpa using h), List.getElem_map, List.getElem_map, show bs.length - 1 - i + 1 = bs.length - i by omega]
 have := D9 ((bs.map Tr.er).map Sh.gH) (bs.length - 1 - i)
 rw [e, List.sum_cons] at this
 omega
theorem B9 {X : Nat → Prop} {w : World} {bh bc : Nat} {bits c0 : Int} {n b : Tr} {k : List UInt8} {d : Nat} (hX : cY X w) (eY : aN w bc 213 ([.int .i64 c0])) (bU : aJ (fun c_ => X c_ ∨ c_ = bc) (fQ bh bc bits) w) (dI : aJ (fun c_ => X c_ ∨ c_ = bc) (cW bits n) w) (fU : aJ (fun c_ => X c_ ∨ c_ = bc) (cW bits b) w) (jY : aJ (fun c_ => X c_ ∨ c_ = bc) (aZ) w) (bS : 0 ≤ bits ∧ bits ≤ 256) (hk : k.length = 32) (hd : d < 256) (SO : n.er.gH + b.er.gH ≤ 1000000000) :
  bC prog 136 [.pointer (some ⟨bh, 0, none⟩), n.ptr, b.ptr, .agg (kc k).toArray, .int .i64 (d : Int)].toArray w fun v w' => ∃ (T : Tr) (m : Int), v = T.ptr ∧ T.er = G3 k d n.er b.er ∧ Out (· = bc) w w' ∧ aN w' bc 213 [.int .i64 m] ∧ aJ (fun c => X c ∨ c = bc) (cW bits T) w' := by
 refine bC.aH (N := 23) func136 rfl rfl (by simp) ?_
 have H := ((((St.dG (b := bc) (t := 213) (l := [.int .i64 c0]) hX eY).add (cC jY)).add (cC fU)).add (cC dI)).add (cC bU)
 refine WE.aA ?_
 refine WL.box (l := kc k) H rfl rfl rfl ?_
 intro b8 w1 H
 refine WL.as rfl rfl (WL.nil (WE.seq (WE.aA ?_)))
 refine WL.bE rfl cZ rfl rfl (aN.aF (H.l 0 rfl) (aK.all _) rfl) (cK cL (by simp only [aS, aX, aB]; omega)) ?_
 refine WL.mv rfl rfl ?_
 refine WL.call FR rfl (jZ (k := k) (d := d) H.aR  (by assumption) (by assumption)) ?_
 rintro _ w2 ⟨rfl, hO⟩
 replace H := H.out hO
 refine WL.pv (PV.eql rfl rfl rfl) rfl (WL.nil ?_)
 refine WE.cond rfl (fun rT => ?_) (fun rT => ?_)
 ·
  try simp only [bW] at rT
  have zG : bI k d = 0 := by omega
  refine WE.aA (WL.mv rfl rfl (WL.mv rfl rfl (WL.mv rfl rfl ?_)))
  refine WL.call FV rfl (y8 (l := n) (r := b) (bits := bits) H.aR (H.o 0 rfl) (by exact H.aO 0 rfl 0 rfl) (by exact H.aO 0 rfl 1 rfl) (by exact H.aO 0 rfl 2 rfl) (by exact H.aO 0 rfl 3 rfl) bS (by omega)) ?_
  rintro _ w3 ⟨aKl, aKN, rfl, aFv, hO, hB, hR⟩
  replace H := H.dH 0 rfl hO hB hR
  refine WL.as rfl rfl (WL.nil (WE.ret ⟨[_], _, .nil _, ⟨rfl, trivial⟩, ?_⟩))
  exact ⟨aKl, _, rfl, aFv.trans (if_pos zG).symm, H.cR, H.o 0 rfl, H.fV (H.bK 0 rfl)⟩
 ·
  try simp only [bW] at rT
  have zG : bI k d ≠ 0 := by omega
  refine WE.skip (WE.aA (WL.mv rfl rfl (WL.mv rfl rfl (WL.mv rfl rfl ?_))))
  refine WL.call FV rfl (y8 (l := b) (r := n) (bits := bits) H.aR (H.o 0 rfl) (by exact H.aO 0 rfl 0 rfl) (by exact H.aO 0 rfl 2 rfl) (by exact H.aO 0 rfl 1 rfl) (by exact H.aO 0 rfl 3 rfl) bS (by omega)) ?_
  rintro _ w4 ⟨aKj, aKM, rfl, aFt, hO, hB, hR⟩
  replace H := H.dH 0 rfl hO hB hR
  refine WL.as rfl rfl (WL.nil (WE.ret ⟨[_], _, .nil _, ⟨rfl, trivial⟩, ?_⟩))
  exact ⟨aKj, _, rfl, aFt.trans (if_neg zG).symm, H.cR, H.o 0 rfl, H.fV (H.bK 0 rfl)⟩
theorem aDj {X : Nat → Prop} {w : World} {bh bc aa ab : Nat} {bits c0 : Int} {q u k vv : List UInt8} {sa sb : Value} {d : Nat} (hX : cY X w) (eY : aN w bc 213 ([.int .i64 c0])) (bU : aJ (fun c_ => X c_ ∨ c_ = bc) (fQ bh bc bits) w) (dI : aJ (fun c_ => X c_ ∨ c_ = bc) (cW bits (Tr.leaf aa q u sa)) w) (fU : aJ (fun c_ => X c_ ∨ c_ = bc) (cW bits (Tr.leaf ab k vv sb)) w) (jY : aJ (fun c_ => X c_ ∨ c_ = bc) (aZ) w) (bS : 0 ≤ bits ∧ bits ≤ 256) (hq : q.length = 32) (hk : k.length = 32) (hdc : d ≤ fN q k) (aJf : fN q k < 256) :
  bC prog 138 [.pointer (some ⟨bh, 0, none⟩), (Tr.leaf aa q u sa).ptr, (Tr.leaf ab k vv sb).ptr, .int .i64 (d : Int)].toArray w fun v w' => ∃ (T : Tr) (m : Int), v = T.ptr ∧ T.er = (vC q (.leaf q u) (.leaf k vv) (fN q k - d) d) ∧ Out (· = bc) w w' ∧ aN w' bc 213 [.int .i64 m] ∧ aJ (fun c => X c ∨ c = bc) (cW bits T) w' := by
 refine bC.aH (N := 40) func138 rfl rfl (by simp) ?_
 have H := ((((St.dG (b := bc) (t := 213) (l := [.int .i64 c0]) hX eY).add (cC jY)).add (cC fU)).add (cC dI)).add (cC bU)
 have hvu := fY bits u
 have hvv := fY bits vv
 refine WE.aA (WL.as rfl rfl (WL.nil (WE.aA (WL.mv rfl rfl ?_))))
 refine WL.call FT rfl (show bC _ _ _ _ (fun v w' => v = .agg (kc q ++ kc (nC bits u)).toArray ∧ Out Nil _ w') from nB (T := (Tr.leaf aa q u sa)) (bits := bits) H.aR (H.bK 1 rfl)) ?_
 rintro _ w1 ⟨rfl, hO⟩
 replace H := H.out hO
 refine WL.pv (PV.lK rfl kH rfl (eG.agg cZ (cK cL (by simp only [aS, aX, aB]; omega)) (aK.l (aK.all _)))) rfl ?_
 refine WL.alloc H rfl qY rfl ?_
 intro b9 w2 H
 refine WL.aW H 0 rfl rfl rfl (new := kc q) rfl (cK cL (by simp only [aS, aX, aB]; omega)) (bG _) (Laid.at (Laid.all (by simp only [aS, aX, aB]; omega)) rfl) rfl ?_
 intro w3 H
 refine WL.nil ?_
 refine WE.bH (.take 0 (.take 1 (.aG 2 (.take 3 (.aG 4 (.take 5 .done)))))) mixed (by kernel_rfl) ?_
 replace H := H.out (Out.drew _)
 refine WP.dN rfl rfl rfl cZ rfl (aN.aF (H.l 0 rfl) (aK.all _) rfl) (cK cL (by simp only [aS, aX, aB]; omega)) ?_
 refine WP.mv rfl rfl rfl (WP.aG rfl ?_)
 refine WL.call FT rfl (show bC _ _ _ _ (fun v_ w' => v_ = .agg (kc k ++ kc (nC bits vv)).toArray ∧ Out Nil _ w') from nB (T := (Tr.leaf ab k vv sb)) (bits := bits) H.aR (H.bK 2 rfl)) ?_
 rintro _ w4 ⟨rfl, hO⟩
 replace H := H.out hO
 refine WL.nil ⟨(fa (rk hO) c5), ?_⟩
 refine WP.aC rfl rfl (PV.lK rfl kH rfl (eG.agg cZ (cK cL (by simp only [aS, aX, aB]; omega)) (aK.l (aK.all _)))) ?_
 refine WP.aG rfl ?_
 refine WL.call TJ rfl (zB (a := q) (b := k) H.aR  (by assumption) (by assumption)) ?_
 rintro _ w5 ⟨rfl, hO⟩
 replace H := H.out hO
 refine WL.nil ⟨(fa (nw 4 0) c5), ?_⟩
 refine WP.as rfl rfl rfl (WP.done (WE.aA (WL.mv rfl rfl (WL.mv rfl rfl (WL.mv rfl rfl ?_)))))
 refine WL.bE rfl cZ rfl rfl (aN.aF (H.l 0 rfl) (aK.all _) rfl) (cK cL (by simp only [aS, aX, aB]; omega)) ?_
 refine WL.mv rfl rfl ?_
 refine WL.call TM rfl (B9 (n := (Tr.leaf aa q u sa)) (b := (Tr.leaf ab k vv sb)) (k := q) (d := fN q k) (bits := bits) H.aR (H.o 0 rfl) (by exact H.aO 0 rfl 0 rfl) (by exact H.aO 0 rfl 1 rfl) (by exact H.aO 0 rfl 2 rfl) (by exact H.aO 0 rfl 3 rfl) bS hq aJf (by show 1 + 1 ≤ _; omega)) ?_
 rintro _ w6 ⟨aKi, aIz, rfl, aFs, hO, hB, hR⟩
 replace H := H.dH 0 rfl hO hB hR
 refine WL.as rfl rfl (WL.nil (WE.seq (WE.aA (WL.mv rfl rfl ?_))))
 refine WL.pv (PV.eq (v' := .int .i64 (((fN q k - 0 : Nat) : Int) - 1)) (PV.gC rfl rfl rfl (by omega) (by omega)) rfl) rfl ?_
 refine WL.as rfl rfl (WL.nil (WE.block ?_))
 refine WE.loop (α := Nat × Tr × Int) (rg [(11, 2), (29, 10)]) (fun g => [(11, g.2.1.ptr), (12, .int .i64 (((fN q k - g.1 : Nat) : Int) - 1))]) (fun g wl => g.1 ≤ fN q k - d ∧ g.2.1.er = (vC q (.leaf q u) (.leaf k vv) g.1 (fN q k - g.1)) ∧ St X w wl [aP.blk bc 213 [.int .i64 g.2.2]] [aP.blk b9 24 (kc q)] [cW bits g.2.1, fQ bh bc bits, cW bits (Tr.leaf aa q u sa), cW bits (Tr.leaf ab k vv sb), aZ]) (fun g => fN q k - d - g.1) (0, aKi, aIz) ⟨rfl, rfl, trivial⟩ ⟨Nat.zero_le _, aFs, H⟩ ?_
 intro ⟨f, Tf, c⟩ γ0 w7 hI
 try dsimp only at hI
 obtain ⟨hf, hTf, H⟩ := hI
 refine WE.seq (WE.aA (WL.mv rfl rfl (WL.mv rfl rfl (WL.pv (PV.geq rfl rfl rfl) rfl (WL.nil ?_)))))
 refine WE.cond rfl (fun kU => ?_) (fun kU => ?_)
 ·
  try simp only [bW] at kU
  have hlt : f < fN q k - d := by omega
  have PJ : ((fN q k - f : Nat) : Int) - 1 = ((fN q k - f - 1 : Nat) : Int) := by omega
  rw [PJ]
  refine WE.skip (WE.seq (WE.block (WE.dY (WL.mv rfl rfl (WL.mv rfl rfl ?_)))))
  refine WL.bE rfl cZ rfl rfl (aN.aF (H.l 0 rfl) (aK.all _) rfl) (cK cL (by simp only [aS, aX, aB]; omega)) ?_
  refine WL.mv rfl rfl ?_
  refine WL.call TM rfl (B9 (n := Tf) (b := .nil) (k := q) (d := fN q k - f - 1) (bits := bits) H.aR (H.o 0 rfl) (by exact H.aO 0 rfl 1 rfl) (by exact H.aO 0 rfl 0 rfl) (by exact fun _ _ => trivial) (by exact H.aO 0 rfl 4 rfl) bS hq (by omega) (by rw [hTf, uH]; show 2 + 0 ≤ _; omega)) ?_
  rintro _ w8 ⟨aKh, aIx, rfl, aFp, hO, hB, hR⟩
  replace H := H.dH 0 rfl hO hB hR
  refine WL.as rfl rfl (WL.nil (WE.dY (WL.mv rfl rfl ?_)))
  refine WL.pv (PV.eq (v' := .int .i64 (((fN q k - (f + 1) : Nat) : Int) - 1)) (PV.gC rfl rfl rfl (by omega) (by omega)) (by congr 1)) rfl ?_
  refine WL.as rfl rfl (WL.nil ?_)
  exact ⟨(f + 1, aKh, aIx), (by repeat (first | with_reducible exact bM.refl _ _ | refine bM.dD rfl ?_ | refine bM.bY rfl ?_ | refine bM.bV rfl ?_)), ⟨rfl, rfl, trivial⟩, rfl, ⟨by dsimp only; omega, by dsimp only; rw [aFp, hTf, show fN q k - f = fN q k - f - 1 + 1 by omega]; exact congrArg (fun z => vC q _ _ (f + 1) z) (by omega), H.uB [0, 2, 3, 4, 5]⟩, (by dsimp only; omega)⟩
 ·
  try simp only [bW] at kU
  have hf_ : f = fN q k - d := by omega
  refine WE.exit (WE.aA (WL.mv rfl rfl (WL.as rfl rfl (WL.nil (WE.ret ⟨[_], _, .nil _, ⟨rfl, trivial⟩, ?_⟩)))))
  refine ⟨Tf, c, rfl, ?_, H.cR, H.o 0 rfl, H.fV (H.bK 0 rfl)⟩
  rw [hTf, hf_]; exact congrArg (vC q _ _ (fN q k - d)) (by omega)
def aHt (bs : List Tr) (j : Nat) (xs : List Value) (_ : World) : Prop := ∃ h : bs.length - 1 - j < bs.length, xs = [.int .i64 ((bs.length - 1 - j : Nat) : Int), (bs[bs.length - 1 - j]).ptr]
def aDD (bits : Int) (bs : List Tr) (w : World) : Prop := ∀ b ∈ bs, cW bits b w
theorem B1 {w : World} {base n : Nat} {e : TypeId} {v : Value} {xs : List Value} (h : w.ownsRow base e 1 v n xs) : kK v xs w := by
 have hl := h.1
 unfold kK
 have := cN.dJ h
 rw [show n = xs.length by omega] at this
 exact this
theorem aC1 {bits : Int} {T : Tr} {k : List UInt8} {d n : Nat} {w : World} (h : cW bits T w) : aDD bits (oI T k d n) w := fun b hb => by
 obtain ⟨j, _, rfl⟩ := List.mem_map.1 hb
 exact (h.iX j).beside
theorem kK.get {w : World} {s : Value} {bs : List Tr} (h : kK s (bs.map Tr.ptr) w) (i : Nat) (hi : i < bs.length) : dA w (jN s (i * 1)) [(bs[i]).ptr] := by
 have := kK.rd h i (by simpa using hi)
 rwa [List.getElem_map] at this
theorem J8 {X : Nat → Prop} {w : World} {s : Value} {cs : List Value} (hX : cY X w) (bU : aJ X (kK s cs) w) :
  bC prog 135 [s].toArray w fun r w' => ∃ b1, r = .func (.func 171) [].toArray [.pointer (some ⟨b1, 0, none⟩)].toArray ∧ Out Nil w w' ∧ aJ X (fun w => dA w ⟨b1, 0, none⟩ [s]) w' := by
 refine bC.aH (N := 4) func135 rfl rfl (by simp) ?_
 have H := (St.begin hX).add (cE bU)
 refine WE.aA ?_
 refine WL.box (l := [s]) H rfl (cN.cells (H.p 0 rfl)) rfl ?_
 intro b1 w1 H
 refine WL.as rfl rfl (WL.nil (WE.aA (WL.pv (PV.makeFunc rfl) rfl (WL.as rfl rfl (WL.nil (WE.ret ⟨[_], _, .nil _, ⟨rfl, trivial⟩, ?_⟩))))))
 replace H := H.freeze (i := 0) rfl
 exact ⟨_, rfl, H.aL, H.gF ((H.bK 0 rfl).imp fun _ h => h.rd)⟩
theorem OP {C : Nat → Prop} {w : World} {b1 : Nat} {s : Value} {bs : List Tr} (hC : ∀ b, C b → b < w.heap.size) (bU : aJ C (fun w => dA w ⟨b1, 0, none⟩ [s]) w) (dI : aJ C (kK s (bs.map Tr.ptr)) w) (hlen : bs.length ≤ 1000000) : U9 prog 171 [] [.pointer (some ⟨b1, 0, none⟩)] (bs.length) (aHt bs) Nil C w := by
 intro f J Jx hst j3 NO iH hf
 show bC prog 171 ([f, .pointer (some ⟨b1, 0, none⟩)] : List Value).toArray w _
 refine bC.aH (N := 19) func171 rfl rfl (by simp) ?_
 have H := ((St.begin (X := C) hC).add (cE dI)).add (cE bU)
 have zS : (bs.map Tr.ptr).length = bs.length := List.length_map ..
 refine WE.aA (WL.aY rfl OT rfl rfl (H.p 0 rfl) (WL.pv (PV.dR (H.p 1 rfl : kK s (bs.map Tr.ptr) _) QK rfl) rfl ?_))
 refine WL.pv (PV.eq (v' := .int .i64 (((bs.length - 0 : Nat) : Int) - 1)) (PV.gC rfl rfl rfl (by omega) (by omega)) (by rw [zS]; rfl)) rfl ?_
 refine WL.as rfl rfl (WL.nil (WE.block ?_))
 refine WE.loop (α := Nat) (rg [(3, 1), (7, 12)]) (fun j => [(3, .int .i64 (((bs.length - j : Nat) : Int) - 1))]) (fun j wl => j ≤ bs.length ∧ J Nil j wl ∧ St C wl wl [] [] [fun w => dA w ⟨b1, 0, none⟩ [s], kK s (bs.map Tr.ptr)]) (fun j => bs.length - j) 0 ⟨rfl, trivial⟩ ⟨Nat.zero_le _, hst Nil w (Out.refl _ _) (fun _ h => h.elim) (fun _ h => h), H⟩ ?_
 intro j γ0 w1 hI
 try dsimp only at hI
 obtain ⟨hj, hJ, H⟩ := hI
 have CN : ∃ HI, HI = w1 := ⟨_, rfl⟩
 obtain ⟨HI, CN⟩ := CN
 rw [← CN] at hJ H ⊢
 clear CN
 refine WE.seq (WE.aA (WL.mv rfl rfl (WL.pv (PV.geq rfl rfl rfl) rfl (WL.nil ?_))))
 refine WE.cond rfl (fun lT => ?_) (fun lT => ?_)
 ·
  try simp only [bW] at lT
  have hlt : j < bs.length := by omega
  have PJ : ((bs.length - j : Nat) : Int) - 1 = ((bs.length - 1 - j : Nat) : Int) := by omega
  rw [PJ]
  refine WE.skip (WE.seq (WE.block (WE.aA (WL.mv rfl rfl (WL.mv rfl rfl (WL.aY rfl OT rfl rfl (H.p 0 rfl) (WL.mv rfl rfl ?_)))))))
  refine WL.pv (PV.eA rfl (H.p 1 rfl : kK s (bs.map Tr.ptr) _) QK l5 rfl rfl (by omega) (by omega)) rfl (WL.aY rfl iL rfl rfl (kK.get (H.p 1 rfl) (bs.length - 1 - j) (by omega)) ?_)
  refine WL.iW rfl rfl (iH Nil j _ HI _ (by omega) hJ H.aL (aJ.pure ⟨by omega, rfl⟩)) ?_
  rintro _ w2 ⟨hk, ⟨rfl, hJ⟩ | ⟨rfl, hJ⟩⟩
  ·
   replace H := St.JU (Ps := [fun w => dA w ⟨b1, 0, none⟩ [s], kK s (bs.map Tr.ptr)]) hC hk (fun _ h => h.elim) (by intro p hp; simp at hp; rcases hp with rfl | rfl <;> assumption)
   refine WL.pv (PV.not rfl rfl) rfl (WL.nil (WE.jB rfl (WE.skip (WE.dY (WL.mv rfl rfl ?_)))))
   refine WL.pv (PV.eq (v' := .int .i64 (((bs.length - (j + 1) : Nat) : Int) - 1)) (PV.gC rfl rfl rfl (by omega) (by omega)) (by congr 1; omega)) rfl ?_
   refine WL.as rfl rfl (WL.nil ?_)
   exact ⟨j + 1, (by repeat (first | with_reducible exact bM.refl _ _ | refine bM.dD rfl ?_ | refine bM.bY rfl ?_ | refine bM.bV rfl ?_)), ⟨rfl, trivial⟩, rfl, ⟨by omega, hJ, H⟩, (by omega)⟩
  ·
   refine WL.pv (PV.not rfl rfl) rfl (WL.nil (WE.lN rfl (WE.ret ?_)))
   refine ⟨[], _, .nil _, trivial, ?_⟩
   exact ⟨rfl, Nil, .inr hJ⟩
 ·
  try simp only [bW] at lT
  have hj_ : j = bs.length := by omega
  refine WE.exit ?_
  refine ⟨[], _, .nil _, trivial, ?_⟩
  subst hj_
  exact ⟨rfl, Nil, .inl (j3 _ _ _ _ hJ H.aL)⟩
theorem aBE {X : Nat → Prop} {w : World} {bh bc b9 b4 b6 b7 : Nat} {bits c0 : Int} {E : Tr} {bs : List Tr} {k : List UInt8} {s sl : Value} {d : Nat} (hX : cY X w) (eY : aN w bc 213 ([.int .i64 c0])) (bU : aJ (fun c_ => X c_ ∨ c_ = bc) (fQ bh bc bits) w) (dI : aJ (fun c_ => X c_ ∨ c_ = bc) (cW bits E) w) (fU : aJ (fun c_ => X c_ ∨ c_ = bc) (aDD bits bs) w) (jY : aJ (fun c_ => X c_ ∨ c_ = bc) (kK sl (bs.map Tr.ptr)) w) (o9 : aJ (fun c_ => X c_ ∨ c_ = bc) (fun w => dA w ⟨b9, 0, none⟩ [sl]) w) (tP : aJ (fun c_ => X c_ ∨ c_ = bc) (fun w => dA w ⟨b4, 0, none⟩ [.pointer (some ⟨bh, 0, none⟩)]) w) (DP : aJ (fun c_ => X c_ ∨ c_ = bc) (fun w => dA w ⟨b6, 0, none⟩ (kc k ++ [s])) w) (hf7 : aJ (fun c_ => X c_ ∨ c_ = bc) (fun w => dA w ⟨b7, 0, none⟩ [.int .i64 (d : Int)]) w) (hf8 : aJ (fun c_ => X c_ ∨ c_ = bc) (aZ) w) (bS : 0 ≤ bits ∧ bits ≤ 256) (hk : k.length = 32) (hd : d + bs.length ≤ 256) (SO : E.er.gH + ((bs.map Tr.er).map Sh.gH).sum ≤ 1000000000) :
  bC prog 134 [E.ptr, .pointer (some ⟨b9, 0, none⟩), .pointer (some ⟨b4, 0, none⟩), .pointer (some ⟨b6, 0, none⟩), .pointer (some ⟨b7, 0, none⟩)].toArray w fun v w' => ∃ (T : Tr) (m : Int), v = T.ptr ∧ T.er = V3 k d (bs.map Tr.er) E.er ∧ Out (· = bc) w w' ∧ aN w' bc 213 [.int .i64 m] ∧ aJ (fun c => X c ∨ c = bc) (cW bits T) w' := by
 refine bC.aH (N := 23) func134 rfl rfl (by simp) ?_
 have H := (((((((((St.dG (b := bc) (t := 213) (l := [.int .i64 c0]) hX eY).add (cC hf8)).add (cC hf7)).add (cC DP)).add (cC tP)).add (cC o9)).add (cC jY)).add (cC fU)).add (cC dI)).add (cC bU)
 refine WE.aA ?_
 refine WL.box (l := [E.ptr]) H rfl rfl rfl ?_
 intro b5 w1 H
 refine WL.as rfl rfl (WL.nil (WE.seq (WE.aA (WL.aY rfl OT rfl rfl (H.p 4 rfl) ?_))))
 refine WL.call aGQ rfl (J8 (s := sl) (cs := bs.map Tr.ptr) H.aR (by exact H.bK 3 rfl) ) ?_
 rintro _ w2 ⟨aHs, rfl, hO, hR⟩
 replace H := (H.out hO).add hR
 refine WL.nil (WE.block ?_)
 replace H := H.uB [0, 1, 2, 3, 4, 5, 6, 7, 8, 9]
 replace H := H.wD
 refine WE.xF (α := Tr × Int) (fun i g => g.1.er = V3 k (d + (bs.length - i)) ((bs.map Tr.er).drop (bs.length - i)) E.er) (fun i g => [aP.blk bc 213 [.int .i64 g.2]]) (fun i g => [aP.blk b5 39 [g.1.ptr]]) (fun i g => [fun w => dA w ⟨aHs, 0, none⟩ [sl], fQ bh bc bits, cW bits g.1, aDD bits bs, kK sl (bs.map Tr.ptr), fun w => dA w ⟨b9, 0, none⟩ [sl], fun w => dA w ⟨b4, 0, none⟩ [.pointer (some ⟨bh, 0, none⟩)], fun w => dA w ⟨b6, 0, none⟩ (kc k ++ [s]), fun w => dA w ⟨b7, 0, none⟩ [.int .i64 (d : Int)], aZ]) (fun _ _ => False) (fun _ _ => []) (fun _ _ => []) (fun _ _ => []) (E, c0) H rfl aGw (fun W0 hO => OP (bs := bs) (H.UF hO) (H.rZ hO 0 rfl) (H.rZ hO 4 rfl) (by omega)) (by rintro _ _ _ ⟨_, rfl⟩; rfl) ⟨by show E.er = _; rw [Nat.sub_zero, List.drop_eq_nil_of_le (by simp)]; rfl, rfl, rfl, rfl⟩ ?_ ?_ ?_
 ·
  intro i g xs_ l_ d_ o_ T_ sc_ w3 jI tC NW
  obtain ⟨NR, rfl⟩ := NW
  have hud := QA k d (bs.map Tr.er) E.er (bs.length - 1 - i) (by simpa using NR)
  rw [List.getElem_map] at hud
  have I5 : g.1.er.gH + (bs[bs.length - 1 - i]).er.gH ≤ 1000000000 := MV SO tC NR jI
  refine WE.aA (WL.as rfl rfl (WL.nil (WE.dY (WL.as rfl rfl (WL.nil ?_)))))
  refine ⟨rfl, rfl, rfl, ?_⟩
  intro w4 H
  refine WE.block (WE.dY (WL.aY rfl vX rfl rfl (H.p 7 rfl) (WL.aY rfl iL rfl rfl (aN.aF (H.l 0 rfl) (aK.all _) rfl) (WL.mv rfl rfl (WL.pv (PV.fieldAddr rfl gW rfl) rfl ?_)))))
  refine WL.bE rfl cZ rfl rfl (dA.aF (H.p 8 rfl) (aK.l (aK.all (kc k))) rfl) (cK cL (by simp only [aS, aX, aB]; omega)) ?_
  refine WL.aY rfl pR rfl rfl (H.p 9 rfl) (WL.mv rfl rfl ?_)
  refine WL.pv (PV.eq (v' := .int .i64 ((d + (bs.length - 1 - i) : Nat) : Int)) (PV.bT rfl rfl rfl (by omega) (by omega)) rfl) rfl ?_
  refine WL.call TM rfl (B9 (n := g.1) (b := bs[bs.length - 1 - i]) (k := k) (d := d + (bs.length - 1 - i)) (bits := bits) H.aR (H.o 0 rfl) (by exact H.aO 0 rfl 2 rfl) (by exact H.aO 0 rfl 3 rfl) (by exact (H.aO 0 rfl 4 rfl).imp fun _ h => h _ (List.getElem_mem NR)) (by exact H.aO 0 rfl 10 rfl) bS hk (by omega) I5) ?_
  rintro _ w5 ⟨aKk, aIA, rfl, aFu, hO, hB, hR⟩
  replace H := H.dH 0 rfl hO hB hR
  refine WL.aW H 0 rfl rfl rfl (new := _) rfl (by exact l5) (bA _ rfl) (Laid.at (Laid.all (by simp only [aS, aX, aB])) rfl) rfl ?_
  intro w6 H
  refine WL.nil ?_
  replace H := H.uB [2, 3, 0, 5, 6, 7, 8, 9, 10, 11, 12]
  exact ⟨(aKk, aIA), (by dsimp only; rw [aFu, tC, show bs.length - (i + 1) = bs.length - 1 - i by omega, hud, show bs.length - i = bs.length - 1 - i + 1 by omega]), H⟩
 ·
  intro g T3 w7 tC H
  refine WE.aA (WL.aY rfl iL rfl rfl (aN.aF (H.l 1 rfl) (aK.all _) rfl) (WL.as rfl rfl (WL.nil (WE.ret ?_))))
  (obtain ⟨w8, uL, H⟩ := H.tY 0 rfl)
  refine ⟨[_], _, (uL _ (.nil _)), ⟨rfl, trivial⟩, ?_⟩
  refine ⟨g.1, g.2, rfl, ?_, H.cR, H.o 0 rfl, H.fV (H.bK 2 rfl)⟩
  rw [tC, Nat.sub_self]; rfl
 ·
  intro e_ g T3 w9 PJ tC H
  exact tC.elim
theorem BD (F : Tr) (h : F.er.kind ≠ 2) : F = .nil ∨ ∃ a q u s, F = .leaf a q u s := by
 cases F with
 | nil => exact .inl rfl
 | leaf a q u s => exact .inr ⟨a, q, u, s, rfl⟩
 | inner => exact absurd rfl h
theorem DD {k : List UInt8} {d : Nat} {T : Tr} (e : Sh) (hc : T.er.gH ≤ 100000000) (he : e.gH ≤ 2) : e.gH + (((oI T k d (T.dp k d)).map Tr.er).map Sh.gH).sum ≤ 1000000000 := by
 have := ZP k _ d T rfl
 rw [List.map_map]
 show e.gH + ((oI T k d (T.dp k d)).map fun b => b.er.gH).sum ≤ _
 omega
theorem xH {k v : List UInt8} {d : Nat} {T : Tr} {e : Sh} (he : sM k v (T.dp k d + d) (T.iX k d (T.dp k d)).er = e) : V3 k d ((oI T k d (T.dp k d)).map Tr.er) e = sM k v d T.er := by
 rw [XF k v _ d T rfl, he]
theorem RP {T : Tr} {m : List En} {k q u : List UInt8} {d a : Nat} {s : Value} (hT : T.er = grow d m) (hp : Pm d m) (hn : vY d m k) (hF : T.iX k d (T.dp k d) = .leaf a q u s) : T.dp k d + d ≤ fN q k := by
 have h : ∀ i, i ≤ T.dp k d → vY (i + d) (GI k d m i) k := by
  intro i
  induction i with
  | zero => intro _; rw [Nat.zero_add]; exact hn
  | succ i ih =>
   intro hi
   have hl := UO (k := k) hT hp (i := i) (by omega)
   have := (ih (by omega)).part hl.2
   rwa [show i + d + 1 = i + 1 + d by omega] at this
 have h1 := h _ (Nat.le_refl _)
 have h2 := GH (k := k) hT hp _ (Nat.le_refl _)
 have hl := JQ (k := k) hT hp
 rw [hF] at h2
 match hm : GI k d m (T.dp k d), hl with
 | [], _ => rw [hm, eF] at h2; cases h2.1
 | [e], _ =>
  rw [hm, dO] at h2
  have e1 : (Sh.leaf q u) = Sh.leaf e.k e.v := h2.1
  injection e1 with e1 _
  rw [hm] at h1
  rw [e1]
  exact h1 e (by simp)
 | _ :: _ :: _, h => simp at h
theorem XG {X : Nat → Prop} {w : World} {bh bc : Nat} {bits c0 : Int} {T : Tr} {M : List En} {k lv : List UInt8} {s : Value} {d : Nat} (hX : cY X w) (eY : aN w bc 213 ([.int .i64 c0])) (bU : aJ (fun c_ => X c_ ∨ c_ = bc) (fQ bh bc bits) w) (dI : aJ (fun c_ => X c_ ∨ c_ = bc) (cW bits T) w) (fU : aJ (fun c_ => X c_ ∨ c_ = bc) (aZ) w) (bS : 0 ≤ bits ∧ bits ≤ 256) (hk : k.length = 32) (rR : lv.length ≤ 1000000) (hw : aJ (fun c => c = bc) (bJ s lv) w) (hT : T.er = grow d M) (oA : Pm d M) (hs : j7 M) (G4 : vY d M k) (zS : M.length ≤ 100000000) :
  bC prog 90 [.pointer (some ⟨bh, 0, none⟩), T.ptr, .agg (kc k ++ [s]).toArray, .int .i64 (d : Int)].toArray w fun v w' => ∃ (T : Tr) (m : Int), v = T.ptr ∧ T.er = grow d (fS M ⟨k, s, lv⟩) ∧ Out (· = bc) w w' ∧ aN w' bc 213 [.int .i64 m] ∧ aJ (fun c => X c ∨ c = bc) (cW bits T) w' := by
 refine bC.aH (N := 59) func90 rfl rfl (by simp) ?_
 have H := (((St.dG (b := bc) (t := 213) (l := [.int .i64 c0]) hX eY).add (cC fU)).add (cC dI)).add (cC bU)
 have hs1 : s.oneCell' = true := cN.fX hw.here
 have hfit := yC oA
 rw [← hT] at hfit
 have DQ := Tr.yM (k := k) _ d T rfl hfit oA.le
 have I5 : T.er.gH = M.length := by rw [hT]; exact oA.gH
 have hFk := Tr.qW (k := k) _ d T rfl
 refine WE.aA ?_
 refine WL.box (l := [.pointer (some ⟨bh, 0, none⟩)]) H rfl (rfl) rfl ?_
 intro b4 w1 H
 refine WL.box (l := kc k ++ [s]) H rfl (rfl) rfl ?_
 intro b6 w2 H
 refine WL.box (l := [.int .i64 (d : Int)]) H rfl (rfl) rfl ?_
 intro b7 w3 H
 refine WL.as rfl rfl (WL.nil (WE.aA ?_))
 refine WL.alloc H rfl aDF rfl ?_
 intro b9 w4 H
 replace H := H.kS 39 1
 refine WL.nil (WE.aA (WL.aY rfl pR rfl rfl (aN.aF (H.l 2 rfl) (aK.all _) rfl) (WL.as rfl rfl (WL.nil (WE.seq (WE.block ?_))))))
 refine WE.loop (α := Nat × Value) (rg [(1, 1), (10, 2), (15, 19)]) (fun p => [(1, (T.iX k d p.1).ptr), (10, .int .i64 ((p.1 + d : Nat) : Int))]) (fun p wl => p.1 ≤ T.dp k d ∧ St X w wl [aP.blk bc 213 [.int .i64 c0]] [aP.hU w.heap.size p.2 39 1 p.1 ((oI T k d p.1).map Tr.ptr), aP.blk b9 86 [p.2], aP.blk b7 3 [.int .i64 (d : Int)], aP.blk b6 111 (kc k ++ [s]), aP.blk b4 37 [.pointer (some ⟨bh, 0, none⟩)]] [fQ bh bc bits, cW bits T, aZ]) (fun p => T.dp k d - p.1) (0, .slice none 0 0) ⟨rfl, by show Value.int .i64 _ = Value.int .i64 _; rw [Nat.zero_add], trivial⟩ ⟨Nat.zero_le _, H⟩ ?_
 intro ⟨i, q⟩ γ0 w5 hI
 try dsimp only at hI
 obtain ⟨hi, H⟩ := hI
 refine WE.seq (WE.aA (WL.mv rfl rfl ?_))
 refine WL.call lX rfl (eX (T := T.iX k d i) (bits := bits) H.aR (by exact (H.bK 1 rfl).imp fun _ h => h.iX i)) ?_
 rintro _ w6 ⟨rfl, hO⟩
 replace H := H.out hO
 refine WL.pv (PV.eql rfl rfl rfl) rfl (WL.nil ?_)
 refine WE.cond rfl (fun iR => ?_) (fun iR => ?_)
 ·
  try simp only [bW] at iR
  have hlt : i < T.dp k d := by rcases Nat.lt_or_ge i (T.dp k d) with h | h; exact h; exact absurd (show (T.iX k d i).er.kind = 2 by exact iR) (by rw [show i = T.dp k d by omega]; exact hFk)
  have hb2 := dX k (i + d)
  refine WE.skip (WE.seq (WE.block (WE.aA (WL.pv (PV.fieldAddr rfl gW rfl) rfl ?_))))
  refine WL.bE rfl cZ rfl rfl (aN.aF (H.l 3 rfl) (aK.l (aK.all _)) rfl) (cK cL (by simp only [aS, aX, aB]; omega)) ?_
  refine WL.mv rfl rfl ?_
  refine WL.call FR rfl (jZ (k := k) (d := i + d) H.aR  (by assumption) (by omega)) ?_
  rintro _ w7 ⟨rfl, hO⟩
  replace H := H.out hO
  refine WL.as rfl rfl (WL.nil ?_)
  refine WE.bH (.take 0 (.take 1 (.take 2 (.take 3 (.aG 4 (.aG 5 (.aG 6 (.aG 7 .done)))))))) mixed (by kernel_rfl) ?_
  replace H := H.out (Out.drew _)
  refine WP.aM rfl rfl (RV.aV rfl OT rfl) (aN.aF (H.l 1 rfl) (aK.all _) rfl) (WP.mv rfl rfl rfl (WP.mv rfl rfl rfl ?_))
  refine WP.aC rfl rfl (PV.eq (v' := .int .i64 ((1 - bI k (i + d) : Nat) : Int)) (PV.gC rfl rfl rfl (by omega) (by omega)) (by congr 1; omega)) ?_
  refine WP.aG rfl ?_
  refine WL.call N3 rfl (qX (T := T.iX k d i) (bits := bits) (b := 1 - bI k (i + d)) H.aR (by exact (H.bK 1 rfl).imp fun _ h => h.iX i)) ?_
  rintro _ w8 ⟨rfl, hO⟩
  replace H := H.out hO
  refine WL.nil ⟨(fa (rk hO) c5), ?_⟩
  refine WP.aG rfl ?_
  refine WL.bB (l0 := [.pointer none]) H rfl W6 (by decide) (cT _ _) (Fl.cons rfl rfl (by simp only [aS, aX, aB]) Laid.head Fl.nil) rfl ?_
  intro b29 w9 H
  refine WL.nil ⟨(fa (fun _ _ => (aN.aF (H.l 2 rfl) (aK.all _) rfl)) c5), ?_⟩
  refine WP.aG rfl ?_
  refine WL.append (m := 1) H 1 W6 (by decide) rfl rfl rfl (cN.bZ (n := 1) (H.l 0 rfl) rfl) (bA _ rfl) (by omega) (by decide) rfl ?_
  intro v30 tM H
  replace H := H.forget 0
  replace H := H.conv (L' := [aP.hU w.heap.size v30 39 1 (i + 1) ((oI T k d (i + 1)).map Tr.ptr), aP.blk b9 86 [q], aP.blk b7 3 [.int .i64 (d : Int)], aP.blk b6 111 (kc k ++ [s]), aP.blk b4 37 [.pointer (some ⟨bh, 0, none⟩)]]) (by rw [ON, List.map_append]; rfl)
  refine WL.nil ⟨(fa (nw 6 0) c5), ?_⟩
  refine WP.aG rfl ?_
  refine WL.aW H 1 rfl rfl rfl (new := [v30]) (cells_one (jE (H.l 0 rfl))) (by exact aDZ) (eE (jE (H.l 0 rfl))) (Laid.at (Laid.all (by simp only [aS, aX, aB])) rfl) rfl ?_
  intro wT H
  refine WL.nil ⟨(fa (nw 7 0) c5), ?_⟩
  refine WP.done (WE.dY (WL.mv rfl rfl (WL.mv rfl rfl ?_)))
  refine WL.call N3 rfl (qX (T := T.iX k d i) (bits := bits) (b := bI k (i + d)) H.aR (by exact (H.bK 1 rfl).imp fun _ h => h.iX i)) ?_
  rintro _ G2 ⟨rfl, hO⟩
  replace H := H.out hO
  refine WL.as rfl rfl (WL.nil (WE.dY (WL.mv rfl rfl ?_)))
  refine WL.pv (PV.eq (v' := .int .i64 ((i + 1 + d : Nat) : Int)) (PV.bT rfl rfl rfl (by omega) (by omega)) (by congr 1; omega)) rfl ?_
  refine WL.as rfl rfl (WL.nil ?_)
  exact ⟨(i + 1, v30), (by repeat (first | with_reducible exact bM.refl _ _ | refine bM.dD rfl ?_ | refine bM.bY rfl ?_ | refine bM.bV rfl ?_)), ⟨rfl, rfl, trivial⟩, rfl, ⟨by dsimp only; omega, H⟩, (by dsimp only; omega)⟩
 ·
  try simp only [bW] at iR
  have hiD : i = T.dp k d := by rcases Nat.lt_or_ge i (T.dp k d) with h | h; exact absurd (Tr.r7 (k := k) i d T h) (by exact iR); omega
  subst hiD
  refine WE.exit ?_
  replace H := ((((H.freeze (i := 0) rfl).freeze (i := 0) rfl).freeze (i := 0) rfl).freeze (i := 0) rfl).freeze (i := 0) rfl
  refine WE.aA (WL.pv (PV.makeFunc rfl) rfl (WL.as rfl rfl (WL.nil (WE.aA (WL.aY rfl vX rfl rfl (aN.aF (H.p 0 rfl) (aK.all _) rfl) ?_)))))
  refine WL.bE rfl oM rfl rfl (aN.aF (H.p 1 rfl) (aK.all _) rfl) (cK fH (by simp only [aS, aX, aB]; omega)) ?_
  refine WL.call aBd rfl (y7 (k := k) (lv := lv) (s := s) (bits := bits) H.aR (H.o 0 rfl) (by exact H.aO 0 rfl 5 rfl) (by exact H.aO 0 rfl 7 rfl) bS rR hk (H.D1 H.mS hw rfl)) ?_
  rintro _ D4 ⟨aLl, aKI, rfl, aFq, hO, hB, hR⟩
  replace H := H.dH 0 rfl hO hB hR
  obtain ⟨a37, s37, rfl⟩ := Tr.sW aFq
  refine WL.as rfl rfl (WL.nil (WE.seq ?_))
  have aFD : (T.iX k d (T.dp k d)).key.length = 32 := cW.gY ((dI.here).iX _)
  have aLe := Tr.aT bits (T.iX k d (T.dp k d))
  refine WE.bH (.take 0 (.aG 1 (.take 2 (.take 3 (.take 4 (.take 7 (.take 8 (.aG 5 (.take 6 (.take 9 (.take 10 .done))))))))))) mixed (by kernel_rfl) ?_
  replace H := H.out (Out.drew _)
  refine WP.mv rfl rfl rfl (WP.aG rfl ?_)
  refine WL.call lX rfl (eX (T := (T.iX k d (T.dp k d))) (bits := bits) H.aR (by exact (H.bK 7 rfl).imp fun _ h => h.iX (T.dp k d))) ?_
  rintro _ KG ⟨rfl, hO⟩
  replace H := H.out hO
  refine WL.nil ⟨c5, ?_⟩
  refine WP.aC rfl rfl (PV.eql rfl rfl rfl) (WP.mv rfl rfl rfl ?_)
  refine WP.split (t := 41) rfl (fun CO => ?_) (fun CO => ?_)
  ·
   refine WP.known (t := 40) (c := true) rfl CO ?_
   try simp only [bW] at CO
   have hFn : (T.iX k d (T.dp k d)) = .nil := by rcases BD (T.iX k d (T.dp k d)) hFk with h | ⟨a, q, u, s, h⟩; exact h; rw [h] at CO; cases CO
   have hend : sM k lv (T.dp k d + d) (T.iX k d (T.dp k d)).er = .leaf k lv := by rw [hFn]; rfl
   refine WP.eD rfl rfl (WP.eD rfl rfl (WP.eD rfl rfl (WP.aG rfl (WL.off rfl ?_))))
   refine WL.nil ⟨c5, ?_⟩
   refine WP.eD rfl rfl (WP.eD rfl rfl (WP.aC rfl rfl (PV.dP rfl rfl rfl) (WP.done (WE.lN rfl (WE.aA (WL.mv rfl rfl (WL.mv rfl rfl ?_)))))))
   refine WL.rD TN rfl rfl (aBE (E := (.leaf a37 k lv s37)) (bs := oI T k d (T.dp k d)) (k := k) (s := s) (sl := q) (d := d) (bits := bits) H.aR (H.o 0 rfl) (by exact H.aO 0 rfl 6 rfl) (by exact H.aO 0 rfl 0 rfl) (by exact (H.aO 0 rfl 7 rfl).imp fun _ h => aC1 h) (by exact (H.aO 0 rfl 5 rfl).imp fun _ h => B1 h) (by exact (H.aO 0 rfl 4 rfl).imp fun _ h => aN.rd h) (by exact (H.aO 0 rfl 1 rfl).imp fun _ h => aN.rd h) (by exact (H.aO 0 rfl 2 rfl).imp fun _ h => aN.rd h) (by exact (H.aO 0 rfl 3 rfl).imp fun _ h => aN.rd h) (by exact H.aO 0 rfl 8 rfl) bS hk (by rw [yS]; omega) (DD (.leaf k lv) (by omega) (by show 1 ≤ 2; omega))) ?_
   rintro _ PD ⟨aDb, aIw, rfl, S7, hO, hB, hR⟩
   replace H := H.dH 0 rfl hO hB hR
   refine WL.as rfl rfl (WL.nil (WE.ret ⟨[_], _, .nil _, ⟨rfl, trivial⟩, ?_⟩))
   refine ⟨aDb, _, rfl, ?_, H.cR, H.o 0 rfl, H.fV (H.bK 0 rfl)⟩
   rw [S7]
   exact (xH hend).trans (hT ▸ xG ⟨k, s, lv⟩ hk oA hs G4)
  ·
   refine WP.known (t := 40) (c := false) rfl CO ?_
   try simp only [bW] at CO
   obtain ⟨af, q_, u_, sf, hFe⟩ : ∃ a q u s, (T.iX k d (T.dp k d)) = .leaf a q u s := by rcases BD (T.iX k d (T.dp k d)) hFk with h | h; rw [h] at CO; exact absurd rfl CO; exact h
   have aEW := RP hT oA G4 hFe
   have V7 : q_.length = 32 := by rw [hFe] at aFD; exact aFD
   have aAT : (T.iX k d (T.dp k d)).key = q_ := by rw [hFe]; rfl
   refine WP.mv rfl rfl rfl (WP.aC rfl rfl (PV.fieldAddr rfl gW rfl) ?_)
   refine WP.dN rfl rfl rfl cZ rfl (aN.aF (H.p 2 rfl) (aK.l (aK.all _)) rfl) (cK cL (by simp only [aS, aX, aB]; omega)) ?_
   refine WP.aG rfl ?_
   refine WL.call FT rfl (nB (T := (T.iX k d (T.dp k d))) (bits := bits) H.aR (by exact (H.bK 7 rfl).imp fun _ h => h.iX (T.dp k d))) ?_
   rintro _ P7 ⟨rfl, hO⟩
   replace H := H.out hO
   refine WL.nil ⟨(fa (rk hO) c5), ?_⟩
   refine WP.aC rfl rfl (PV.lK rfl kH rfl (eG.agg cZ (cK cL (by simp only [aS, aX, aB]; omega)) (aK.l (aK.all _)))) ?_
   refine WP.aC rfl rfl (PV.zW rfl gZ mC gO (by kernel_rfl) rfl rfl (by assumption) (by assumption)) (WP.aC rfl rfl (PV.dF rfl rfl rfl) (WP.done ?_))
   refine WE.cond rfl (fun SR => ?_) (fun SR => ?_)
   ·
    try simp only [bW] at SR
    have hend : sM k lv (T.dp k d + d) (T.iX k d (T.dp k d)).er = .leaf k lv := by rw [hFe]; exact if_pos (aAT ▸ (by exact SR))
    refine WE.aA (WL.mv rfl rfl (WL.mv rfl rfl ?_))
    refine WL.rD TN rfl rfl (aBE (E := (.leaf a37 k lv s37)) (bs := oI T k d (T.dp k d)) (k := k) (s := s) (sl := q) (d := d) (bits := bits) H.aR (H.o 0 rfl) (by exact H.aO 0 rfl 6 rfl) (by exact H.aO 0 rfl 0 rfl) (by exact (H.aO 0 rfl 7 rfl).imp fun _ h => aC1 h) (by exact (H.aO 0 rfl 5 rfl).imp fun _ h => B1 h) (by exact (H.aO 0 rfl 4 rfl).imp fun _ h => aN.rd h) (by exact (H.aO 0 rfl 1 rfl).imp fun _ h => aN.rd h) (by exact (H.aO 0 rfl 2 rfl).imp fun _ h => aN.rd h) (by exact (H.aO 0 rfl 3 rfl).imp fun _ h => aN.rd h) (by exact H.aO 0 rfl 8 rfl) bS hk (by rw [yS]; omega) (DD (.leaf k lv) (by omega) (by show 1 ≤ 2; omega))) ?_
    rintro _ P6 ⟨aDb, aIw, rfl, S7, hO, hB, hR⟩
    replace H := H.dH 0 rfl hO hB hR
    refine WL.as rfl rfl (WL.nil (WE.ret ⟨[_], _, .nil _, ⟨rfl, trivial⟩, ?_⟩))
    refine ⟨aDb, _, rfl, ?_, H.cR, H.o 0 rfl, H.fV (H.bK 0 rfl)⟩
    rw [S7]
    exact (xH hend).trans (hT ▸ xG ⟨k, s, lv⟩ hk oA hs G4)
   ·
    try simp only [bW] at SR
    have aES : q_ ≠ k := aAT ▸ (by exact SR)
    have CT : fN q_ k < 256 := by rcases Nat.lt_or_ge (fN q_ k) 256 with h | h; exact h; exact absurd ((oF V7 hk).1 h) aES
    refine WE.skip (WE.aA (WL.mv rfl rfl (WL.aY rfl vX rfl rfl (aN.aF (H.p 1 rfl) (aK.all _) rfl) (WL.mv rfl rfl (WL.mv rfl rfl (WL.mv rfl rfl ?_))))))
    rw [hFe]
    refine WL.call aGP rfl (aDj (aa := af) (ab := a37) (q := q_) (u := u_) (k := k) (vv := lv) (sa := sf) (sb := s37) (d := T.dp k d + d) (bits := bits) H.aR (H.o 0 rfl) (by exact H.aO 0 rfl 6 rfl) (by exact (H.aO 0 rfl 7 rfl).imp fun _ h => hFe ▸ (h.iX (T.dp k d))) (by exact H.aO 0 rfl 0 rfl) (by exact H.aO 0 rfl 8 rfl) bS V7 hk aEW CT) ?_
    rintro _ P5 ⟨aHP, aKG, rfl, aAW, hO, hB, hR⟩
    replace H := H.dH 0 rfl hO hB hR
    refine WL.rD TN rfl rfl (aBE (E := aHP) (bs := oI T k d (T.dp k d)) (k := k) (s := s) (sl := q) (d := d) (bits := bits) H.aR (H.o 0 rfl) (by exact H.aO 0 rfl 7 rfl) (by exact H.aO 0 rfl 0 rfl) (by exact (H.aO 0 rfl 8 rfl).imp fun _ h => aC1 h) (by exact (H.aO 0 rfl 6 rfl).imp fun _ h => B1 h) (by exact (H.aO 0 rfl 5 rfl).imp fun _ h => aN.rd h) (by exact (H.aO 0 rfl 2 rfl).imp fun _ h => aN.rd h) (by exact (H.aO 0 rfl 3 rfl).imp fun _ h => aN.rd h) (by exact (H.aO 0 rfl 4 rfl).imp fun _ h => aN.rd h) (by exact H.aO 0 rfl 9 rfl) bS hk (by rw [yS]; omega) (DD aHP.er (by omega) (by rw [aAW, uH]; omega))) ?_
    rintro _ w19 ⟨aKf, aKF, rfl, aFn, hO, hB, hR⟩
    replace H := H.dH 0 rfl hO hB hR
    refine WL.as rfl rfl (WL.nil (WE.ret ⟨[_], _, .nil _, ⟨rfl, trivial⟩, ?_⟩))
    refine ⟨aKf, _, rfl, ?_, H.cR, H.o 0 rfl, H.fV (H.bK 0 rfl)⟩
    rw [aFn]
    refine (xH (k := k) (v := lv) ?_).trans (hT ▸ xG ⟨k, s, lv⟩ hk oA hs G4)
    rw [hFe, aAW]; exact if_neg aES
theorem j7.pm {m : List En} (h : j7 m) (hk : KL m) : Pm 0 m := Pm.zero hk h.N9
theorem aDi {X : Nat → Prop} {w : World} {bh bc : Nat} {bits c0 : Int} {T : Tr} {M : List En} {k lv : List UInt8} {s : Value} (hX : cY X w) (eY : aN w bc 213 ([.int .i64 c0])) (bU : aJ (fun c_ => X c_ ∨ c_ = bc) (fQ bh bc bits) w) (dI : aJ (fun c_ => X c_ ∨ c_ = bc) (cW bits T) w) (fU : aJ (fun c_ => X c_ ∨ c_ = bc) (aZ) w) (bS : 0 ≤ bits ∧ bits ≤ 256) (hk : k.length = 32) (rR : lv.length ≤ 1000000) (hw : aJ (fun c => c = bc) (bJ s lv) w) (hT : T.er = grow 0 M) (hkM : KL M) (hs : j7 M) (zS : M.length ≤ 100000000) :
  bC prog 50 [.pointer (some ⟨bh, 0, none⟩), T.ptr, .agg (kc k ++ [s]).toArray].toArray w fun v w' => ∃ (T : Tr) (m : Int), v = T.ptr ∧ T.er = grow 0 (fS M ⟨k, s, lv⟩) ∧ Out (· = bc) w w' ∧ aN w' bc 213 [.int .i64 m] ∧ aJ (fun c => X c ∨ c = bc) (cW bits T) w' := by
 refine bC.aH (N := 11) func50 rfl rfl (by simp) ?_
 have H := (((St.dG (b := bc) (t := 213) (l := [.int .i64 c0]) hX eY).add (cC fU)).add (cC dI)).add (cC bU)
 have hs1 : s.oneCell' = true := cN.fX hw.here
 refine WE.aA ?_
 refine WL.box (l := kc k ++ [s]) H rfl (rfl) rfl ?_
 intro b5 w1 H
 refine WL.as rfl rfl (WL.nil (WE.aA (WL.mv rfl rfl (WL.mv rfl rfl ?_))))
 refine WL.bE rfl oM rfl rfl (aN.aF (H.l 0 rfl) (aK.all _) rfl) (cK fH (by simp only [aS, aX, aB]; omega)) ?_
 refine WL.call aJx rfl (XG (M := M) (k := k) (lv := lv) (s := s) (d := 0) (bits := bits) H.aR (H.o 0 rfl) (by exact H.aO 0 rfl 0 rfl) (by exact H.aO 0 rfl 1 rfl) (by exact H.aO 0 rfl 2 rfl) bS hk rR (H.D1 H.mS hw rfl) hT (hs.pm hkM) hs (vY.zero _ _) zS) ?_
 rintro _ w2 ⟨aKo, aKQ, rfl, aFy, hO, hB, hR⟩
 replace H := H.dH 0 rfl hO hB hR
 refine WL.as rfl rfl (WL.nil (WE.ret ⟨[_], _, .nil _, ⟨rfl, trivial⟩, ?_⟩))
 exact ⟨aKo, _, rfl, aFy, H.cR, H.o 0 rfl, H.fV (H.bK 0 rfl)⟩
def kv (e : En) : List UInt8 × List UInt8 := (e.k, e.v)
theorem KY {m m' : List En} {d b : Nat} (h : m.map kv = m'.map kv) : (bO m d b).map kv = (bO m' d b).map kv := by
 have e : ∀ l : List En, (bO l d b).map kv = (l.map kv).filter fun p => bI p.1 d == b := fun l => by
  unfold bO
  rw [List.filter_map]; rfl
 rw [e, e, h]
theorem S9 : ∀ (n d : Nat) (m m' : List En), m.map kv = m'.map kv → FO n d m = FO n d m' := by
 intro n
 induction n with
 | zero =>
  intro d m m' h
  match m, m', h with
  | [], [], _ => rfl
  | [a], [b], h => simp [kv] at h; show Sh.leaf _ _ = Sh.leaf _ _; rw [h.1, h.2]
  | [_], _ :: _ :: _, h => simp at h
  | _ :: _ :: _, [_], h => simp at h
  | a :: x :: m, b :: y :: m', h => simp [kv] at h; show Sh.leaf _ _ = Sh.leaf _ _; rw [h.1.1, h.1.2]
 | succ n ih =>
  intro d m m' h
  match m, m', h with
  | [], [], _ => rfl
  | [a], [b], h => simp [kv] at h; show Sh.leaf _ _ = Sh.leaf _ _; rw [h.1, h.2]
  | [_], _ :: _ :: _, h => simp at h
  | _ :: _ :: _, [_], h => simp at h
  | a :: x :: m, b :: y :: m', h =>
   show Sh.inner _ _ = Sh.inner _ _
   rw [ih _ _ _ (KY h), ih _ _ _ (KY h)]
theorem CY {d : Nat} {m m' : List En} (h : m.map kv = m'.map kv) : grow d m = grow d m' := S9 _ d m m' h
theorem j7.ext : ∀ {a b : List En}, j7 a → j7 b → (∀ e, e ∈ a ↔ e ∈ b) → a = b
 | [], [], _, _, _ => rfl
 | [], y :: b, _, _, h => by have := (h y).2 (by simp); cases this
 | x :: a, [], _, _, h => by have := (h x).1 (by simp); cases this
 | x :: a, y :: b, ha, hb, h => by
  have ha1 := List.pairwise_cons.1 ha
  have G7 := List.pairwise_cons.1 hb
  have hxy : x = y := by
   rcases List.mem_cons.1 ((h x).1 (by simp)) with h1 | h1
   ·
    exact h1
   ·
    rcases List.mem_cons.1 ((h y).2 (by simp)) with h2 | h2
    ·
     exact h2.symm
    ·
     have := G7.1 x h1; have := ha1.1 y h2; omega
  subst hxy
  congr 1
  refine j7.ext ha1.2 G7.2 fun e => ⟨fun he => ?_, fun he => ?_⟩
  ·
   rcases List.mem_cons.1 ((h e).1 (List.mem_cons_of_mem _ he)) with h1 | h1
   ·
    subst h1; have := ha1.1 e he; omega
   ·
    exact h1
  ·
   rcases List.mem_cons.1 ((h e).2 (List.mem_cons_of_mem _ he)) with h1 | h1
   ·
    subst h1; have := G7.1 e he; omega
   ·
    exact h1
theorem xC {X : Nat → Prop} {w : World} {b9 b5 b8 : Nat} {N R : Value} (hX : cY X w) (eY : aN w b8 39 ([R])) (bU : aJ (fun c_ => X c_ ∨ c_ = b8) (fun w => dA w ⟨b9, 0, none⟩ [.bool true]) w) (dI : aJ (fun c_ => X c_ ∨ c_ = b8) (fun w => dA w ⟨b5, 0, none⟩ [N]) w) :
  JZ prog 139 [.pointer (some ⟨b9, 0, none⟩), .pointer (some ⟨b5, 0, none⟩), .pointer (some ⟨b8, 0, none⟩)].toArray w fun w' => Out (· = b8) w w' ∧ aN w' b8 39 [R] := by
 refine JZ.aH (N := 6) func139 rfl rfl (by simp) ?_
 have H := ((St.dG (b := b8) (t := 39) (l := [R]) hX eY).add (cC dI)).add (cC bU)
 refine WE.aA (WL.aY rfl u4 rfl rfl (H.p 0 rfl) (WL.pv (PV.not rfl rfl) rfl (WL.nil ?_)))
 refine WE.bD rfl rfl ?_
 refine WE.skip ?_
 refine ⟨rfl, ⟨[], trivial⟩, ?_⟩
 exact ⟨H.cR, H.o 0 rfl⟩
theorem sJ {X : Nat → Prop} {w : World} {b9 b5 b8 : Nat} {N R : Value} (hX : cY X w) (eY : aN w b8 39 ([R])) (bU : aJ (fun c_ => X c_ ∨ c_ = b8) (fun w => dA w ⟨b9, 0, none⟩ [.bool false]) w) (dI : aJ (fun c_ => X c_ ∨ c_ = b8) (fun w => dA w ⟨b5, 0, none⟩ [N]) w) (hN : N.oneCell' = true) :
  JZ prog 139 [.pointer (some ⟨b9, 0, none⟩), .pointer (some ⟨b5, 0, none⟩), .pointer (some ⟨b8, 0, none⟩)].toArray w fun w' => Out (· = b8) w w' ∧ aN w' b8 39 [N] := by
 refine JZ.aH (N := 6) func139 rfl rfl (by simp) ?_
 have H := ((St.dG (b := b8) (t := 39) (l := [R]) hX eY).add (cC dI)).add (cC bU)
 refine WE.aA (WL.aY rfl u4 rfl rfl (H.p 0 rfl) (WL.pv (PV.not rfl rfl) rfl (WL.nil ?_)))
 refine WE.cS rfl rfl ?_
 refine WE.dY (WL.aY rfl iL rfl rfl (H.p 1 rfl) ?_)
 refine WL.lH H 0 rfl rfl rfl (new := [N]) (cells_one hN) (by exact l5) (eE hN) (Laid.at (Laid.all (by simp only [aS, aX, aB])) rfl) rfl ?_
 intro w1 H
 refine WL.nil ?_
 refine ⟨rfl, ⟨[], trivial⟩, ?_⟩
 exact ⟨H.cR, H.o 0 rfl⟩
def kI (m : List En) (k : List UInt8) : Bool := (getM m k).isSome
theorem NV {m : List En} {k : List UInt8} {d : Nat} : kI (bO m d (bI k d)) k = kI m k := by unfold kI; rw [A5]
theorem B5 {m : List En} {k : List UInt8} (h : kI m k = false) : fG m k = m := by
 unfold fG
 rw [List.filter_eq_self]
 intro e he
 simp
 intro hk
 unfold kI getM at h
 have : (m.find? fun e => e.k == k) = none := by simpa using h
 rw [List.find?_eq_none] at this
 exact this e he (by simpa using hk)
theorem Z2 {X : Nat → Prop} {w : World} {bh bc : Nat} {bits c0 : Int} {M : List En} {k : List UInt8} {d : Nat}  (hX : cY X w) (eY : aN w bc 213 ([.int .i64 c0])) (bU : aJ (fun c_ => X c_ ∨ c_ = bc) (fQ bh bc bits) w) (dI : aJ (fun c_ => X c_ ∨ c_ = bc) (aZ) w) (bS : 0 ≤ bits ∧ bits ≤ 256) (hk : k.length = 32) (hT : Tr.nil.er = grow d M) (oA : Pm d M) :
  bC prog 91 [.pointer (some ⟨bh, 0, none⟩), Tr.nil.ptr, .agg (kc k).toArray, .int .i64 (d : Int)].toArray w fun v w' => ∃ (T : Tr) (c : Int) (f : Bool), v = .tuple [T.ptr, .bool f].toArray ∧ T.er = grow d (fG M k) ∧ f = kI M k ∧ (f = false → T = Tr.nil ∧ c = c0) ∧ Out (· = bc) w w' ∧ aN w' bc 213 [.int .i64 c] ∧ aJ (fun c => X c ∨ c = bc) (cW bits T) w' := by
 refine bC.sS (N := 57) func91 rfl rfl (by simp) ?_
 have H := ((St.dG (b := bc) (t := 213) (l := [.int .i64 c0]) hX eY).add (cC dI)).add (cC bU)
 obtain rfl : M = [] := (by have h_ := oA.gH; rw [← hT] at h_; exact List.eq_nil_of_length_eq_zero h_.symm)
 refine WE.aA ?_
 refine WL.box (l := [Tr.nil.ptr]) H rfl (rfl) rfl ?_
 intro b5 w1 H
 refine WL.box (l := kc k) H rfl rfl rfl ?_
 intro b6 w2 H
 refine WL.alloc H rfl MN rfl ?_
 intro b8 w3 H
 refine WL.alloc H rfl ze4 rfl ?_
 intro b9 w4 H
 refine WL.nil (WE.aA (WL.pv (PV.makeFunc rfl) rfl ?_))
 refine WL.defer rfl rfl rfl rfl rfl ?_
 refine WL.nil (WE.seq (WE.aA (WL.aY rfl iL rfl rfl (aN.aF (H.l 3 rfl) (aK.all _) rfl) ?_)))
 refine WL.call lX rfl (eX (T := .nil) (bits := bits) H.aR (by exact fun _ _ => trivial) ) ?_
 rintro _ w5 ⟨rfl, hO⟩
 replace H := H.out hO
 refine WL.nil (WE.block (WE.aA (WL.pv (PV.eql rfl rfl rfl) rfl (WL.as rfl rfl (WL.nil ?_)))))
 refine WE.bD rfl rfl ?_
 refine WE.aA (WL.pv (PV.eql rfl rfl rfl) rfl (WL.as rfl rfl (WL.nil ?_)))
 refine WE.bD rfl rfl ?_
 refine WE.skip ?_
 refine WE.bH (.take 0 (.take 1 (.aG 2 (.aG 3 .done)))) mixed (by kernel_rfl) ?_
 replace H := H.out (Out.drew _)
 refine WP.aM rfl rfl (RV.aV rfl iL rfl) (aN.aF (H.l 1 rfl) (aK.all _) rfl) (WP.aM rfl rfl (RV.aV rfl u4 rfl) (aN.aF (H.l 0 rfl) (aK.all _) rfl) (WP.aG rfl ?_))
 refine WL.aW H 1 rfl rfl rfl (new := _) rfl (by exact l5) (bA _ rfl) (Laid.at (Laid.all (by simp only [aS, aX, aB])) rfl) rfl ?_
 intro w6 H
 refine WL.nil ⟨(fa (fun _ _ => (aN.aF (H.l 0 rfl) (aK.all _) rfl)) (fa (nw 2 0) c5)), ?_⟩
 refine WP.aG rfl ?_
 refine WL.aW H 0 rfl rfl rfl (new := _) rfl (by exact WT) (bA _ rfl) (Laid.at (Laid.all (by simp only [aS, aX, aB])) rfl) rfl ?_
 intro w7 H
 refine WL.nil ⟨(fa (nw 3 1) (fa (nw 3 0) c5)), ?_⟩
 refine WP.done (WE.ret ?_)
 refine Or.inr ⟨_, _, _, _, rfl, yG, (by exact sJ (X := Nil) (nZ _) (H.l 1 rfl) (((H.l9 1 0 rfl rfl (by decide)).imp fun _ h => aN.rd h).G1) (((H.l9 1 3 rfl rfl (by decide)).imp fun _ h => aN.rd h).G1) rfl), ?_⟩
 rintro w8 ⟨hO, hB⟩
 replace H := H.called 1 rfl hO hB
 refine ⟨[_, _], ⟨⟨_, rfl, cV iL (aN.aF (H.l 1 rfl) (aK.all _) rfl)⟩, ⟨_, rfl, cV u4 (aN.aF (H.l 0 rfl) (aK.all _) rfl)⟩, trivial⟩, ?_⟩
 refine ⟨.nil, c0, false, rfl, ?_, ?_, ?_, H.cR, H.o 0 rfl, ?_⟩
 ·
  exact (eF d).symm
 ·
  rfl
 ·
  exact fun _ => ⟨rfl, rfl⟩
 ·
  exact fun _ _ => trivial
theorem JY {X : Nat → Prop} {w : World} {bh bc : Nat} {bits c0 : Int} {M : List En} {k : List UInt8} {d : Nat} {a : Nat} {q u : List UInt8} {s : Value} (hX : cY X w) (eY : aN w bc 213 ([.int .i64 c0])) (bU : aJ (fun c_ => X c_ ∨ c_ = bc) (fQ bh bc bits) w) (dI : aJ (fun c_ => X c_ ∨ c_ = bc) (cW bits (Tr.leaf a q u s)) w) (fU : aJ (fun c_ => X c_ ∨ c_ = bc) (aZ) w) (bS : 0 ≤ bits ∧ bits ≤ 256) (hk : k.length = 32) (hT : (Tr.leaf a q u s).er = grow d M) (oA : Pm d M) (V7 : q = k) :
  bC prog 91 [.pointer (some ⟨bh, 0, none⟩), (Tr.leaf a q u s).ptr, .agg (kc k).toArray, .int .i64 (d : Int)].toArray w fun v w' => ∃ (T : Tr) (c : Int) (f : Bool), v = .tuple [T.ptr, .bool f].toArray ∧ T.er = grow d (fG M k) ∧ f = kI M k ∧ (f = false → T = (Tr.leaf a q u s) ∧ c = c0) ∧ Out (· = bc) w w' ∧ aN w' bc 213 [.int .i64 c] ∧ aJ (fun c => X c ∨ c = bc) (cW bits T) w' := by
 refine bC.sS (N := 57) func91 rfl rfl (by simp) ?_
 have H := (((St.dG (b := bc) (t := 213) (l := [.int .i64 c0]) hX eY).add (cC fU)).add (cC dI)).add (cC bU)
 obtain ⟨e, rfl⟩ : ∃ e, M = [e] := by have h_ := oA.gH; rw [← hT] at h_; exact List.length_eq_one_iff.1 h_.symm
 rw [dO] at hT
 have hqe : q = e.k := by injection hT
 have hvu := fY bits u
 have hq : q.length = 32 := by rw [hqe]; exact oA.kl e (by simp)
 refine WE.aA ?_
 refine WL.box (l := [(Tr.leaf a q u s).ptr]) H rfl (rfl) rfl ?_
 intro b5 w1 H
 refine WL.box (l := kc k) H rfl rfl rfl ?_
 intro b6 w2 H
 refine WL.alloc H rfl MN rfl ?_
 intro b8 w3 H
 refine WL.alloc H rfl ze4 rfl ?_
 intro b9 w4 H
 refine WL.nil (WE.aA (WL.pv (PV.makeFunc rfl) rfl ?_))
 refine WL.defer rfl rfl rfl rfl rfl ?_
 refine WL.nil (WE.seq (WE.aA (WL.aY rfl iL rfl rfl (aN.aF (H.l 3 rfl) (aK.all _) rfl) ?_)))
 refine WL.call lX rfl (eX (T := (Tr.leaf a q u s)) (bits := bits) H.aR (by exact H.bK 1 rfl) ) ?_
 rintro _ w5 ⟨rfl, hO⟩
 replace H := H.out hO
 refine WL.nil (WE.block (WE.aA (WL.pv (PV.eql rfl rfl rfl) rfl (WL.as rfl rfl (WL.nil ?_)))))
 refine WE.cS rfl rfl ?_
 refine WE.bH (.take 0 (.take 3 (.aG 1 (.take 2 (.take 4 (.aG 5 (.aG 6 .done))))))) mixed (by kernel_rfl) ?_
 replace H := H.out (Out.drew _)
 refine WP.aM rfl rfl (RV.aV rfl iL rfl) (aN.aF (H.l 3 rfl) (aK.all _) rfl) ?_
 refine WP.dN rfl rfl rfl cZ rfl (aN.aF (H.l 2 rfl) (aK.all _) rfl) (cK cL (by simp only [aS, aX, aB]; omega)) ?_
 refine WP.aG rfl ?_
 refine WL.call FT rfl (show bC _ _ _ _ (fun v w' => v = .agg (kc q ++ kc (nC bits u)).toArray ∧ Out Nil _ w') from nB (T := (Tr.leaf a q u s)) (bits := bits) H.aR (H.bK 1 rfl)) ?_
 rintro _ w6 ⟨rfl, hO⟩
 replace H := H.out hO
 refine WL.nil ⟨(fa (rk hO) (fa (nw 1 0) c5)), ?_⟩
 refine WP.aC rfl rfl (PV.lK rfl kH rfl (eG.agg cZ (cK cL (by simp only [aS, aX, aB]; omega)) (aK.l (aK.all _)))) ?_
 refine WP.aC rfl rfl (PV.eq (v' := .bool true) (PV.zW rfl gZ mC gO (by kernel_rfl) rfl rfl hq hk) (by simp [V7])) ?_
 refine WP.aG rfl ?_
 refine WL.aW H 1 rfl rfl rfl (new := _) rfl (by exact l5) (bA _ rfl) (Laid.at (Laid.all (by simp only [aS, aX, aB])) rfl) rfl ?_
 intro w7 H
 refine WL.nil ⟨(fa (fun _ _ => (aN.aF (H.l 2 rfl) (aK.all _) rfl)) (fa (nw 5 0) c5)), ?_⟩
 refine WP.aG rfl ?_
 refine WL.aW H 0 rfl rfl rfl (new := _) rfl (by exact WT) (bA _ rfl) (Laid.at (Laid.all (by simp only [aS, aX, aB])) rfl) rfl ?_
 intro w8 H
 refine WL.nil ⟨(fa (nw 6 3) (fa (nw 6 0) c5)), ?_⟩
 refine WP.done (WE.ret ?_)
 refine Or.inr ⟨_, _, _, _, rfl, yG, (by exact xC (X := Nil) (nZ _) (H.l 1 rfl) (((H.l9 1 0 rfl rfl (by decide)).imp fun _ h => aN.rd h).G1) (((H.l9 1 3 rfl rfl (by decide)).imp fun _ h => aN.rd h).G1)), ?_⟩
 rintro w9 ⟨hO, hB⟩
 replace H := H.called 1 rfl hO hB
 refine ⟨[_, _], ⟨⟨_, rfl, cV iL (aN.aF (H.l 1 rfl) (aK.all _) rfl)⟩, ⟨_, rfl, cV u4 (aN.aF (H.l 0 rfl) (aK.all _) rfl)⟩, trivial⟩, ?_⟩
 refine ⟨.nil, c0, true, rfl, ?_, ?_, ?_, H.cR, H.o 0 rfl, ?_⟩
 ·
  rw [show fG [e] k = [] by simp [fG, ← hqe, V7], eF]; rfl
 ·
  simp [kI, getM, ← hqe, V7]
 ·
  exact fun h => by cases h
 ·
  exact fun _ _ => trivial
theorem JX {X : Nat → Prop} {w : World} {bh bc : Nat} {bits c0 : Int} {M : List En} {k : List UInt8} {d : Nat} {a : Nat} {q u : List UInt8} {s : Value} (hX : cY X w) (eY : aN w bc 213 ([.int .i64 c0])) (bU : aJ (fun c_ => X c_ ∨ c_ = bc) (fQ bh bc bits) w) (dI : aJ (fun c_ => X c_ ∨ c_ = bc) (cW bits (Tr.leaf a q u s)) w) (fU : aJ (fun c_ => X c_ ∨ c_ = bc) (aZ) w) (bS : 0 ≤ bits ∧ bits ≤ 256) (hk : k.length = 32) (hT : (Tr.leaf a q u s).er = grow d M) (oA : Pm d M) (V7 : q ≠ k) :
  bC prog 91 [.pointer (some ⟨bh, 0, none⟩), (Tr.leaf a q u s).ptr, .agg (kc k).toArray, .int .i64 (d : Int)].toArray w fun v w' => ∃ (T : Tr) (c : Int) (f : Bool), v = .tuple [T.ptr, .bool f].toArray ∧ T.er = grow d (fG M k) ∧ f = kI M k ∧ (f = false → T = (Tr.leaf a q u s) ∧ c = c0) ∧ Out (· = bc) w w' ∧ aN w' bc 213 [.int .i64 c] ∧ aJ (fun c => X c ∨ c = bc) (cW bits T) w' := by
 refine bC.sS (N := 57) func91 rfl rfl (by simp) ?_
 have H := (((St.dG (b := bc) (t := 213) (l := [.int .i64 c0]) hX eY).add (cC fU)).add (cC dI)).add (cC bU)
 obtain ⟨e, rfl⟩ : ∃ e, M = [e] := by have h_ := oA.gH; rw [← hT] at h_; exact List.length_eq_one_iff.1 h_.symm
 rw [dO] at hT
 have hqe : q = e.k := by injection hT
 have hvu := fY bits u
 have hq : q.length = 32 := by rw [hqe]; exact oA.kl e (by simp)
 refine WE.aA ?_
 refine WL.box (l := [(Tr.leaf a q u s).ptr]) H rfl (rfl) rfl ?_
 intro b5 w1 H
 refine WL.box (l := kc k) H rfl rfl rfl ?_
 intro b6 w2 H
 refine WL.alloc H rfl MN rfl ?_
 intro b8 w3 H
 refine WL.alloc H rfl ze4 rfl ?_
 intro b9 w4 H
 refine WL.nil (WE.aA (WL.pv (PV.makeFunc rfl) rfl ?_))
 refine WL.defer rfl rfl rfl rfl rfl ?_
 refine WL.nil (WE.seq (WE.aA (WL.aY rfl iL rfl rfl (aN.aF (H.l 3 rfl) (aK.all _) rfl) ?_)))
 refine WL.call lX rfl (eX (T := (Tr.leaf a q u s)) (bits := bits) H.aR (by exact H.bK 1 rfl) ) ?_
 rintro _ w5 ⟨rfl, hO⟩
 replace H := H.out hO
 refine WL.nil (WE.block (WE.aA (WL.pv (PV.eql rfl rfl rfl) rfl (WL.as rfl rfl (WL.nil ?_)))))
 refine WE.cS rfl rfl ?_
 refine WE.bH (.take 0 (.take 3 (.aG 1 (.take 2 (.take 4 (.aG 5 (.aG 6 .done))))))) mixed (by kernel_rfl) ?_
 replace H := H.out (Out.drew _)
 refine WP.aM rfl rfl (RV.aV rfl iL rfl) (aN.aF (H.l 3 rfl) (aK.all _) rfl) ?_
 refine WP.dN rfl rfl rfl cZ rfl (aN.aF (H.l 2 rfl) (aK.all _) rfl) (cK cL (by simp only [aS, aX, aB]; omega)) ?_
 refine WP.aG rfl ?_
 refine WL.call FT rfl (show bC _ _ _ _ (fun v w' => v = .agg (kc q ++ kc (nC bits u)).toArray ∧ Out Nil _ w') from nB (T := (Tr.leaf a q u s)) (bits := bits) H.aR (H.bK 1 rfl)) ?_
 rintro _ w6 ⟨rfl, hO⟩
 replace H := H.out hO
 refine WL.nil ⟨(fa (rk hO) (fa (nw 1 0) c5)), ?_⟩
 refine WP.aC rfl rfl (PV.lK rfl kH rfl (eG.agg cZ (cK cL (by simp only [aS, aX, aB]; omega)) (aK.l (aK.all _)))) ?_
 refine WP.aC rfl rfl (PV.eq (v' := .bool false) (PV.zW rfl gZ mC gO (by kernel_rfl) rfl rfl hq hk) (by simp [V7])) ?_
 refine WP.aG rfl ?_
 refine WL.aW H 1 rfl rfl rfl (new := _) rfl (by exact l5) (bA _ rfl) (Laid.at (Laid.all (by simp only [aS, aX, aB])) rfl) rfl ?_
 intro w7 H
 refine WL.nil ⟨(fa (fun _ _ => (aN.aF (H.l 2 rfl) (aK.all _) rfl)) (fa (nw 5 0) c5)), ?_⟩
 refine WP.aG rfl ?_
 refine WL.aW H 0 rfl rfl rfl (new := _) rfl (by exact WT) (bA _ rfl) (Laid.at (Laid.all (by simp only [aS, aX, aB])) rfl) rfl ?_
 intro w8 H
 refine WL.nil ⟨(fa (nw 6 3) (fa (nw 6 0) c5)), ?_⟩
 refine WP.done (WE.ret ?_)
 refine Or.inr ⟨_, _, _, _, rfl, yG, (by exact sJ (X := Nil) (nZ _) (H.l 1 rfl) (((H.l9 1 0 rfl rfl (by decide)).imp fun _ h => aN.rd h).G1) (((H.l9 1 3 rfl rfl (by decide)).imp fun _ h => aN.rd h).G1) rfl), ?_⟩
 rintro w9 ⟨hO, hB⟩
 replace H := H.called 1 rfl hO hB
 refine ⟨[_, _], ⟨⟨_, rfl, cV iL (aN.aF (H.l 1 rfl) (aK.all _) rfl)⟩, ⟨_, rfl, cV u4 (aN.aF (H.l 0 rfl) (aK.all _) rfl)⟩, trivial⟩, ?_⟩
 refine ⟨(Tr.leaf a q u s), c0, false, rfl, ?_, ?_, ?_, H.cR, H.o 0 rfl, ?_⟩
 ·
  rw [show fG [e] k = [e] by simp [fG, ← hqe, V7], dO]; exact hT
 ·
  simp [kI, getM, ← hqe, V7]
 ·
  exact fun _ => ⟨rfl, rfl⟩
 ·
  exact H.fV (H.bK 1 rfl)
theorem XD {m : List En} {k : List UInt8} {d : Nat} (h : Pm d m) (hd : d < 256) : (bI k d = 0 → kM (grow (d + 1) (fG (bO m d 0) k)) (grow (d + 1) (bO m d 1)) = grow d (fG m k)) ∧ (bI k d ≠ 0 → kM (grow (d + 1) (bO m d 0)) (grow (d + 1) (fG (bO m d 1) k)) = grow d (fG m k)) := by
 have e := o8 (QV (k := k) h) hd
 rw [sK, sK] at e
 have hb := dX k d
 constructor
 ·
  intro h0
  rw [uF (b := 1) (by omega)] at e
  exact e
 ·
  intro h0
  rw [uF (b := 0) (by omega)] at e
  exact e
def aDh (T : Tr) : Prop := ∀ {X : Nat → Prop} {w : World} {bh bc : Nat} {bits c0 : Int} {M : List En} {k : List UInt8} {d : Nat}, (∀ b, X b → b < w.heap.size) → aN w bc 213 [.int .i64 c0] → aJ (fun c => X c ∨ c = bc) (fQ bh bc bits) w → aJ (fun c => X c ∨ c = bc) (cW bits T) w → aJ (fun c => X c ∨ c = bc) aZ w →
 0 ≤ bits ∧ bits ≤ 256 → k.length = 32 → T.er = grow d M → Pm d M → M.length ≤ 1000000000 →
 bC prog 91 [.pointer (some ⟨bh, 0, none⟩), T.ptr, .agg (kc k).toArray, .int .i64 (d : Int)].toArray w fun v w' => ∃ (T' : Tr) (c : Int) (f : Bool), v = .tuple [T'.ptr, .bool f].toArray ∧ T'.er = grow d (fG M k) ∧ f = kI M k ∧ (f = false → T' = T ∧ c = c0) ∧ Out (· = bc) w w' ∧ aN w' bc 213 [.int .i64 c] ∧ aJ (fun c => X c ∨ c = bc) (cW bits T') w'
theorem OZ {X : Nat → Prop} {w : World} {bh bc : Nat} {bits c0 : Int} {M : List En} {k : List UInt8} {d : Nat} {a : Nat} {l r : Tr} (hX : cY X w) (eY : aN w bc 213 ([.int .i64 c0])) (bU : aJ (fun c_ => X c_ ∨ c_ = bc) (fQ bh bc bits) w) (dI : aJ (fun c_ => X c_ ∨ c_ = bc) (cW bits (Tr.inner a l r)) w) (fU : aJ (fun c_ => X c_ ∨ c_ = bc) (aZ) w) (bS : 0 ≤ bits ∧ bits ≤ 256) (hk : k.length = 32) (hT : (Tr.inner a l r).er = grow d M) (oA : Pm d M) (hlen : M.length ≤ 1000000000) (ihl : aDh l) (ihr : aDh r) :
  bC prog 91 [.pointer (some ⟨bh, 0, none⟩), (Tr.inner a l r).ptr, .agg (kc k).toArray, .int .i64 (d : Int)].toArray w fun v w' => ∃ (T : Tr) (c : Int) (f : Bool), v = .tuple [T.ptr, .bool f].toArray ∧ T.er = grow d (fG M k) ∧ f = kI M k ∧ (f = false → T = (Tr.inner a l r) ∧ c = c0) ∧ Out (· = bc) w w' ∧ aN w' bc 213 [.int .i64 c] ∧ aJ (fun c => X c ∨ c = bc) (cW bits T) w' := by
 refine bC.sS (N := 57) func91 rfl rfl (by simp) ?_
 have H := (((St.dG (b := bc) (t := 213) (l := [.int .i64 c0]) hX eY).add (cC fU)).add (cC dI)).add (cC bU)
 have h2m : 2 ≤ M.length := (oC oA).1 (by rw [← hT]; rfl)
 have hd := oA.lt h2m
 have DS := hT
 rw [iP d M hd h2m] at DS
 have SE : l.er = grow (d + 1) (bO M d 0) := by injection DS
 have I1 : r.er = grow (d + 1) (bO M d 1) := by injection DS
 have hb2 := dX k d
 have hrj := XD (k := k) oA hd
 have hhp := NV (m := M) (k := k) (d := d)
 refine WE.aA ?_
 refine WL.box (l := [(Tr.inner a l r).ptr]) H rfl (rfl) rfl ?_
 intro b5 w1 H
 refine WL.box (l := kc k) H rfl rfl rfl ?_
 intro b6 w2 H
 refine WL.alloc H rfl MN rfl ?_
 intro b8 w3 H
 refine WL.alloc H rfl ze4 rfl ?_
 intro b9 w4 H
 refine WL.nil (WE.aA (WL.pv (PV.makeFunc rfl) rfl ?_))
 refine WL.defer rfl rfl rfl rfl rfl ?_
 refine WL.nil (WE.seq (WE.aA (WL.aY rfl iL rfl rfl (aN.aF (H.l 3 rfl) (aK.all _) rfl) ?_)))
 refine WL.call lX rfl (eX (T := (Tr.inner a l r)) (bits := bits) H.aR (by exact H.bK 1 rfl) ) ?_
 rintro _ w5 ⟨rfl, hO⟩
 replace H := H.out hO
 refine WL.nil (WE.block (WE.aA (WL.pv (PV.eql rfl rfl rfl) rfl (WL.as rfl rfl (WL.nil ?_)))))
 refine WE.bD rfl rfl ?_
 refine WE.aA (WL.pv (PV.eql rfl rfl rfl) rfl (WL.as rfl rfl (WL.nil ?_)))
 refine WE.cS rfl rfl ?_
 refine WE.bH (.take 0 (.take 2 (.aG 1 (.aG 3 (.take 4 (.take 5 .done)))))) mixed (by kernel_rfl) ?_
 replace H := H.out (Out.drew _)
 refine WP.aM rfl rfl (RV.aV rfl iL rfl) (aN.aF (H.l 3 rfl) (aK.all _) rfl) (WP.aM rfl rfl (RV.aV rfl iL rfl) (aN.aF (H.l 3 rfl) (aK.all _) rfl) (WP.aG rfl ?_))
 refine WL.call TP rfl (J3 (T := (Tr.inner a l r)) (bits := bits) H.aR (by exact H.bK 1 rfl) ) ?_
 rintro _ w6 ⟨rfl, hO⟩
 replace H := H.out hO
 refine WL.nil ⟨(fa (rk hO) (fa (nw 1 0) c5)), ?_⟩
 refine WP.aG rfl ?_
 refine WL.call TO rfl (y5 (T := (Tr.inner a l r)) (bits := bits) H.aR (by exact H.bK 1 rfl) ) ?_
 rintro _ w7 ⟨rfl, hO⟩
 replace H := H.out hO
 refine WL.nil ⟨(fa (nw 3 2) (fa (nw 3 0) c5)), ?_⟩
 refine WP.as rfl rfl rfl (WP.as rfl rfl rfl (WP.done (WE.seq (WE.aA ?_))))
 refine WL.bE rfl cZ rfl rfl (aN.aF (H.l 2 rfl) (aK.all _) rfl) (cK cL (by simp only [aS, aX, aB]; omega)) ?_
 refine WL.mv rfl rfl ?_
 refine WL.call FR rfl (jZ (k := k) (d := d) H.aR  (by assumption) (by assumption)) ?_
 rintro _ w8 ⟨rfl, hO⟩
 replace H := H.out hO
 refine WL.pv (PV.eql rfl rfl rfl) rfl (WL.nil ?_)
 refine WE.cond rfl (fun kU => ?_) (fun kU => ?_)
 ·
  try simp only [bW] at kU
  have zG : bI k d = 0 := by omega
  refine WE.dY (WL.mv rfl rfl (WL.mv rfl rfl ?_))
  refine WL.bE rfl cZ rfl rfl (aN.aF (H.l 2 rfl) (aK.all _) rfl) (cK cL (by simp only [aS, aX, aB]; omega)) ?_
  refine WL.mv rfl rfl (WL.pv (PV.eq (v' := .int .i64 ((d + 1 : Nat) : Int)) (PV.bT rfl rfl rfl (by omega) (by omega)) rfl) rfl ?_)
  refine WL.call aCJ rfl (ihl (M := bO M d 0) (k := k) (d := d + 1) (bits := bits) H.aR (H.o 0 rfl) (by exact H.aO 0 rfl 0 rfl) (by exact (H.aO 0 rfl 1 rfl : aJ _ (cW bits (Tr.inner a l r)) _).imp fun _ h => cW.left h) (by exact H.aO 0 rfl 2 rfl) bS hk SE (oA.part hd 0) (Nat.le_trans (sP _ _ _) hlen)) ?_
  rintro _ w9 ⟨T38, c38, f38, rfl, aFB, aFd, aI1, hO, hB, hR⟩
  replace H := H.dH 0 rfl hO hB hR
  refine WL.mv rfl rfl (WL.pv (PV.extract rfl rfl rfl) rfl (WL.pv (PV.extract rfl rfl rfl) rfl (WL.as rfl rfl ?_)))
  refine WL.aW H 0 rfl rfl rfl (new := _) rfl (by exact WT) (bA _ rfl) (Laid.at (Laid.all (by simp only [aS, aX, aB])) rfl) rfl ?_
  intro tM H
  refine WL.nil (WE.aA (WL.aY rfl u4 rfl rfl (aN.aF (H.l 0 rfl) (aK.all _) rfl) (WL.nil ?_)))
  refine WE.cond rfl (fun nF => ?_) (fun nF => ?_)
  ·
   try simp only [bW] at nF
   (obtain rfl : f38 = true := nF)
   refine WE.dY (WL.mv rfl rfl (WL.mv rfl rfl (WL.mv rfl rfl ?_)))
   refine WL.call FV rfl ((by exact y8 (l := T38) (r := r) (bits := bits) H.aR (H.o 0 rfl) (by exact H.aO 0 rfl 1 rfl) (by exact H.aO 0 rfl 0 rfl) (by exact (H.aO 0 rfl 2 rfl : aJ _ (cW bits (Tr.inner a l r)) _).imp fun _ h => cW.right h) (by exact H.aO 0 rfl 3 rfl) bS (by rw [aFB, I1, (QV (oA.part hd 0)).gH, (oA.part hd 1).gH]; have h1 := wB (bO M d 0) k; have h2 := nV M d; omega))) ?_
   rintro _ wT ⟨aDa, aIv, rfl, S6, hO, hB, hR⟩
   replace H := H.dH 0 rfl hO hB hR
   refine WL.aW H 1 rfl rfl rfl (new := _) rfl (by exact l5) (bA _ rfl) (Laid.at (Laid.all (by simp only [aS, aX, aB])) rfl) rfl ?_
   intro G2 H
   refine WL.nil ?_
   refine WE.bH (.take 0 (.take 1 (.aG 2 (.aG 3 .done)))) mixed (by kernel_rfl) ?_
   replace H := H.out (Out.drew _)
   refine WP.aM rfl rfl (RV.aV rfl iL rfl) (aN.aF (H.l 1 rfl) (aK.all _) rfl) (WP.aM rfl rfl (RV.aV rfl u4 rfl) (aN.aF (H.l 0 rfl) (aK.all _) rfl) (WP.aG rfl ?_))
   refine WL.aW H 1 rfl rfl rfl (new := _) rfl (by exact l5) (bA _ rfl) (Laid.at (Laid.all (by simp only [aS, aX, aB])) rfl) rfl ?_
   intro D4 H
   refine WL.nil ⟨(fa (fun _ _ => (aN.aF (H.l 0 rfl) (aK.all _) rfl)) (fa (nw 2 0) c5)), ?_⟩
   refine WP.aG rfl ?_
   refine WL.aW H 0 rfl rfl rfl (new := _) rfl (by exact WT) (bA _ rfl) (Laid.at (Laid.all (by simp only [aS, aX, aB])) rfl) rfl ?_
   intro KG H
   refine WL.nil ⟨(fa (nw 3 1) (fa (nw 3 0) c5)), ?_⟩
   refine WP.done (WE.ret ?_)
   refine Or.inr ⟨_, _, _, _, rfl, yG, (by exact xC (X := Nil) (nZ _) (H.l 1 rfl) (((H.l9 1 0 rfl rfl (by decide)).imp fun _ h => aN.rd h).G1) (((H.l9 1 3 rfl rfl (by decide)).imp fun _ h => aN.rd h).G1)), ?_⟩
   rintro PD ⟨hO, hB⟩
   replace H := H.called 1 rfl hO hB
   refine ⟨[_, _], ⟨⟨_, rfl, cV iL (aN.aF (H.l 1 rfl) (aK.all _) rfl)⟩, ⟨_, rfl, cV u4 (aN.aF (H.l 0 rfl) (aK.all _) rfl)⟩, trivial⟩, ?_⟩
   (refine ⟨aDa, _, true, rfl, ?_, ?_, fun h => (by cases h), H.cR, H.o 0 rfl, H.fV (H.bK 0 rfl)⟩; (rw [S6, aFB, I1]; exact hrj.1 zG); (rw [aFd, ← hhp, zG]))
  ·
   try simp only [bW] at nF
   (obtain rfl : f38 = false := nF)
   refine WE.skip ?_
   refine WE.bH (.take 0 (.take 1 (.aG 2 (.aG 3 .done)))) mixed (by kernel_rfl) ?_
   replace H := H.out (Out.drew _)
   refine WP.aM rfl rfl (RV.aV rfl iL rfl) (aN.aF (H.l 1 rfl) (aK.all _) rfl) (WP.aM rfl rfl (RV.aV rfl u4 rfl) (aN.aF (H.l 0 rfl) (aK.all _) rfl) (WP.aG rfl ?_))
   refine WL.aW H 1 rfl rfl rfl (new := _) rfl (by exact l5) (bA _ rfl) (Laid.at (Laid.all (by simp only [aS, aX, aB])) rfl) rfl ?_
   intro P7 H
   refine WL.nil ⟨(fa (fun _ _ => (aN.aF (H.l 0 rfl) (aK.all _) rfl)) (fa (nw 2 0) c5)), ?_⟩
   refine WP.aG rfl ?_
   refine WL.aW H 0 rfl rfl rfl (new := _) rfl (by exact WT) (bA _ rfl) (Laid.at (Laid.all (by simp only [aS, aX, aB])) rfl) rfl ?_
   intro P6 H
   refine WL.nil ⟨(fa (nw 3 1) (fa (nw 3 0) c5)), ?_⟩
   refine WP.done (WE.ret ?_)
   refine Or.inr ⟨_, _, _, _, rfl, yG, (by exact sJ (X := Nil) (nZ _) (H.l 1 rfl) (((H.l9 1 0 rfl rfl (by decide)).imp fun _ h => aN.rd h).G1) (((H.l9 1 3 rfl rfl (by decide)).imp fun _ h => aN.rd h).G1) rfl), ?_⟩
   rintro P5 ⟨hO, hB⟩
   replace H := H.called 1 rfl hO hB
   refine ⟨[_, _], ⟨⟨_, rfl, cV iL (aN.aF (H.l 1 rfl) (aK.all _) rfl)⟩, ⟨_, rfl, cV u4 (aN.aF (H.l 0 rfl) (aK.all _) rfl)⟩, trivial⟩, ?_⟩
   (have hh : kI M k = false := (by rw [← hhp, zG, ← aFd]); refine ⟨Tr.inner a l r, _, false, rfl, ?_, hh.symm, fun _ => ⟨rfl, (aI1 rfl).2⟩, H.cR, H.o 0 rfl, H.fV (by exact H.bK 2 rfl)⟩; (rw [B5 hh]; exact hT))
 ·
  try simp only [bW] at kU
  have zG : bI k d = 1 := by omega
  refine WE.dY (WL.mv rfl rfl (WL.mv rfl rfl ?_))
  refine WL.bE rfl cZ rfl rfl (aN.aF (H.l 2 rfl) (aK.all _) rfl) (cK cL (by simp only [aS, aX, aB]; omega)) ?_
  refine WL.mv rfl rfl (WL.pv (PV.eq (v' := .int .i64 ((d + 1 : Nat) : Int)) (PV.bT rfl rfl rfl (by omega) (by omega)) rfl) rfl ?_)
  refine WL.call aCJ rfl (ihr (M := bO M d 1) (k := k) (d := d + 1) (bits := bits) H.aR (H.o 0 rfl) (by exact H.aO 0 rfl 0 rfl) (by exact (H.aO 0 rfl 1 rfl : aJ _ (cW bits (Tr.inner a l r)) _).imp fun _ h => cW.right h) (by exact H.aO 0 rfl 2 rfl) bS hk I1 (oA.part hd 1) (Nat.le_trans (sP _ _ _) hlen)) ?_
  rintro _ w19 ⟨T47, c47, f47, rfl, aFz, aFc, aI0, hO, hB, hR⟩
  replace H := H.dH 0 rfl hO hB hR
  refine WL.mv rfl rfl (WL.pv (PV.extract rfl rfl rfl) rfl (WL.pv (PV.extract rfl rfl rfl) rfl (WL.as rfl rfl ?_)))
  refine WL.aW H 0 rfl rfl rfl (new := _) rfl (by exact WT) (bA _ rfl) (Laid.at (Laid.all (by simp only [aS, aX, aB])) rfl) rfl ?_
  intro w20 H
  refine WL.nil (WE.aA (WL.aY rfl u4 rfl rfl (aN.aF (H.l 0 rfl) (aK.all _) rfl) (WL.nil ?_)))
  refine WE.cond rfl (fun nF => ?_) (fun nF => ?_)
  ·
   try simp only [bW] at nF
   (obtain rfl : f47 = true := nF)
   refine WE.dY (WL.mv rfl rfl (WL.mv rfl rfl (WL.mv rfl rfl ?_)))
   refine WL.call FV rfl ((by exact y8 (l := l) (r := T47) (bits := bits) H.aR (H.o 0 rfl) (by exact H.aO 0 rfl 1 rfl) (by exact (H.aO 0 rfl 2 rfl : aJ _ (cW bits (Tr.inner a l r)) _).imp fun _ h => cW.left h) (by exact H.aO 0 rfl 0 rfl) (by exact H.aO 0 rfl 3 rfl) bS (by rw [aFz, SE, (QV (oA.part hd 1)).gH, (oA.part hd 0).gH]; have h1 := wB (bO M d 1) k; have h2 := nV M d; omega))) ?_
   rintro _ w21 ⟨aDa, aIv, rfl, S6, hO, hB, hR⟩
   replace H := H.dH 0 rfl hO hB hR
   refine WL.aW H 1 rfl rfl rfl (new := _) rfl (by exact l5) (bA _ rfl) (Laid.at (Laid.all (by simp only [aS, aX, aB])) rfl) rfl ?_
   intro w22 H
   refine WL.nil ?_
   refine WE.bH (.take 0 (.take 1 (.aG 2 (.aG 3 .done)))) mixed (by kernel_rfl) ?_
   replace H := H.out (Out.drew _)
   refine WP.aM rfl rfl (RV.aV rfl iL rfl) (aN.aF (H.l 1 rfl) (aK.all _) rfl) (WP.aM rfl rfl (RV.aV rfl u4 rfl) (aN.aF (H.l 0 rfl) (aK.all _) rfl) (WP.aG rfl ?_))
   refine WL.aW H 1 rfl rfl rfl (new := _) rfl (by exact l5) (bA _ rfl) (Laid.at (Laid.all (by simp only [aS, aX, aB])) rfl) rfl ?_
   intro w23 H
   refine WL.nil ⟨(fa (fun _ _ => (aN.aF (H.l 0 rfl) (aK.all _) rfl)) (fa (nw 2 0) c5)), ?_⟩
   refine WP.aG rfl ?_
   refine WL.aW H 0 rfl rfl rfl (new := _) rfl (by exact WT) (bA _ rfl) (Laid.at (Laid.all (by simp only [aS, aX, aB])) rfl) rfl ?_
   intro w24 H
   refine WL.nil ⟨(fa (nw 3 1) (fa (nw 3 0) c5)), ?_⟩
   refine WP.done (WE.ret ?_)
   refine Or.inr ⟨_, _, _, _, rfl, yG, (by exact xC (X := Nil) (nZ _) (H.l 1 rfl) (((H.l9 1 0 rfl rfl (by decide)).imp fun _ h => aN.rd h).G1) (((H.l9 1 3 rfl rfl (by decide)).imp fun _ h => aN.rd h).G1)), ?_⟩
   rintro w25 ⟨hO, hB⟩
   replace H := H.called 1 rfl hO hB
   refine ⟨[_, _], ⟨⟨_, rfl, cV iL (aN.aF (H.l 1 rfl) (aK.all _) rfl)⟩, ⟨_, rfl, cV u4 (aN.aF (H.l 0 rfl) (aK.all _) rfl)⟩, trivial⟩, ?_⟩
   (refine ⟨aDa, _, true, rfl, ?_, ?_, fun h => (by cases h), H.cR, H.o 0 rfl, H.fV (H.bK 0 rfl)⟩; (rw [S6, aFz, SE]; exact hrj.2 (by omega)); (rw [aFc, ← hhp, zG]))
  ·
   try simp only [bW] at nF
   (obtain rfl : f47 = false := nF)
   refine WE.skip ?_
   refine WE.bH (.take 0 (.take 1 (.aG 2 (.aG 3 .done)))) mixed (by kernel_rfl) ?_
   replace H := H.out (Out.drew _)
   refine WP.aM rfl rfl (RV.aV rfl iL rfl) (aN.aF (H.l 1 rfl) (aK.all _) rfl) (WP.aM rfl rfl (RV.aV rfl u4 rfl) (aN.aF (H.l 0 rfl) (aK.all _) rfl) (WP.aG rfl ?_))
   refine WL.aW H 1 rfl rfl rfl (new := _) rfl (by exact l5) (bA _ rfl) (Laid.at (Laid.all (by simp only [aS, aX, aB])) rfl) rfl ?_
   intro w26 H
   refine WL.nil ⟨(fa (fun _ _ => (aN.aF (H.l 0 rfl) (aK.all _) rfl)) (fa (nw 2 0) c5)), ?_⟩
   refine WP.aG rfl ?_
   refine WL.aW H 0 rfl rfl rfl (new := _) rfl (by exact WT) (bA _ rfl) (Laid.at (Laid.all (by simp only [aS, aX, aB])) rfl) rfl ?_
   intro w27 H
   refine WL.nil ⟨(fa (nw 3 1) (fa (nw 3 0) c5)), ?_⟩
   refine WP.done (WE.ret ?_)
   refine Or.inr ⟨_, _, _, _, rfl, yG, (by exact sJ (X := Nil) (nZ _) (H.l 1 rfl) (((H.l9 1 0 rfl rfl (by decide)).imp fun _ h => aN.rd h).G1) (((H.l9 1 3 rfl rfl (by decide)).imp fun _ h => aN.rd h).G1) rfl), ?_⟩
   rintro w28 ⟨hO, hB⟩
   replace H := H.called 1 rfl hO hB
   refine ⟨[_, _], ⟨⟨_, rfl, cV iL (aN.aF (H.l 1 rfl) (aK.all _) rfl)⟩, ⟨_, rfl, cV u4 (aN.aF (H.l 0 rfl) (aK.all _) rfl)⟩, trivial⟩, ?_⟩
   (have hh : kI M k = false := (by rw [← hhp, zG, ← aFc]); refine ⟨Tr.inner a l r, _, false, rfl, ?_, hh.symm, fun _ => ⟨rfl, (aI0 rfl).2⟩, H.cR, H.o 0 rfl, H.fV (by exact H.bK 2 rfl)⟩; (rw [B5 hh]; exact hT))
theorem VF : ∀ T : Tr, aDh T
 | .nil => fun hX h0 h1 _ h3 hb hk hT hp _ => Z2 hX h0 h1 h3 hb hk hT hp
 | .leaf a q u s => fun hX h0 h1 h2 h3 hb hk hT hp _ => by
  rename_i k _ _
  by_cases hq : q = k
  ·
   refine (JY hX h0 h1 h2 h3 hb hk hT hp hq).mono ?_
   rintro v w' ⟨T', c, f, h⟩
   exact ⟨T', c, f, h⟩
  ·
   refine (JX hX h0 h1 h2 h3 hb hk hT hp hq).mono ?_
   rintro v w' ⟨T', c, f, h⟩
   exact ⟨T', c, f, h⟩
 | .inner a l r => fun hX h0 h1 h2 h3 hb hk hT hp hl => OZ hX h0 h1 h2 h3 hb hk hT hp hl (VF l) (VF r)
theorem aBT {X : Nat → Prop} {w : World} {bh bc : Nat} {bits c0 : Int} {T : Tr} {M : List En} {k : List UInt8} {d : Nat} (hX : cY X w) (ho : aN w bc 213 [.int .i64 c0]) (bU : aJ (fun c => X c ∨ c = bc) (fQ bh bc bits) w) (dI : aJ (fun c => X c ∨ c = bc) (cW bits T) w) (fU : aJ (fun c => X c ∨ c = bc) aZ w)
  (hb : 0 ≤ bits ∧ bits ≤ 256) (hk : k.length = 32) (hT : T.er = grow d M) (hp : Pm d M) (hl : M.length ≤ 1000000000) :
  bC prog 91 [.pointer (some ⟨bh, 0, none⟩), T.ptr, .agg (kc k).toArray, .int .i64 (d : Int)].toArray w fun v w' => ∃ (T' : Tr) (c : Int) (f : Bool), v = .tuple [T'.ptr, .bool f].toArray ∧ T'.er = grow d (fG M k) ∧ f = kI M k ∧ (f = false → T' = T ∧ c = c0) ∧ Out (· = bc) w w' ∧ aN w' bc 213 [.int .i64 c] ∧ aJ (fun c => X c ∨ c = bc) (cW bits T') w' :=
 VF T hX ho bU dI fU hb hk hT hp hl
theorem O0 {X : Nat → Prop} {w : World} {bh bc : Nat} {bits c0 : Int} {T : Tr} {M : List En} {k : List UInt8} (hX : cY X w) (eY : aN w bc 213 ([.int .i64 c0])) (bU : aJ (fun c_ => X c_ ∨ c_ = bc) (fQ bh bc bits) w) (dI : aJ (fun c_ => X c_ ∨ c_ = bc) (cW bits T) w) (fU : aJ (fun c_ => X c_ ∨ c_ = bc) (aZ) w) (bS : 0 ≤ bits ∧ bits ≤ 256) (hk : k.length = 32) (hT : T.er = grow 0 M) (oA : Pm 0 M) (hlen : M.length ≤ 1000000000) :
  bC prog 52 [.pointer (some ⟨bh, 0, none⟩), T.ptr, .agg (kc k).toArray].toArray w fun v w' => ∃ (T' : Tr) (c : Int) (f : Bool), v = .tuple [T'.ptr, .bool f].toArray ∧ T'.er = grow 0 (fG M k) ∧ f = kI M k ∧ (f = false → T' = T ∧ c = c0) ∧ Out (· = bc) w w' ∧ aN w' bc 213 [.int .i64 c] ∧ aJ (fun c => X c ∨ c = bc) (cW bits T') w' := by
 refine bC.aH (N := 14) func52 rfl rfl (by simp) ?_
 have H := (((St.dG (b := bc) (t := 213) (l := [.int .i64 c0]) hX eY).add (cC fU)).add (cC dI)).add (cC bU)
 refine WE.aA ?_
 refine WL.box (l := kc k) H rfl rfl rfl ?_
 intro b5 w1 H
 refine WL.as rfl rfl (WL.as rfl rfl (WL.nil (WE.aA (WL.mv rfl rfl (WL.mv rfl rfl ?_)))))
 refine WL.bE rfl cZ rfl rfl (aN.aF (H.l 0 rfl) (aK.all _) rfl) (cK cL (by simp only [aS, aX, aB]; omega)) ?_
 refine WL.call aCJ rfl (aBT (T := T) (M := M) (k := k) (d := 0) (bits := bits) H.aR (H.o 0 rfl) (by exact H.aO 0 rfl 0 rfl) (by exact H.aO 0 rfl 1 rfl) (by exact H.aO 0 rfl 2 rfl) (by assumption) (by assumption) (by assumption) (by assumption) (by assumption)) ?_
 rintro _ w2 ⟨aKn, aJ5, aJs, rfl, aFx, aFb, aEV, hO, hB, hR⟩
 replace H := H.dH 0 rfl hO hB hR
 refine WL.pv (PV.extract rfl rfl rfl) rfl (WL.pv (PV.extract rfl rfl rfl) rfl (WL.as rfl rfl (WL.as rfl rfl (WL.nil (WE.ret ⟨[_, _], _, .nil _, ⟨rfl, rfl, trivial⟩, ?_⟩)))))
 exact ⟨aKn, aJ5, aJs, rfl, aFx, aFb, aEV, H.cR, H.o 0 rfl, H.fV (H.bK 0 rfl)⟩
def fB (v : Value) (ks : List (List UInt8)) (w : World) : Prop := cN w v 32 ks.length (ks.flatMap kc)
def K32 (ks : List (List UInt8)) : Prop := ∀ k ∈ ks, k.length = 32
theorem aCd : ∀ (ks : List (List UInt8)) (hk : K32 ks) (i : Nat) (hi : i < ks.length), ((ks.flatMap kc).drop (i * 32)).take 32 = kc ks[i] := by
 intro ks
 induction ks with
 | nil => intro _ i hi; simp at hi
 | cons x ks ih =>
  intro hk i hi
  have hx := hk x (by simp)
  have hl : (kc x).length = 32 := by rw [aI, hx]
  cases i with
  | zero =>
   rw [List.flatMap_cons, Nat.zero_mul, List.drop_zero, List.take_left' hl]; rfl
  | succ i =>
   rw [List.flatMap_cons, show (i + 1) * 32 = 32 + i * 32 by omega, ← List.drop_drop, List.drop_left' hl]
   exact ih (fun k h => hk k (List.mem_cons_of_mem _ h)) i (by simpa using hi)
theorem fB.rd {v : Value} {ks : List (List UInt8)} {w : World} (h : fB v ks w) (hk : K32 ks) (i : Nat) (hi : i < ks.length) : dA w (jN v (i * 32)) (kc ks[i]) := by
 have := cN.rd h i hi
 rwa [aCd ks hk i hi] at this
section
variable {α : Type} {C : α → List Value} {sz : Nat}
theorem dB : ∀ (l : List α), (∀ x ∈ l, (C x).length = sz) → (l.flatMap C).length = l.length * sz
 | [], _ => by simp
 | x :: l, h => by
  rw [List.flatMap_cons, List.length_append, h x (by simp), dB l (fun y hy => h y (List.mem_cons_of_mem _ hy)), List.length_cons, Nat.succ_mul]; omega
theorem A8 (l : List α) (h : ∀ x ∈ l, (C x).length = sz) (i : Nat) (hi : i < l.length) : l.flatMap C = (l.take i).flatMap C ++ (C l[i] ++ (l.drop (i + 1)).flatMap C) ∧ ((l.take i).flatMap C).length = i * sz := by
 refine ⟨?_, ?_⟩
 ·
  have e : l = l.take i ++ l[i] :: l.drop (i + 1) := by rw [← List.drop_eq_getElem_cons hi, List.take_append_drop]
  conv => lhs; rw [e]
  rw [List.flatMap_append, List.flatMap_cons]
 ·
  rw [dB _ (fun x hx => h x (List.mem_of_mem_take hx)), List.length_take]; congr 1; omega
theorem tD (l : List α) (h : ∀ x ∈ l, (C x).length = sz) (i : Nat) (hi : i < l.length) : ((l.flatMap C).drop (i * sz)).take sz = C l[i] := by
 obtain ⟨e, e2⟩ := A8 l h i hi
 rw [e, List.drop_left' e2, List.take_left' (h _ (List.getElem_mem hi))]
theorem LL (l : List α) (h : ∀ x ∈ l, (C x).length = sz) (rest : List Value) (lo : Nat) (hlo : lo ≤ l.length) : aK (l.flatMap C ++ rest) (lo * sz) ((l.drop lo).flatMap C) := by
 refine ⟨(l.take lo).flatMap C, rest, ?_, ?_⟩
 ·
  rw [← List.append_assoc, ← List.flatMap_append, List.take_append_drop]
 ·
  rw [dB _ (fun x hx => h x (List.mem_of_mem_take hx)), List.length_take]; congr 1; omega
theorem oE (l : List α) (h : ∀ x ∈ l, (C x).length = sz) (rest : List Value) {i oo : Nat} (hi : i < l.length) {x : α} (hx : (C x).length = sz) (ho : oo = i * sz) : Laid (l.flatMap C ++ rest) oo (C x) ((l.set i x).flatMap C ++ rest) := by
 subst ho
 refine Laid.left ?_
 obtain ⟨e, e2⟩ := A8 l h i hi
 have e3 : (l.set i x).flatMap C = (l.take i).flatMap C ++ (C x ++ (l.drop (i + 1)).flatMap C) := by
  rw [List.set_eq_take_append_cons_drop, if_pos hi, List.flatMap_append, List.flatMap_cons]
 rw [e, e3]
 exact Laid.right (o := 0) (Laid.left (Laid.all (by rw [h _ (List.getElem_mem hi), hx]))) (by rw [e2]; omega)
theorem FQ (l : List α) (h : ∀ x ∈ l, (C x).length = sz) (t : Nat) (ht : t ≤ l.length) (rest : List Value) : (l.flatMap C ++ rest).take (t * sz) = (l.take t).flatMap C := by
 have h1 : ((l.take t).flatMap C).length = t * sz := by rw [dB _ (fun x hx => h x (List.mem_of_mem_take hx)), List.length_take]; congr 1; omega
 have h2 : l.flatMap C = (l.take t).flatMap C ++ (l.drop t).flatMap C := by rw [← List.flatMap_append, List.take_append_drop]
 rw [h2, List.append_assoc, List.take_left' h1]
theorem LK (l : List α) (h : ∀ x ∈ l, (C x).length = sz) (lo n : Nat) (hlo : lo + n ≤ l.length) : ((l.flatMap C).drop (lo * sz)).take (n * sz) = ((l.drop lo).take n).flatMap C := by
 have h2 : l.flatMap C = (l.take lo).flatMap C ++ (l.drop lo).flatMap C := by rw [← List.flatMap_append, List.take_append_drop]
 have h1 : ((l.take lo).flatMap C).length = lo * sz := by rw [dB _ (fun x hx => h x (List.mem_of_mem_take hx)), List.length_take]; congr 1; omega
 rw [h2, List.drop_left' h1]
 have := FQ (C := C) (l.drop lo) (fun x hx => h x (List.mem_of_mem_drop hx)) n (by rw [List.length_drop]; omega) []
 rwa [List.append_nil] at this
end
structure Ch where
 k : List UInt8
 s : Value
 v : List UInt8
 d : Bool
def eC (c : Ch) : List Value := kc c.k ++ ([c.s] ++ [.bool c.d])
def XL (l : List Ch) : Prop := ∀ c ∈ l, c.k.length = 32
def gJ (v : Value) (l : List Ch) (w : World) : Prop := cN w v 34 l.length (l.flatMap eC)
def gI (l : List Ch) (w : World) : Prop := ∀ c ∈ l, bJ c.s c.v w
def r9 (l : List Ch) : Prop := l.Pairwise fun a b => num a.k < num b.k
def nL (l : List Ch) : Prop := ∀ c ∈ l, c.v.length ≤ 1000000
theorem iV {c : Ch} (h : c.k.length = 32) : (eC c).length = 34 := by simp [eC, aI, h]
theorem XL.len {l : List Ch} (h : XL l) : ∀ c ∈ l, (eC c).length = 34 := fun c hc => iV (h c hc)
theorem XL.take {l : List Ch} (h : XL l) (i : Nat) : XL (l.take i) := fun c hc => h c (List.mem_of_mem_take hc)
theorem XL.drop {l : List Ch} (h : XL l) (i : Nat) : XL (l.drop i) := fun c hc => h c (List.mem_of_mem_drop hc)
theorem XL.sub {l m : List Ch} (h : XL l) (hs : ∀ c ∈ m, c ∈ l) : XL m := fun c hc => h c (hs c hc)
theorem gI.sub {l m : List Ch} {w : World} (h : gI l w) (hs : ∀ c ∈ m, c ∈ l) : gI m w := fun c hc => h c (hs c hc)
theorem k3 {c : Ch} (h : c.s.oneCell' = true) : eN (eC c) := bN (bG _) (bN (eE h) (bA _ rfl))
theorem gJ.rd {v : Value} {l : List Ch} {w : World} (h : gJ v l w) (hk : XL l) (i : Nat) (hi : i < l.length) : dA w (jN v (i * 34)) (eC l[i]) := by
 have := cN.rd h i hi
 rwa [tD l hk.len i hi] at this
theorem gJ.sub {v : Value} {l : List Ch} {w : World} (h : gJ v l w) (hk : XL l) {lo hi : Nat} (h1 : lo ≤ hi) (h2 : hi ≤ l.length) : gJ (jJ v 34 lo hi) ((l.drop lo).take (hi - lo)) w := by
 have := cN.sub h h1 h2
 rw [LK l hk.len lo (hi - lo) (by omega)] at this
 unfold gJ
 rwa [show ((l.drop lo).take (hi - lo)).length = hi - lo by simp; omega]
theorem gJ.MY {v : Value} {l : List Ch} {w : World} (h : gJ v l w) (hk : XL l) {lo hi : Nat} (h1 : lo ≤ hi) (h2 : hi ≤ l.length) : gJ (nE v 34 lo hi) ((l.drop lo).take (hi - lo)) w := by
 have := cN.MY h h1 h2
 rw [LK l hk.len lo (hi - lo) (by omega)] at this
 unfold gJ
 rwa [show ((l.drop lo).take (hi - lo)).length = hi - lo by simp; omega]
def Ch.en (c : Ch) : En := ⟨c.k, c.s, c.v⟩
def yW (m : List En) (c : Ch) : List En := if c.d then fG m c.k else fS m c.en
def lU (m : List En) (l : List Ch) : List En := l.foldl yW m
theorem ZU {m : List En} {c : Ch} (h : j7 m) (hk : KL m) (hc : c.k.length = 32) : j7 (yW m c) ∧ KL (yW m c) := by
 unfold yW
 split
 ·
  exact ⟨h.filter _, fun e he => hk e (jG.1 he).1⟩
 ·
  exact ⟨sN h hk hc, wC hk hc⟩
theorem K4 {m : List En} {c : Ch} {e : En} : e ∈ yW m c ↔ (c.d = false ∧ e = c.en) ∨ (e ∈ m ∧ e.k ≠ c.k) := by
 unfold yW
 split
 ·
  rename_i h
  rw [jG, h]; simp
 ·
  rename_i h
  have h2 : c.d = false := by simpa using h
  rw [mB, h2]; simp [Ch.en]
theorem kY : ∀ (l : List Ch) (m : List En), j7 m → KL m → XL l → j7 (lU m l) ∧ KL (lU m l)
 | [], _, h, hk, _ => ⟨h, hk⟩
 | c :: l, m, h, hk, hx => by
  have h1 := ZU h hk (hx c (by simp))
  exact kY l (yW m c) h1.1 h1.2 fun d hd => hx d (List.mem_cons_of_mem _ hd)
theorem kC : ∀ (l : List Ch) (m : List En) (e : En), r9 l → (e ∈ lU m l ↔ (∃ c ∈ l, c.d = false ∧ e = c.en) ∨ (e ∈ m ∧ ∀ c ∈ l, e.k ≠ c.k))
 | [], m, e, _ => by simp [lU]
 | c :: l, m, e, hl => by
  have h1 := List.pairwise_cons.1 hl
  have ih := kC l (yW m c) e h1.2
  show e ∈ lU (yW m c) l ↔ _
  rw [ih, K4]
  constructor
  ·
   rintro (⟨x, hx, h2, h3⟩ | ⟨⟨h2, h3⟩ | ⟨h2, h3⟩, h4⟩)
   ·
    exact .inl ⟨x, List.mem_cons_of_mem _ hx, h2, h3⟩
   ·
    exact .inl ⟨c, by simp, h2, h3⟩
   ·
    refine .inr ⟨h2, fun x hx => ?_⟩
    rcases List.mem_cons.1 hx with rfl | hx
    ·
     exact h3
    ·
     exact h4 x hx
  ·
   rintro (⟨x, hx, h2, h3⟩ | ⟨h2, h3⟩)
   ·
    rcases List.mem_cons.1 hx with rfl | hx
    ·
     refine .inr ⟨.inl ⟨h2, h3⟩, fun y hy => ?_⟩
     have := h1.1 y hy
     rw [h3]
     intro hh
     have : num x.k = num y.k := congrArg num hh
     omega
    ·
     exact .inl ⟨x, hx, h2, h3⟩
   ·
    exact .inr ⟨.inr ⟨h2, h3 c (by simp)⟩, fun y hy => h3 y (List.mem_cons_of_mem _ hy)⟩
theorem r9.sub {l m : List Ch} (h : r9 l) (hs : m.Sublist l) : r9 m := List.Pairwise.sublist hs h
def lS (l : List Ch) (d b : Nat) : List Ch := l.filter fun c => bI c.k d == b
theorem AO (l : List Ch) (d b : Nat) : (lS l d b).Sublist l := List.filter_sublist
theorem iF {l : List Ch} {d b : Nat} {c : Ch} : c ∈ lS l d b ↔ c ∈ l ∧ bI c.k d = b := by simp [lS]
theorem GM {m : List En} {l : List Ch} {d b : Nat} (hs : j7 m) (hk : KL m) (hx : XL l) (hl : r9 l) : bO (lU m l) d b = lU (bO m d b) (lS l d b) := by
 have h1 := kY l m hs hk hx
 have h2 := kY (lS l d b) (bO m d b) hs.part (fun e he => hk e (iG.1 he).1) (hx.sub fun c hc => (iF.1 hc).1)
 refine j7.ext h1.1.part h2.1 fun e => ?_
 rw [iG, kC _ _ _ hl, kC _ _ _ (hl.sub (AO l d b))]
 constructor
 ·
  rintro ⟨⟨c, hc, h3, rfl⟩ | ⟨h3, h4⟩, h5⟩
  ·
   exact .inl ⟨c, iF.2 ⟨hc, h5⟩, h3, rfl⟩
  ·
   exact .inr ⟨iG.2 ⟨h3, h5⟩, fun c hc => h4 c (iF.1 hc).1⟩
 ·
  rintro (⟨c, hc, h3, rfl⟩ | ⟨h3, h4⟩)
  ·
   exact ⟨.inl ⟨c, (iF.1 hc).1, h3, rfl⟩, (iF.1 hc).2⟩
  ·
   have h5 := iG.1 h3
   refine ⟨.inr ⟨h5.1, fun c hc hh => ?_⟩, h5.2⟩
   exact h4 c (iF.2 ⟨hc, by rw [← hh]; exact h5.2⟩) hh
def pN (d : Nat) (m : List En) (l : List Ch) : Prop := ∃ p, (∀ e ∈ m, pre d e.k = p) ∧ ∀ c ∈ l, pre d c.k = p
theorem pN.part {d b : Nat} {m : List En} {l : List Ch} (h : pN d m l) (hd : d < 256) (hk : KL m) (hx : XL l) : pN (d + 1) (bO m d b) (lS l d b) := by
 obtain ⟨p, h1, h2⟩ := h
 refine ⟨2 * p + b, fun e he => ?_, fun c hc => ?_⟩
 ·
  have := iG.1 he
  rw [lD _ (hk e this.1) d hd, h1 e this.1, this.2]
 ·
  have := iF.1 hc
  rw [lD _ (hx c this.1) d hd, h2 c this.1, this.2]
theorem pN.zero {m : List En} {l : List Ch} (hk : KL m) (hx : XL l) : pN 0 m l := ⟨0, fun e he => nU _ (hk e he), fun c hc => nU _ (hx c hc)⟩
theorem aC5 {d : Nat} {m : List En} {l : List Ch} (hd : d ≤ 256) (hs : j7 m) (hk : KL m) (hx : XL l) (hl : r9 l) (hn : pN d m l) : Pm d (lU m l) where
 le := hd
 kl := (kY l m hs hk hx).2
 N9 := (kY l m hs hk hx).1.N9
 ZI := by
  obtain ⟨p, h1, h2⟩ := hn
  have h : ∀ e ∈ lU m l, pre d e.k = p := fun e he => by
   rcases (kC _ _ _ hl).1 he with ⟨c, hc, _, rfl⟩ | ⟨he, _⟩
   ·
    exact h2 c hc
   ·
    exact h1 e he
  exact fun a ha b hb => (h a ha).trans (h b hb).symm
theorem pN.one {m : List En} {l : List Ch} (h : pN 256 m l) (hx : XL l) (hl : r9 l) : l.length ≤ 1 := by
 obtain ⟨p, _, h2⟩ := h
 match l, hx, hl, h2 with
 | [], _, _, _ => simp
 | [a], _, _, _ => simp
 | a :: b :: l, _, hl, h2 =>
  exfalso
  have h3 := (List.pairwise_cons.1 hl).1 b (by simp)
  have h4 := h2 a (by simp)
  have h5 := h2 b (by simp)
  rw [p7] at h4 h5
  omega
def eP (l : List Ch) : List Ch := l.filter fun c => !c.d
theorem AY (l : List Ch) : (eP l).Sublist l := List.filter_sublist
theorem jH {l : List Ch} {c : Ch} : c ∈ eP l ↔ c ∈ l ∧ c.d = false := by simp [eP]
theorem UW {l : List Ch} (hx : XL l) (hl : r9 l) : lU [] (eP l) = lU [] l := by
 have h0 : j7 ([] : List En) := List.Pairwise.nil
 have h1 : KL ([] : List En) := fun _ h => by cases h
 refine j7.ext (kY _ _ h0 h1 (hx.sub fun c hc => (jH.1 hc).1)).1 (kY _ _ h0 h1 hx).1 fun e => ?_
 rw [kC _ _ _ (hl.sub (AY l)), kC _ _ _ hl]
 constructor
 ·
  rintro (⟨c, hc, h2, h3⟩ | ⟨h, _⟩)
  ·
   exact .inl ⟨c, (jH.1 hc).1, h2, h3⟩
  ·
   cases h
 ·
  rintro (⟨c, hc, h2, h3⟩ | ⟨h, _⟩)
  ·
   exact .inl ⟨c, jH.2 ⟨hc, h2⟩, h2, h3⟩
  ·
   cases h
theorem OR {l : List Ch} {e : En} (hx : XL l) (hl : r9 l) (he : e.k.length = 32) (h : ∃ c ∈ l, c.k = e.k) : lU [e] l = lU [] l := by
 have h0 : j7 ([] : List En) := List.Pairwise.nil
 have h1 : KL ([] : List En) := fun _ h => by cases h
 have h2 : j7 [e] := List.pairwise_cons.2 ⟨(fun _ h => by cases h), .nil⟩
 have h3 : KL [e] := fun x hx => by rw [List.mem_singleton.1 hx]; exact he
 refine j7.ext (kY _ _ h2 h3 hx).1 (kY _ _ h0 h1 hx).1 fun x => ?_
 rw [kC _ _ _ hl, kC _ _ _ hl]
 obtain ⟨c, hc, hk⟩ := h
 constructor
 ·
  rintro (h | ⟨h4, h5⟩)
  ·
   exact .inl h
  ·
   rw [List.mem_singleton.1 h4] at h5
   exact absurd hk.symm (h5 c hc)
 ·
  rintro (h | ⟨h4, _⟩)
  ·
   exact .inl h
  ·
   cases h4
theorem MC {l l' : List Ch} {e : En} (hx : XL l) (hl : r9 l) (SF : r9 l') (he : e.k.length = 32) (hn : ∀ c ∈ l, c.k ≠ e.k) (hm : ∀ c, c ∈ l' ↔ c = ⟨e.k, e.s, e.v, false⟩ ∨ c ∈ l) : lU [] l' = lU [e] l := by
 have h0 : j7 ([] : List En) := List.Pairwise.nil
 have h1 : KL ([] : List En) := fun _ h => by cases h
 have h2 : j7 [e] := List.pairwise_cons.2 ⟨(fun _ h => by cases h), .nil⟩
 have h3 : KL [e] := fun x hx => by rw [List.mem_singleton.1 hx]; exact he
 have hx' : XL l' := fun c hc => by
  rcases (hm c).1 hc with rfl | h
  ·
   exact he
  ·
   exact hx c h
 refine j7.ext (kY _ _ h0 h1 hx').1 (kY _ _ h2 h3 hx).1 fun x => ?_
 rw [kC _ _ _ SF, kC _ _ _ hl]
 constructor
 ·
  rintro (⟨c, hc, h4, h5⟩ | ⟨h, _⟩)
  ·
   rcases (hm c).1 hc with rfl | hc
   ·
    exact .inr ⟨by rw [h5]; exact List.mem_singleton.2 rfl, fun c hc hh => hn c hc (by rw [← hh, h5]; rfl)⟩
   ·
    exact .inl ⟨c, hc, h4, h5⟩
  ·
   cases h
 ·
  rintro (⟨c, hc, h4, h5⟩ | ⟨h4, h5⟩)
  ·
   exact .inl ⟨c, (hm c).2 (.inr hc), h4, h5⟩
  ·
   exact .inl ⟨_, (hm _).2 (.inl rfl), rfl, List.mem_singleton.1 h4⟩
theorem ZT (l : List Ch) : ∀ m : List En, (lU m l).length ≤ m.length + l.length := by
 induction l with
 | nil => intro m; simp [lU]
 | cons c l ih =>
  intro m
  have h := ih (yW m c)
  have h1 : (yW m c).length ≤ m.length + 1 := by
   unfold yW
   split
   ·
    have := List.length_filter_le (fun x => decide (x.k ≠ c.k)) m; show (fG m c.k).length ≤ _; unfold fG; omega
   ·
    exact xJ m c.en
  show (lU (yW m c) l).length ≤ _
  rw [List.length_cons]; omega
theorem EP {l : List Ch} {d : Nat} {m : List En} (hx : XL l) (hl : r9 l) (hn : pN d m l) (hd : d < 256) {r : Nat} (hr : r ≤ l.length) (hlo : ∀ i (h : i < l.length), i + 1 = r → bI l[i].k d ≠ 1) (hhi : ∀ h : r < l.length, bI l[r].k d = 1) : l.take r = lS l d 0 ∧ l.drop r = lS l d 1 := by
 obtain ⟨p, _, hp⟩ := hn
 have aAQ : ∀ i j (hij : i < j) (hj : j < l.length), bI (l[i]'(by omega)).k d = 1 → bI l[j].k d = 1 := fun i j hij hj h1 => by
  have hi : i < l.length := by omega
  have hb := dX l[j].k d
  have hn' := List.pairwise_iff_getElem.1 hl i j hi hj hij
  rcases (show bI l[j].k d = 0 ∨ bI l[j].k d = 1 by omega) with h0 | h0
  ·
   have := AX (hx _ (List.getElem_mem hj)) (hx _ (List.getElem_mem hi)) hd ((hp _ (List.getElem_mem hj)).trans (hp _ (List.getElem_mem hi)).symm) h0 h1
   omega
  ·
   exact h0
 have h0 : ∀ c ∈ l.take r, bI c.k d = 0 := fun c hc => by
  obtain ⟨i, hi, rfl⟩ := List.getElem_of_mem hc
  rw [List.length_take] at hi
  rw [List.getElem_take]
  have hb := dX (l[i]'(by omega)).k d
  rcases (show bI (l[i]'(by omega)).k d = 0 ∨ bI (l[i]'(by omega)).k d = 1 by omega) with h | h
  ·
   exact h
  ·
   exfalso
   have h2 := hlo (r - 1) (by omega) (by omega)
   apply h2
   rcases Nat.lt_or_ge i (r - 1) with h3 | h3
   ·
    exact aAQ i (r - 1) h3 (by omega) h
   ·
    have : i = r - 1 := by omega
    subst this; exact h
 have h1 : ∀ c ∈ l.drop r, bI c.k d = 1 := fun c hc => by
  obtain ⟨i, hi, rfl⟩ := List.getElem_of_mem hc
  rw [List.length_drop] at hi
  rw [List.getElem_drop]
  rcases Nat.eq_zero_or_pos i with h | h
  ·
   subst h; exact hhi (by omega)
  ·
   exact aAQ r (r + i) (by omega) (by omega) (hhi (by omega))
 have e : l = l.take r ++ l.drop r := (List.take_append_drop r l).symm
 constructor
 ·
  unfold lS
  conv => rhs; rw [e]
  rw [List.filter_append, List.filter_eq_self.2 (fun c hc => by rw [h0 c hc]; rfl), List.filter_eq_nil_iff.2 (fun c hc => by rw [h1 c hc]; simp), List.append_nil]
 ·
  unfold lS
  conv => rhs; rw [e]
  rw [List.filter_append, List.filter_eq_nil_iff.2 (fun c hc => by rw [h0 c hc]; simp), List.filter_eq_self.2 (fun c hc => by rw [h1 c hc]; rfl), List.nil_append]
theorem aA2 {α : Type} {l : List α} {z : α} {i m : Nat} (h : i < l.length) : (l.take i ++ List.replicate (m + 1) z).set i l[i] = l.take (i + 1) ++ List.replicate m z := by
 have h1 : (l.take i).length = i := by rw [List.length_take]; omega
 rw [List.set_append_right (h := by omega), h1, Nat.sub_self, List.replicate_succ, List.set_cons_zero, List.take_succ_eq_append_getElem h, List.append_assoc]
 rfl
def KS (l : List Ch) (i : Nat) : List (List UInt8) := (l.map Ch.k).take i ++ List.replicate (l.length - i) (List.replicate 32 0)
theorem VP {l : List Ch} (h : XL l) (i : Nat) : ∀ k ∈ KS l i, (kc k).length = 32 := fun k hk => by
 rcases List.mem_append.1 hk with hk | hk
 ·
  obtain ⟨c, hc, rfl⟩ := List.mem_map.1 (List.mem_of_mem_take hk)
  rw [aI]; exact h c hc
 ·
  rw [(List.mem_replicate.1 hk).2]; simp [aI]
theorem aDr (l : List Ch) {i : Nat} (hi : i ≤ l.length) : (KS l i).length = l.length := by simp [KS]; omega
theorem aDq {l : List Ch} {i : Nat} (hi : i < l.length) : (KS l i).set i l[i].k = KS l (i + 1) := by
 have h := aA2 (l := l.map Ch.k) (z := List.replicate 32 (0 : UInt8)) (i := i) (m := l.length - (i + 1)) (by rw [List.length_map]; exact hi)
 rw [List.getElem_map] at h
 unfold KS
 rw [show l.length - i = l.length - (i + 1) + 1 by omega]
 exact h
theorem VQ (l : List Ch) : KS l l.length = l.map Ch.k := by
 unfold KS
 rw [List.take_of_length_le (by simp), Nat.sub_self]; simp
theorem wO (n m : Nat) (z : Value) (hm : 0 < m) : jM n (List.replicate m z) = List.replicate (n * m) z := by
 unfold jM
 simp only [List.length_replicate]
 refine List.ext_getElem (by simp) fun i h1 h2 => ?_
 rw [List.getElem_replicate, List.getElem_map, getElem!_pos (List.replicate m z) _ (by rw [List.length_replicate]; exact Nat.mod_lt _ hm), List.getElem_replicate]
theorem Z9 (l : List Ch) : (KS l 0).flatMap kc = jM l.length (kc (List.replicate 32 0)) := by
 have e : kc (List.replicate 32 0) = List.replicate 32 (.int .u8 0) := by rfl
 have h1 : (KS l 0).flatMap kc = List.replicate (l.length * 32) (.int .u8 0) := by
  unfold KS
  rw [List.take_zero, List.nil_append, Nat.sub_zero, List.flatMap_replicate, e, List.flatten_replicate_replicate]
 rw [h1, e, wO _ _ _ (by decide)]
theorem GU {l : List Ch} (h : XL l) : K32 (l.map Ch.k) := fun k hk => by
 obtain ⟨c, hc, rfl⟩ := List.mem_map.1 hk
 exact h c hc
theorem UB {X : Nat → Prop} {w : World} {k : List UInt8} {s : Value} {d : Bool} (hX : cY X w) (hk : k.length = 32) :
  bC prog 146 [.agg (kc k ++ ([s] ++ [Value.bool d])).toArray].toArray w fun v w' => v = .agg (kc k).toArray ∧ Out Nil w w' := by
 refine bC.aH (N := 5) func146 rfl rfl (by simp) ?_
 have H := St.begin hX
 refine WE.aA ?_
 refine WL.box (l := kc k ++ ([s] ++ [Value.bool d])) H rfl (rfl) rfl ?_
 intro b1 w1 H
 refine WL.alloc H rfl qY rfl ?_
 intro b2 w2 H
 refine WL.nil (WE.aA (WL.pv (PV.fieldAddr rfl qP rfl) rfl ?_))
 refine WL.bE rfl cZ rfl rfl (aN.aF (H.l 1 rfl) (aK.l (aK.all _)) rfl) (cK cL (by simp only [aS]; omega)) ?_
 refine WL.aW H 0 rfl rfl rfl (new := _) rfl (cK cL (by simp only [aS]; omega)) (bG _) (Laid.at (Laid.all (by simp only [aS]; omega)) rfl) rfl ?_
 intro w3 H
 refine WL.nil (WE.ret ⟨[_], _, .nil _, ⟨⟨_, rfl, aU cZ (aN.aF (H.l 0 rfl) (aK.all _) rfl) (cK cL (by simp only [aS]; omega))⟩, trivial⟩, ?_⟩)
 exact ⟨rfl, H.aL⟩
theorem UR {X : Nat → Prop} {w : World} {k : List UInt8} {s : Value} {d : Bool} (hX : cY X w) (hk : k.length = 32) :
  bC prog 152 [.agg (kc k ++ ([s] ++ [Value.bool d])).toArray].toArray w fun v w' => v = .agg (kc k).toArray ∧ Out Nil w w' := by
 refine bC.aH (N := 5) func152 rfl rfl (by simp) ?_
 have H := St.begin hX
 refine WE.aA ?_
 refine WL.box (l := kc k ++ ([s] ++ [Value.bool d])) H rfl (rfl) rfl ?_
 intro b1 w1 H
 refine WL.alloc H rfl qY rfl ?_
 intro b2 w2 H
 refine WL.nil (WE.aA (WL.pv (PV.fieldAddr rfl qP rfl) rfl ?_))
 refine WL.bE rfl cZ rfl rfl (aN.aF (H.l 1 rfl) (aK.l (aK.all _)) rfl) (cK cL (by simp only [aS]; omega)) ?_
 refine WL.aW H 0 rfl rfl rfl (new := _) rfl (cK cL (by simp only [aS]; omega)) (bG _) (Laid.at (Laid.all (by simp only [aS]; omega)) rfl) rfl ?_
 intro w3 H
 refine WL.nil (WE.ret ⟨[_], _, .nil _, ⟨⟨_, rfl, aU cZ (aN.aF (H.l 0 rfl) (aK.all _) rfl) (cK cL (by simp only [aS]; omega))⟩, trivial⟩, ?_⟩)
 exact ⟨rfl, H.aL⟩
theorem US {X : Nat → Prop} {w : World} {k : List UInt8} {s : Value} {d : Bool} (hX : cY X w) (hk : k.length = 32) :
  bC prog 150 [.agg (kc k ++ ([s] ++ [Value.bool d])).toArray].toArray w fun v w' => v = .bool d ∧ Out Nil w w' := by
 refine bC.aH (N := 5) func150 rfl rfl (by simp) ?_
 have H := St.begin hX
 refine WE.aA ?_
 refine WL.box (l := kc k ++ ([s] ++ [Value.bool d])) H rfl (rfl) rfl ?_
 intro b1 w1 H
 refine WL.as rfl rfl (WL.nil (WE.aA (WL.pv (PV.fieldAddr rfl Y5 rfl) rfl ?_)))
 refine WL.aY rfl u4 rfl rfl (aN.aF (H.l 0 rfl) (aK.r (aK.r (aK.all _) rfl) rfl) (by simp [aI, aQ, *])) ?_
 refine WL.as rfl rfl (WL.nil (WE.ret ⟨[_], _, .nil _, ⟨rfl, trivial⟩, ?_⟩))
 exact ⟨rfl, H.aL⟩
theorem R2 {X : Nat → Prop} {w : World} {s f : Value} {l : List Ch} (hX : cY X w) (bU : aJ X (gJ s l) w) (hx : XL l) (hlen : l.length ≤ 1000000) (gK : ∀ c ∈ l, c.s.oneCell' = true) (hf : ∀ (c : Ch) (W : World), c.k.length = 32 → eQ prog f [.agg (eC c).toArray] W fun v W' => v = .agg (kc c.k).toArray ∧ Out Nil W W') :
  bC prog 145 [s, f].toArray w fun v w' => Out Nil w w' ∧ aJ X (fB v (l.map Ch.k)) w' := by
 refine bC.aH (N := 26) func145 rfl rfl (by simp) ?_
 have H := (St.begin hX).add (cE bU)
 refine WE.aA (WL.as rfl rfl (WL.nil (WE.aA (WL.mv rfl rfl ?_))))
 refine WL.pv (PV.dR (by exact (H.p 0 rfl : gJ s l _)) dZ rfl) rfl ?_
 refine WL.makeSlice (n := l.length) H rfl aEc rfl (by omega) (by omega) rfl ?_
 intro u0 w2 H
 replace H := H.conv (L' := [aP.blk u0 24 ((KS l 0).flatMap kc)]) (by rw [Z9])
 refine WL.as rfl rfl (WL.nil (WE.seq (WE.aA (WL.mv rfl rfl ?_))))
 refine WL.pv (PV.dR (by exact (H.p 0 rfl : gJ s l _)) dZ rfl) rfl ?_
 refine WL.mv rfl rfl (WL.nil (WE.block ?_))
 refine WE.loop (α := Nat) (rg [(6, 2), (13, 12)]) (fun i => [(13, .int .i64 (i : Int))]) (fun i wl => i ≤ l.length ∧ St X w wl [] [aP.blk u0 24 ((KS l i).flatMap kc)] [gJ s l]) (fun i => l.length - i) 0 ⟨rfl, trivial⟩ ⟨Nat.zero_le _, H⟩ ?_
 intro i γ0 w4 hI
 try dsimp only at hI
 obtain ⟨hi, H⟩ := hI
 refine WE.aA (WL.pv (PV.lss rfl rfl rfl) rfl (WL.nil (WE.seq ?_)))
 refine WE.cond rfl (fun rT => ?_) (fun rT => ?_)
 ·
  try simp only [bW] at rT
  have hlt : i < l.length := by omega
  have hki := hx _ (List.getElem_mem hlt)
  have I8 := iV hki
  have hks := aDq hlt
  refine WE.skip (WE.seq (WE.block (WE.aA (WL.mv rfl rfl ?_))))
  refine WL.pv (PV.eA rfl (by exact (H.p 0 rfl : gJ s l _)) dZ eH rfl rfl (by omega) (by omega)) rfl ?_
  refine WL.bE rfl tJ rfl rfl (gJ.rd (by exact (H.p 0 rfl : gJ s l _)) hx i hlt) (by (rw [eH]; refine congrArg some ?_; (simp [aI, aQ, *]; done))) ?_
  refine WL.alloc H rfl wQ rfl ?_
  intro b7 w5 H
  refine WL.as rfl rfl ?_
  refine WL.aW H 0 rfl rfl rfl (new := eC l[i]) rfl (by (rw [eH]; refine congrArg some ?_; (simp [aI, aQ, *]; done))) (k3 (gK _ (List.getElem_mem hlt))) (Laid.at (Laid.all (by simp only [aS]; omega)) rfl) rfl ?_
  intro w6 H
  refine WL.nil (WE.dY (WL.mv rfl rfl (WL.mv rfl rfl (WL.mv rfl rfl ?_))))
  refine WL.bE rfl tJ rfl rfl (aN.aF (H.l 0 rfl) (aK.all _) rfl) (by (rw [eH]; refine congrArg some ?_; (simp [aI, aQ, *]; done))) ?_
  refine WL.iW rfl rfl (hf l[i] _ hki) ?_
  rintro _ w8 ⟨rfl, hO⟩
  replace H := H.out hO
  refine WL.pv (PV.eq (v' := .pointer (some ⟨u0, i * 32, none⟩)) (PV.sY rfl wZ cL rfl rfl (by omega) (by omega)) (by simp)) rfl ?_
  refine WL.aW H 1 rfl rfl rfl (new := kc l[i].k) rfl (cK cL (by simp only [aS]; omega)) (bG _) (by have h_ := oE (C := kc) (KS l i) (VP hx i) [] (i := i) (x := l[i].k) (by rw [aDr _ (by omega)]; exact hlt) (by rw [aI]; exact hki) rfl; rw [List.append_nil, List.append_nil] at h_; exact h_) rfl ?_
  intro tM H
  refine WL.nil (WE.dY (WL.pv (PV.eq (v' := .int .i64 ((i + 1 : Nat) : Int)) (PV.bT rfl rfl rfl (by omega) (by omega)) rfl) rfl (WL.mv rfl rfl (WL.nil ?_))))
  replace H := H.forget 0
  exact ⟨i + 1, (by repeat (first | with_reducible exact bM.refl _ _ | refine bM.dD rfl ?_ | refine bM.bY rfl ?_ | refine bM.bV rfl ?_)), ⟨rfl, trivial⟩, rfl, ⟨by omega, H.conv (by rw [← hks]; rfl)⟩, (by omega)⟩
 ·
  try simp only [bW] at rT
  have tO : i = l.length := by omega
  refine WE.exit (WE.aA (WL.mv rfl rfl (WL.as rfl rfl (WL.nil (WE.ret ⟨[_], _, .nil _, ⟨rfl, trivial⟩, ?_⟩)))))
  subst tO
  rw [VQ] at H
  replace H := H.freeze (i := 0) rfl
  exact ⟨H.aL, H.gF ((H.bK 0 rfl).imp fun _ h => by have h_ := cN.bZ (n := l.length) h (by rw [dB _ (VP hx l.length |> fun q => by rw [VQ] at q; exact q), List.length_map]); unfold fB; rw [List.length_map]; exact h_)⟩
def wH (g : FuncId) : Value := .func (.func g) ([] : List Value).toArray ([] : List Value).toArray
theorem F6 (c : Ch) (W : World) (h : c.k.length = 32) : eQ prog (wH 146) [.agg (eC c).toArray] W fun v W' => v = .agg (kc c.k).toArray ∧ Out Nil W W' :=
 eQ.jL (fs := []) (cs := []) aGN (UB (X := Nil) (fun _ h => h.elim) h)
theorem GJ (c : Ch) (W : World) (h : c.k.length = 32) : eQ prog (wH 152) [.agg (eC c).toArray] W fun v W' => v = .agg (kc c.k).toArray ∧ Out Nil W W' :=
 eQ.jL (fs := []) (cs := []) aGI (UR (X := Nil) (fun _ h => h.elim) h)
theorem GK (c : Ch) (W : World) (h : c.k.length = 32) : eQ prog (wH 150) [.agg (eC c).toArray] W fun v W' => v = .bool c.d ∧ Out Nil W W' :=
 eQ.jL (fs := []) (cs := []) aGK (US (X := Nil) (fun _ h => h.elim) h)
open Go.ChangeShapes Go.WideShapes Go.ChangeAt
instance : Inhabited En := ⟨⟨[], .slice none 0 0, []⟩⟩
open Go.ChangeShapes Go.WideShapes Go.ChangeAt
end Go.Sp.Tryz
