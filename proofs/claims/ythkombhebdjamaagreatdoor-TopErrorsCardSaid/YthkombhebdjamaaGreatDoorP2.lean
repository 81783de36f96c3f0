/- Part of the proof of this claim: walks through the program's functions and the plain laws that they need, printed by a program of this session. -/
import Derived.Test.YthkombhebdjamaaGreatDoorP1
import Derived.Test.YthkombhebdjamaaGreatDoorMore
import Derived.Test.YthkombhebdjamaaGreatDoorExt
import Derived.Test.YthkombhebdjamaaGreatDoorDfr
import Derived.Test.YthkombhebdjamaaGreatDoorStr
import Derived.Test.YthkombhebdjamaaGreatDoorOpen
set_option maxRecDepth 100000
set_option maxHeartbeats 1000000
set_option linter.unusedVariables false
set_option linter.unusedSimpArgs false
namespace Go.Sp.Tryz
open Go.Proofs Go.RowKit Go.Sp Go.Sp.TryzT Go.Proofs.Tryz
variable {X : Nat → Prop} {w : World}
def qO (m : List En) : Prop := ∀ e ∈ m, e.s.oneCell' = true
theorem qO.of {m : List En} {w : World} (h : eC m w) : qO m := fun e he => cO.fW (h e he)
theorem s6 {e : En} (h : e.s.oneCell' = true) : eO (oT e) := bN (bH _) (bB _ (by simp [h]))
theorem IY (m : List En) (d b k : Nat) (h : k < m.length) : bO (m.take (k + 1)) d b = bO (m.take k) d b ++ (if bI m[k].k d = b then [m[k]] else []) := by
 unfold bO
 rw [List.take_succ_eq_append_getElem h, List.filter_append]
 by_cases hb : bI m[k].k d = b <;> simp [hb]
theorem Q9 (m : List En) (q : List UInt8) (k : Nat) (h : k < m.length) : fJ (m.take (k + 1)) q = fJ (m.take k) q ++ (if m[k].k ≠ q then [m[k]] else []) := by
 unfold fJ
 rw [List.take_succ_eq_append_getElem h, List.filter_append]
 by_cases hb : m[k].k = q <;> simp [hb]
theorem fF.rdk {v : Value} {m : List En} {w : World} (h : fF v m w) (hk : KL m) (i : Nat) (hi : i < m.length) : dD w ((jS v (i * 33)).add 0) (kc m[i].k) :=
 dD.sub (h.rd hk i hi) (aK.l (b := [m[i].s]) (aK.all (kc m[i].k)))
theorem fF.rdv {v : Value} {m : List En} {w : World} (h : fF v m w) (hk : KL m) (i : Nat) (hi : i < m.length) : dD w ((jS v (i * 33)).add 32) [m[i].s] :=
 dD.sub (h.rd hk i hi) (aK.r (a := kc m[i].k) (aK.all [m[i].s]) (by rw [aJ, hk _ (List.getElem_mem hi)]))
theorem PV.dF {P : Program} {σ : Env} {o : Oper} {s ft : TypeId} {x : Operand} {f off n : Nat} {a : Addr} (h : o.op = .fieldAddr s x f) (hf : cL P s f = some (off, ft, n + 1)) (hx : ev σ x = .pointer (some a)) :
  PV P σ o (.pointer (some (a.add off))) := fun w => by
 obtain ⟨fs, fl, i, hu, FO, h1, h2, hi, hn⟩ := oW hf
 have h3 := p9 hi hn (by omega) h2 h1 a w
 simp [execOp, h, hx, Instr.fieldAt, run_underlying hu, FO, Instr.sureAddr, h3]
theorem CH {X : Nat → Prop} {w : World} {k l : List UInt8} (hX : c6 X w) (hk : k.length = 32) (hl : l.length = 32) :
  bC prog 88 [.agg (kc k).toArray, .agg (kc l).toArray].toArray w fun v w' => v = .int .i64 (iM k l) ∧ Out Nil w w' := by
 refine bC.aI (N := 24) func88 rfl rfl (by simp) ?_
 have H := St.begin hX
 refine WE.aA ?_
 refine WL.box (l := kc k) H rfl rfl rfl ?_
 intro b2 w1 H
 refine WL.box (l := kc l) H rfl rfl rfl ?_
 intro b3 w2 H
 refine WL.as rfl rfl (WL.nil (WE.seq (WE.aA (WL.as rfl rfl (WL.nil (WE.block ?_))))))
 refine WE.loop (α := Nat) (rg [(4, 20)]) (fun i => [(5, .int .i64 i)]) (fun i wl => i ≤ 32 ∧ k.take i = l.take i ∧ St X w wl [] [aP.blk b3 24 (kc l), aP.blk b2 24 (kc k)] []) (fun i => 32 - i) 0 ⟨rfl, trivial⟩ ⟨Nat.zero_le _, by simp, H⟩ ?_
 intro i γ0 w3 hI
 try dsimp only at hI
 obtain ⟨hi, hpre, H⟩ := hI
 refine WE.seq (WE.aA (WL.mv rfl rfl (WL.pv (PV.lss rfl rfl rfl) rfl (WL.nil ?_))))
 refine WE.cond rfl (fun wG => ?_) (fun wG => ?_)
 ·
  try simp only [bP] at wG
  have hlt : i < 32 := by omega
  refine WE.skip (WE.seq (WE.block (WE.seq ?_)))
  refine WE.bG (.take 0 (.take 1 (.take 2 (.take 3 (.take 4 (.take 5 (.take 6 .done))))))) mixed (by kernel_rfl) ?_
  replace H := H.out (Out.drew _)
  refine WP.mv rfl rfl rfl (WP.aC rfl rfl (PV.bF rfl gW gO rfl rfl (by omega) (by omega)) (WP.aM rfl rfl (RV.aV rfl vD rfl) (aN.aF (H.l 1 rfl) (aK.byte i (by omega)) (by simp)) (WP.mv rfl rfl rfl (WP.aC rfl rfl (PV.bF rfl gW gO rfl rfl (by omega) (by omega)) (WP.aM rfl rfl (RV.aV rfl vD rfl) (aN.aF (H.l 0 rfl) (aK.byte i (by omega)) (by simp)) (WP.aC rfl rfl (PV.lss rfl rfl rfl) (WP.done ?_)))))))
  refine WE.cond rfl (fun nO => ?_) (fun nO => ?_)
  ·
   try simp only [bP] at nO
   have aCL := qR (by omega) i (by omega) hpre (by omega)
   refine WE.aA (WL.as rfl rfl (WL.nil (WE.ret ⟨[_], _, .nil _, ⟨rfl, trivial⟩, ?_⟩)))
   refine ⟨?_, H.aL⟩
   rw [iM, if_pos aCL]; rfl
  ·
   try simp only [bP] at nO
   refine WE.skip ?_
   refine WE.bG (.take 0 (.take 1 (.take 2 (.take 3 (.take 4 (.take 5 (.take 6 .done))))))) mixed (by kernel_rfl) ?_
   replace H := H.out (Out.drew _)
   refine WP.mv rfl rfl rfl (WP.aC rfl rfl (PV.bF rfl gW gO rfl rfl (by omega) (by omega)) (WP.aM rfl rfl (RV.aV rfl vD rfl) (aN.aF (H.l 1 rfl) (aK.byte i (by omega)) (by simp)) (WP.mv rfl rfl rfl (WP.aC rfl rfl (PV.bF rfl gW gO rfl rfl (by omega) (by omega)) (WP.aM rfl rfl (RV.aV rfl vD rfl) (aN.aF (H.l 0 rfl) (aK.byte i (by omega)) (by simp)) (WP.aC rfl rfl (PV.gtr rfl rfl rfl) (WP.done ?_)))))))
   refine WE.cond rfl (fun kX => ?_) (fun kX => ?_)
   ·
    try simp only [bP] at kX
    have aCL := qR (a := l) (b := k) (by omega) i (by omega) hpre.symm (by omega)
    refine WE.aA (WL.as rfl rfl (WL.nil (WE.ret ⟨[_], _, .nil _, ⟨rfl, trivial⟩, ?_⟩)))
    refine ⟨?_, H.aL⟩
    rw [iM, if_neg (by omega), if_pos aCL]; rfl
   ·
    try simp only [bP] at kX
    have heq : k[i] = l[i] := UInt8.toNat_inj.1 (by omega)
    have aFd : k.take (i + 1) = l.take (i + 1) := by rw [List.take_succ_eq_append_getElem (by omega), List.take_succ_eq_append_getElem (by omega), hpre, heq]
    refine WE.skip (WE.dW (WL.mv rfl rfl (WL.pv (PV.bV rfl rfl rfl (by omega) (by omega)) rfl (WL.as rfl rfl (WL.nil ?_)))))
    exact ⟨i + 1, (by repeat (first | with_reducible exact bK.refl _ _ | refine bK.dG rfl ?_ | refine bK.bZ rfl ?_ | refine bK.bX rfl ?_)), ⟨rfl, trivial⟩, rfl, ⟨by omega, aFd, H⟩, (by omega)⟩
 ·
  try simp only [bP] at wG
  have aCR : i = 32 := by omega
  refine WE.exit (WE.aA (WL.as rfl rfl (WL.nil (WE.ret ⟨[_], _, .nil _, ⟨rfl, trivial⟩, ?_⟩))))
  refine ⟨?_, H.aL⟩
  have e : k = l := by rw [← List.take_of_length_le (show k.length ≤ i by omega), ← List.take_of_length_le (show l.length ≤ i by omega), hpre]
  rw [e, iM, if_neg (by omega), if_neg (by omega)]; rfl
theorem V5 {X : Nat → Prop} {w : World} {s : Value} {m : List En} {d b : Nat} (hX : c6 X w) (bT : aH X (fF s m) w) (p3 : KL m) (iD : qO m) (hlen : m.length ≤ 1000000) (hd : d < 256) :
  bC prog 66 [s, .int .i64 (d : Int), .int .i64 (b : Int)].toArray w fun v w' => Out Nil w w' ∧ aH X (fF v (bO m d b)) w' := by
 refine bC.aI (N := 32) func66 rfl rfl (by simp) ?_
 have H := (St.begin hX).add (cE bT)
 refine WE.aA (WL.as rfl rfl (WL.nil (WE.aA (WL.as rfl rfl (WL.nil (WE.seq (WE.aA ?_)))))))
 refine WL.as rfl rfl (WL.nil (WE.block ?_))
 replace H := H.kU 111 33
 refine WE.loop (α := Nat × Value) (rg [(7, 24)]) (fun p => [(8, .int .i64 p.1), (7, p.2)]) (fun p wl => p.1 ≤ m.length ∧ St X w wl [] [aP.gZ w.heap.size p.2 111 33 (bO (m.take p.1) d b).length ((bO (m.take p.1) d b).flatMap oT)] [fF s m]) (fun p => m.length - p.1) (0, .slice none 0 0) ⟨rfl, rfl, trivial⟩ ⟨Nat.zero_le _, H⟩ ?_
 intro ⟨k, v⟩ γ0 w1 hI
 try dsimp only at hI
 obtain ⟨hk, H⟩ := hI
 refine WE.seq (WE.aA (WL.mv rfl rfl (WL.mv rfl rfl (WL.pv (PV.dS (H.p 0 rfl : fF s m _) lR rfl) rfl (WL.pv (PV.lss rfl rfl rfl) rfl (WL.nil ?_))))))
 refine WE.cond rfl (fun lU => ?_) (fun lU => ?_)
 ·
  try simp only [bP] at lU
  have hlt : k < m.length := by omega
  have hE : (oT m[k]).length = 1 * 33 := kY (p3 _ (List.getElem_mem hlt))
  have hE2 : (oT m[k]).length = 33 := hE
  have hkk := p3 _ (List.getElem_mem hlt)
  have wE : (bO (m.take k) d b).length ≤ k := Nat.le_trans (List.length_filter_le _ _) (by simp; omega)
  have hS := IY m d b k hlt
  have hB : AF m[k].k (d : Int) = (bI m[k].k d : Int) := by rw [AF, if_neg (by omega), Int.toNat_natCast]
  refine WE.skip ?_
  refine WE.cut (α := Value) (rg [(7, 1), (15, 16)]) (fun oJ => [(7, oJ)]) (fun oJ wl => St X w wl [] [aP.gZ w.heap.size oJ 111 33 (bO (m.take (k + 1)) d b).length ((bO (m.take (k + 1)) d b).flatMap oT)] [fF s m]) ?_ ?_
  ·
   refine WE.block (WE.aA (WL.mv rfl rfl (WL.mv rfl rfl (WL.pv (PV.dX rfl (H.p 0 rfl : fF s m _) lR fH rfl rfl (by omega) (by omega)) rfl (WL.pv (PV.dF rfl gK rfl) rfl ?_)))))
   refine WL.bE rfl c7 rfl rfl (fF.rdk (H.p 0 rfl) p3 k hlt) (cI cM (by simp only [aS, aY]; omega)) ?_
   refine WL.mv rfl rfl ?_
   refine WL.call UF rfl (xR (l := m[k].k) (i := (d : Int)) H.aR hkk (by omega)) ?_
   rintro _ w2 ⟨rfl, hO⟩
   replace H := H.out hO
   refine WL.mv rfl rfl (WL.pv (PV.eql rfl rfl rfl) rfl (WL.nil ?_))
   refine WE.cond rfl (fun kX => ?_) (fun kX => ?_)
   ·
    try simp only [bP] at kX
    rw [if_pos (by omega)] at hS
    refine WE.dW (WL.mv rfl rfl (WL.mv rfl rfl (WL.mv rfl rfl (WL.pv (PV.dX rfl (H.p 0 rfl : fF s m _) lR fH rfl rfl (by omega) (by omega)) rfl ?_))))
    refine WL.bE rfl pV rfl rfl (fF.rd (H.p 0 rfl) p3 k hlt) (by (rw [fH]; refine congrArg some ?_; (simp [aJ, aQ, *]; done))) ?_
    refine WL.bA (l0 := ((kc (List.replicate 32 0) ++ ([.slice none 0 0])))) H rfl wC (by decide) rfl (Fl.cons rfl rfl (by simp only [aS, aY]; omega) (Laid.all (by simp only [aS, aY]; omega)) Fl.nil) rfl ?_
    intro b29 w3 H
    refine WL.append (m := 1) H 1 wC (by decide) rfl rfl rfl (cO.cA (n := 1) (H.l 0 rfl) hE) (s6 (iD _ (List.getElem_mem hlt))) (by omega) (by decide) rfl ?_
    intro v30 w4 H
    have DC := congrArg List.length hS
    rw [List.length_append, show [m[k]].length = 1 from rfl] at DC
    have FX := congrArg (List.flatMap oT) hS
    rw [List.flatMap_append, List.flatMap_singleton] at FX
    replace H := H.forget 0
    replace H := H.conv (L' := [aP.gZ w.heap.size v30 111 33 (bO (m.take (k + 1)) d b).length ((bO (m.take (k + 1)) d b).flatMap oT)]) (by rw [DC, FX]; rfl)
    refine WL.as rfl rfl (WL.nil ?_)
    exact ⟨v30, (by repeat (first | with_reducible exact bK.refl _ _ | refine bK.dG rfl ?_)), ⟨rfl, trivial⟩, rfl, H⟩
   ·
    try simp only [bP] at kX
    rw [if_neg (by omega), List.append_nil] at hS
    refine WE.skip ?_
    exact ⟨v, (by repeat (first | with_reducible exact bK.refl _ _ | refine bK.dG rfl ?_)), ⟨rfl, trivial⟩, rfl, H.conv (by rw [hS])⟩
  ·
   intro oJ γ w5 hI
   try dsimp only at hI
   replace H := hI
   refine WE.dW (WL.mv rfl rfl (WL.pv (PV.bV rfl rfl rfl (by omega) (by omega)) rfl (WL.as rfl rfl (WL.nil ?_))))
   exact ⟨(k + 1, oJ), (by repeat (first | with_reducible exact bK.refl _ _ | refine bK.dG rfl ?_ | refine bK.bZ rfl ?_ | refine bK.bX rfl ?_)), ⟨rfl, rfl, trivial⟩, rfl, ⟨by dsimp only; omega, H⟩, (by dsimp only; omega)⟩
 ·
  try simp only [bP] at lU
  have W7 : m.take k = m := List.take_of_length_le (by omega)
  refine WE.exit (WE.aA (WL.mv rfl rfl (WL.as rfl rfl (WL.nil (WE.ret ⟨[_], _, .nil _, ⟨rfl, trivial⟩, ?_⟩)))))
  replace H := H.freeze (i := 0) rfl
  exact ⟨H.aL, H.fX ((H.bJ 0 rfl).imp fun _ h => by rw [W7] at h; exact cO.dM h)⟩
theorem zI {X : Nat → Prop} {w : World} {s : Value} {m : List En} {q : List UInt8} (hX : c6 X w) (bT : aH X (fF s m) w) (p3 : KL m) (iD : qO m) (hlen : m.length ≤ 1000000) (hq : q.length = 32) :
  bC prog 47 [s, .agg (kc q).toArray].toArray w fun v w' => Out Nil w w' ∧ aH X (fF v (fJ m q)) w' := by
 refine bC.aI (N := 28) func47 rfl rfl (by simp) ?_
 have H := (St.begin hX).add (cE bT)
 refine WE.aA ?_
 refine WL.box (l := kc q) H rfl rfl rfl ?_
 intro b3 w1 H
 refine WL.as rfl rfl (WL.nil (WE.aA (WL.as rfl rfl (WL.nil (WE.seq (WE.aA (WL.as rfl rfl ?_)))))))
 refine WL.nil (WE.block ?_)
 replace H := H.kU 111 33
 refine WE.loop (α := Nat × Value) (rg [(5, 22)]) (fun p => [(6, .int .i64 p.1), (5, p.2)]) (fun p wl => p.1 ≤ m.length ∧ St X w wl [] [aP.gZ w.heap.size p.2 111 33 (fJ (m.take p.1) q).length ((fJ (m.take p.1) q).flatMap oT), aP.blk b3 24 (kc q)] [fF s m]) (fun p => m.length - p.1) (0, .slice none 0 0) ⟨rfl, rfl, trivial⟩ ⟨Nat.zero_le _, H⟩ ?_
 intro ⟨k, v⟩ γ0 w2 hI
 try dsimp only at hI
 obtain ⟨hk, H⟩ := hI
 refine WE.seq (WE.aA (WL.mv rfl rfl (WL.mv rfl rfl (WL.pv (PV.dS (H.p 0 rfl : fF s m _) lR rfl) rfl (WL.pv (PV.lss rfl rfl rfl) rfl (WL.nil ?_))))))
 refine WE.cond rfl (fun kD => ?_) (fun kD => ?_)
 ·
  try simp only [bP] at kD
  have hlt : k < m.length := by omega
  have hE : (oT m[k]).length = 1 * 33 := kY (p3 _ (List.getElem_mem hlt))
  have hE2 : (oT m[k]).length = 33 := hE
  have hkk := p3 _ (List.getElem_mem hlt)
  have wE : (fJ (m.take k) q).length ≤ k := Nat.le_trans (List.length_filter_le _ _) (by simp; omega)
  have hS := Q9 m q k hlt
  refine WE.skip ?_
  refine WE.cut (α := Value) (rg [(5, 1), (13, 14)]) (fun oJ => [(5, oJ)]) (fun oJ wl => St X w wl [] [aP.gZ w.heap.size oJ 111 33 (fJ (m.take (k + 1)) q).length ((fJ (m.take (k + 1)) q).flatMap oT), aP.blk b3 24 (kc q)] [fF s m]) ?_ ?_
  ·
   refine WE.block ?_
   refine WE.bG (.take 0 (.take 1 (.take 2 (.take 3 (.take 4 (.take 5 (.take 6 .done))))))) mixed (by kernel_rfl) ?_
   replace H := H.out (Out.drew _)
   refine WP.mv rfl rfl rfl (WP.mv rfl rfl rfl (WP.aC rfl rfl (PV.dX rfl (H.p 0 rfl : fF s m _) lR fH rfl rfl (by omega) (by omega)) (WP.aC rfl rfl (PV.dF rfl gK rfl) ?_)))
   refine WP.dO rfl rfl rfl c7 rfl (fF.rdk (H.p 0 rfl) p3 k hlt) (cI cM (by simp only [aS, aY]; omega)) ?_
   refine WP.dO rfl rfl rfl c7 rfl (aN.aF (H.l 1 rfl) (aK.all _) rfl) (cI cM (by simp only [aS, aY]; omega)) ?_
   refine WP.aC rfl rfl (PV.NX rfl gW mM gO (by kernel_rfl) rfl rfl (by assumption) (by assumption)) (WP.done ?_)
   refine WE.cond rfl (fun kC => ?_) (fun kC => ?_)
   ·
    try simp only [bP] at kC
    rw [if_pos kC] at hS
    refine WE.dW (WL.mv rfl rfl (WL.mv rfl rfl (WL.mv rfl rfl (WL.pv (PV.dX rfl (H.p 0 rfl : fF s m _) lR fH rfl rfl (by omega) (by omega)) rfl ?_))))
    refine WL.bE rfl pV rfl rfl (fF.rd (H.p 0 rfl) p3 k hlt) (by (rw [fH]; refine congrArg some ?_; (simp [aJ, aQ, *]; done))) ?_
    refine WL.bA (l0 := ((kc (List.replicate 32 0) ++ ([.slice none 0 0])))) H rfl wC (by decide) rfl (Fl.cons rfl rfl (by simp only [aS, aY]; omega) (Laid.all (by simp only [aS, aY]; omega)) Fl.nil) rfl ?_
    intro b25 w3 H
    refine WL.append (m := 1) H 1 wC (by decide) rfl rfl rfl (cO.cA (n := 1) (H.l 0 rfl) hE) (s6 (iD _ (List.getElem_mem hlt))) (by omega) (by decide) rfl ?_
    intro v26 w4 H
    have DC := congrArg List.length hS
    rw [List.length_append, show [m[k]].length = 1 from rfl] at DC
    have FX := congrArg (List.flatMap oT) hS
    rw [List.flatMap_append, List.flatMap_singleton] at FX
    replace H := H.forget 0
    replace H := H.conv (L' := [aP.gZ w.heap.size v26 111 33 (fJ (m.take (k + 1)) q).length ((fJ (m.take (k + 1)) q).flatMap oT), aP.blk b3 24 (kc q)]) (by rw [DC, FX]; rfl)
    refine WL.as rfl rfl (WL.nil ?_)
    exact ⟨v26, (by repeat (first | with_reducible exact bK.refl _ _ | refine bK.dG rfl ?_)), ⟨rfl, trivial⟩, rfl, H⟩
   ·
    try simp only [bP] at kC
    rw [if_neg (by simp [kC]), List.append_nil] at hS
    refine WE.skip ?_
    exact ⟨v, (by repeat (first | with_reducible exact bK.refl _ _ | refine bK.dG rfl ?_)), ⟨rfl, trivial⟩, rfl, H.conv (by rw [hS])⟩
  ·
   intro oJ γ w5 hI
   try dsimp only at hI
   replace H := hI
   refine WE.dW (WL.mv rfl rfl (WL.pv (PV.bV rfl rfl rfl (by omega) (by omega)) rfl (WL.as rfl rfl (WL.nil ?_))))
   exact ⟨(k + 1, oJ), (by repeat (first | with_reducible exact bK.refl _ _ | refine bK.dG rfl ?_ | refine bK.bZ rfl ?_ | refine bK.bX rfl ?_)), ⟨rfl, rfl, trivial⟩, rfl, ⟨by dsimp only; omega, H⟩, (by dsimp only; omega)⟩
 ·
  try simp only [bP] at kD
  have W7 : m.take k = m := List.take_of_length_le (by omega)
  refine WE.exit (WE.aA (WL.mv rfl rfl (WL.as rfl rfl (WL.nil (WE.ret ⟨[_], _, .nil _, ⟨rfl, trivial⟩, ?_⟩)))))
  replace H := H.freeze (i := 0) rfl
  exact ⟨H.aL, H.fX ((H.bJ 0 rfl).imp fun _ h => by rw [W7] at h; exact cO.dM h)⟩
def PF (e : En) (M : List En) (k : Nat) : List En × Bool := (M.take k).foldl (o9 e) ([], false)
def PA (e : En) (M : List En) (k : Nat) : List En × Bool := if (PF e M k).2 = false ∧ num e.k < num (M.getD k e).k then ((PF e M k).1 ++ [e], true) else PF e M k
theorem DE {M : List En} {k : Nat} {e : En} (h : k < M.length) : M.getD k e = M[k] := by rw [List.getD_eq_getElem?_getD, List.getElem?_eq_getElem h]; rfl
theorem M0 (e : En) (M : List En) (k : Nat) (h : k < M.length) : PF e M (k + 1) = ((PA e M k).1 ++ [M[k]], (PA e M k).2) := by
 unfold PF PA
 rw [List.take_succ_eq_append_getElem h, List.foldl_append, List.foldl_cons, List.foldl_nil, DE h]
 show o9 e (PF e M k) _ = _
 unfold o9
 split <;> simp
theorem KK (e : En) (M : List En) (k : Nat) : (PF e M k).1.length ≤ k + 1 := by
 have h : ∀ (l out : List En) (b : Bool), (l.foldl (o9 e) (out, b)).1.length ≤ out.length + l.length + (if b then 0 else 1) := by
  intro l
  induction l with
  | nil => intro out b; simp
  | cons x l ih =>
   intro out b
   rw [List.foldl_cons]
   by_cases hb : b = false ∧ num e.k < num x.k
   ·
    have : o9 e (out, b) x = (out ++ [e, x], true) := by simp [o9, hb]
    rw [this]
    have := ih (out ++ [e, x]) true
    simp [hb.1] at this ⊢; omega
   ·
    have : o9 e (out, b) x = (out ++ [x], b) := by unfold o9; rw [if_neg hb]
    rw [this]
    have := ih (out ++ [x]) b
    simp at this ⊢; omega
 have := h (M.take k) [] false
 simp at this
 unfold PF
 omega
theorem aDJ (e : En) (M : List En) (k : Nat) : (PA e M k).1.length ≤ k + 2 := by
 have := KK e M k
 unfold PA; split <;> simp <;> omega
theorem aDI (e : En) (M : List En) : iC M e = (if (PF e (fJ M e.k) (fJ M e.k).length).2 = true then (PF e (fJ M e.k) (fJ M e.k).length).1 else (PF e (fJ M e.k) (fJ M e.k).length).1 ++ [e]) := by
 have := RJ e (fJ M e.k) []
 unfold iC PF
 rw [List.take_length, List.nil_append] at *
 rw [← this]
 cases ((fJ M e.k).foldl (o9 e) ([], false)).2 <;> rfl
theorem RB {m : List En} {k : List UInt8} (h : KL m) : KL (fJ m k) := fun e he => h e (jK.1 he).1
theorem X4 {m : List En} {k : List UInt8} (h : qO m) : qO (fJ m k) := fun e he => h e (jK.1 he).1
theorem wO (m : List En) (k : List UInt8) : (fJ m k).length ≤ m.length := List.length_filter_le _ _
theorem aBV {X : Nat → Prop} {w : World} {s vs : Value} {m : List En} {q vv : List UInt8} (hX : c6 X w) (bT : aH X (fF s m) w) (dJ : aH X (bL vs vv) w) (p3 : KL m) (iD : qO m) (hlen : m.length ≤ 1000000) (hq : q.length = 32) :
  bC prog 44 [s, .agg (kc q).toArray, vs].toArray w fun v w' => Out Nil w w' ∧ aH X (fF v (iC m (En.mk q vs vv))) w' := by
 refine bC.aI (N := 54) func44 rfl rfl (by simp) ?_
 have H := ((St.begin hX).add (cE dJ)).add (cE bT)
 refine WE.aA ?_
 refine WL.box (l := kc q) H rfl rfl rfl ?_
 intro b4 w1 H
 refine WL.as rfl rfl (WL.nil (WE.aA (WL.as rfl rfl (WL.nil (WE.aA (WL.as rfl rfl (WL.nil ?_)))))))
 refine WE.aA (WL.mv rfl rfl ?_)
 refine WL.bE rfl c7 rfl rfl (aN.aF (H.l 0 rfl) (aK.all _) rfl) (cI cM (by simp only [aS, aY]; omega)) ?_
 refine WL.call aDc rfl (zI  H.aR (by exact H.bJ 0 rfl) (by assumption) (by assumption) (by assumption) (by assumption)) ?_
 rintro v13 w2 ⟨hO, hR⟩
 replace H := (H.out hO).add hR
 refine WL.as rfl rfl (WL.nil (WE.seq (WE.aA (WL.as rfl rfl (WL.nil (WE.block ?_))))))
 have ZE := RB (k := q) p3
 have aFe := X4 (k := q) iD
 have hlM := wO m q
 have hvs : vs.oneCell' = true := cO.fW (H.p 2 rfl : bL vs vv _)
 replace H := H.kU 111 33
 refine WE.loop (α := Nat × Value) (rg [(7, 2), (10, 1), (14, 31)]) (fun p => [(10, .int .i64 p.1), (7, p.2), (8, .bool (PF (En.mk q vs vv) (fJ m q) p.1).2)]) (fun p wl => p.1 ≤ (fJ m q).length ∧ St X w wl [] [aP.gZ w.heap.size p.2 111 33 ((PF (En.mk q vs vv) (fJ m q) p.1).1).length (((PF (En.mk q vs vv) (fJ m q) p.1).1).flatMap oT), aP.blk b4 24 (kc q)] [fF v13 (fJ m q), fF s m, bL vs vv]) (fun p => (fJ m q).length - p.1) (0, .slice none 0 0) ⟨rfl, rfl, rfl, trivial⟩ ⟨Nat.zero_le _, H⟩ ?_
 intro ⟨k, v⟩ γ0 w3 hI
 try dsimp only at hI
 obtain ⟨hk, H⟩ := hI
 refine WE.seq (WE.aA (WL.mv rfl rfl (WL.mv rfl rfl (WL.pv (PV.dS (H.p 0 rfl : fF _ (fJ m q) _) lR rfl) rfl (WL.pv (PV.lss rfl rfl rfl) rfl (WL.nil ?_))))))
 refine WE.cond rfl (fun iW => ?_) (fun iW => ?_)
 ·
  try simp only [bP] at iW
  have hlt : k < (fJ m q).length := by omega
  have hE : (oT (fJ m q)[k]).length = 1 * 33 := kY (ZE _ (List.getElem_mem hlt))
  have hE2 : (oT (fJ m q)[k]).length = 33 := hE
  have hkk := ZE _ (List.getElem_mem hlt)
  have wE := KK (En.mk q vs vv) (fJ m q) k
  have aLy := aDJ (En.mk q vs vv) (fJ m q) k
  have hq1 : (oT (En.mk q vs vv)).length = 1 * 33 := kY hq
  have SM : (oT (En.mk q vs vv)).length = 33 := hq1
  refine WE.skip (WE.seq (WE.block ?_))
  refine WE.cut (α := Value × Bool) (rg [(7, 2), (20, 18)]) (fun oJ => [(7, oJ.1), (8, .bool oJ.2)]) (fun oJ wl => oJ.2 = (PA (En.mk q vs vv) (fJ m q) k).2 ∧ St X w wl [] [aP.gZ w.heap.size oJ.1 111 33 ((PA (En.mk q vs vv) (fJ m q) k).1).length (((PA (En.mk q vs vv) (fJ m q) k).1).flatMap oT), aP.blk b4 24 (kc q)] [fF v13 (fJ m q), fF s m, bL vs vv]) ?_ ?_
  ·
   refine WE.bG (.take 0 (.take 1 (.take 2 (.take 3 (.take 4 (.take 5 (.take 6 (.take 7 (.take 8 (.aG 9 (.take 10 (.take 11 .done)))))))))))) mixed (by kernel_rfl) ?_
   replace H := H.out (Out.drew _)
   refine WP.mv rfl rfl rfl (WP.aC rfl rfl (PV.not rfl rfl) (WP.mv rfl rfl rfl ?_))
   refine WP.split (t := 22) rfl (fun tG => ?_) (fun tG => ?_)
   ·
    refine WP.known (t := 21) (c := true) rfl tG ?_
    try simp only [bP] at tG
    refine WP.dO rfl rfl rfl c7 rfl (aN.aF (H.l 1 rfl) (aK.all _) rfl) (cI cM (by simp only [aS, aY]; omega)) ?_
    refine WP.mv rfl rfl rfl (WP.mv rfl rfl rfl ?_)
    refine WP.aC rfl rfl (PV.dX rfl (by exact H.p 0 rfl : fF _ (fJ m q) _) lR fH rfl rfl (by omega) (by omega)) ?_
    refine WP.aC rfl rfl (PV.dF rfl gK rfl) ?_
    refine WP.dO rfl rfl rfl c7 rfl (fF.rdk (H.p 0 rfl) ZE k hlt) (cI cM (by simp only [aS, aY]; omega)) ?_
    refine WP.aG rfl ?_
    refine WL.call aJW rfl (CH  H.aR  (by assumption) (by assumption)) ?_
    rintro _ w4 ⟨rfl, hO⟩
    replace H := H.out hO
    refine WL.nil ⟨(fa (nw 9 8) (fa (nw 9 3) c8)), ?_⟩
    refine WP.aC rfl rfl (PV.lss rfl rfl rfl) (WP.aC rfl rfl (PV.c5 rfl rfl rfl) (WP.done ?_))
    refine WE.cond rfl (fun kW => ?_) (fun kW => ?_)
    ·
     try simp only [bP] at kW
     have ZF : (PF (En.mk q vs vv) (fJ m q) k).2 = false ∧ num q < num (fJ m q)[k].k := by exact ⟨by simpa using tG, mP.1 (by simpa using kW)⟩
     have hPA : (PA (En.mk q vs vv) (fJ m q) k) = ((PF (En.mk q vs vv) (fJ m q) k).1 ++ [(En.mk q vs vv)], true) := by rw [PA, if_pos (by rw [DE hlt]; exact ZF)]
     have hS : (PA (En.mk q vs vv) (fJ m q) k).1 = (PF (En.mk q vs vv) (fJ m q) k).1 ++ [(En.mk q vs vv)] := by rw [hPA]
     refine WE.aA (WL.mv rfl rfl ?_)
     refine WL.bE rfl c7 rfl rfl (aN.aF (H.l 1 rfl) (aK.all _) rfl) (cI cM (by simp only [aS, aY]; omega)) ?_
     refine WL.mv rfl rfl ?_
     refine WL.pv (PV.dQ rfl xZ lC (Fl.cons rfl rfl (by simp only [aS, aY]; omega) (Laid.left (Laid.all (by simp only [aS, aY]; omega))) (Fl.cons rfl (cO.cells (H.p 2 rfl : bL vs vv _)) (by simp only [aS, aY]) (Laid.right (Laid.all (by simp only [aS, aY])) (by simp only [aS, aY]; omega)) Fl.nil))) rfl ?_
     refine WL.bA (l0 := ((kc (List.replicate 32 0) ++ ([.slice none 0 0])))) H rfl wC (by decide) rfl (Fl.cons rfl rfl (by simp only [aS, aY]; omega) (Laid.all (by simp only [aS, aY]; omega)) Fl.nil) rfl ?_
     intro b36 w5 H
     refine WL.append (m := 1) H 1 wC (by decide) rfl rfl rfl (cO.cA (n := 1) (H.l 0 rfl) hq1) (s6 (e := (En.mk q vs vv)) hvs) (by omega) (by decide) rfl ?_
     intro v37 w6 H
     have DC := congrArg List.length hS
     rw [List.length_append, show [(En.mk q vs vv)].length = 1 from rfl] at DC
     have FX := congrArg (List.flatMap oT) hS
     rw [List.flatMap_append, List.flatMap_singleton] at FX
     replace H := H.forget 0
     replace H := H.conv (L' := [aP.gZ w.heap.size v37 111 33 ((PA (En.mk q vs vv) (fJ m q) k).1).length (((PA (En.mk q vs vv) (fJ m q) k).1).flatMap oT), aP.blk b4 24 (kc q)]) (by rw [DC, FX]; rfl)
     refine WL.as rfl rfl (WL.nil (WE.dW (WL.as rfl rfl (WL.nil ?_))))
     exact ⟨(v37, true), (by repeat (first | with_reducible exact bK.refl _ _ | refine bK.dG rfl ?_)), ⟨rfl, rfl, trivial⟩, rfl, ⟨by rw [hPA], H⟩⟩
    ·
     try simp only [bP] at kW
     have hPA : (PA (En.mk q vs vv) (fJ m q) k) = PF (En.mk q vs vv) (fJ m q) k := by rw [PA, if_neg (by rw [DE hlt]; rintro ⟨h1, h2⟩; (have h3 := mP.2 (show num q < num (fJ m q)[k].k from h2); omega))]
     refine WE.skip ?_
     exact ⟨(v, (PF (En.mk q vs vv) (fJ m q) k).2), (by repeat (first | with_reducible exact bK.refl _ _ | refine bK.dG rfl ?_)), ⟨rfl, rfl, trivial⟩, rfl, ⟨by rw [hPA], H.conv (by rw [hPA])⟩⟩
   ·
    refine WP.known (t := 21) (c := false) rfl tG ?_
    try simp only [bP] at tG
    have hPA : (PA (En.mk q vs vv) (fJ m q) k) = PF (En.mk q vs vv) (fJ m q) k := by rw [PA, if_neg (by rw [tG]; rintro ⟨h1, _⟩; cases h1)]
    refine WP.eD rfl rfl (WP.eD rfl rfl (WP.eD rfl rfl (WP.eD rfl rfl (WP.eD rfl rfl (WP.eD rfl rfl (WP.aG rfl (WL.off rfl ?_)))))))
    refine WL.nil ⟨c8, ?_⟩
    refine WP.eD rfl rfl (WP.aC rfl rfl (PV.cF rfl rfl rfl) (WP.done (WE.jF rfl (WE.skip ?_))))
    exact ⟨(v, (PF (En.mk q vs vv) (fJ m q) k).2), (by repeat (first | with_reducible exact bK.refl _ _ | refine bK.dG rfl ?_)), ⟨rfl, rfl, trivial⟩, rfl, ⟨by rw [hPA], H.conv (by rw [hPA])⟩⟩
  ·
   intro ⟨g1v, g1b⟩ γ w7 hI
   try dsimp only at hI
   obtain ⟨aFv, H⟩ := hI
   have hPS := congrArg Prod.snd (M0 (En.mk q vs vv) (fJ m q) k hlt)
   dsimp only at hPS
   rw [← hPS] at aFv
   subst aFv
   refine WE.dW (WL.mv rfl rfl (WL.mv rfl rfl (WL.mv rfl rfl ?_)))
   refine WL.pv (PV.dX rfl (by exact H.p 0 rfl : fF _ (fJ m q) _) lR fH rfl rfl (by omega) (by omega)) rfl ?_
   refine WL.bE rfl pV rfl rfl (fF.rd (H.p 0 rfl) ZE k hlt) (by (rw [fH]; refine congrArg some ?_; (simp [aJ, aQ, *]; done))) ?_
   refine WL.bA (l0 := ((kc (List.replicate 32 0) ++ ([.slice none 0 0])))) H rfl wC (by decide) rfl (Fl.cons rfl rfl (by simp only [aS, aY]; omega) (Laid.all (by simp only [aS, aY]; omega)) Fl.nil) rfl ?_
   intro b43 w8 H
   have hS := congrArg Prod.fst (M0 (En.mk q vs vv) (fJ m q) k hlt)
   dsimp only at hS
   refine WL.append (m := 1) H 1 wC (by decide) rfl rfl rfl (cO.cA (n := 1) (H.l 0 rfl) hE) (s6 (aFe _ (List.getElem_mem hlt))) (by omega) (by decide) rfl ?_
   intro v44 w9 H
   have DC := congrArg List.length hS
   rw [List.length_append, show [(fJ m q)[k]].length = 1 from rfl] at DC
   have FX := congrArg (List.flatMap oT) hS
   rw [List.flatMap_append, List.flatMap_singleton] at FX
   replace H := H.forget 0
   replace H := H.conv (L' := [aP.gZ w.heap.size v44 111 33 ((PF (En.mk q vs vv) (fJ m q) (k + 1)).1).length (((PF (En.mk q vs vv) (fJ m q) (k + 1)).1).flatMap oT), aP.blk b4 24 (kc q)]) (by rw [DC, FX]; rfl)
   refine WL.as rfl rfl (WL.nil (WE.dW (WL.mv rfl rfl (WL.pv (PV.bV rfl rfl rfl (by omega) (by omega)) rfl (WL.as rfl rfl (WL.nil ?_))))))
   exact ⟨(k + 1, v44), (by repeat (first | with_reducible exact bK.refl _ _ | refine bK.dG rfl ?_ | refine bK.bZ rfl ?_ | refine bK.bX rfl ?_)), ⟨rfl, rfl, rfl, trivial⟩, rfl, ⟨by dsimp only; omega, H⟩, (by dsimp only; omega)⟩
 ·
  try simp only [bP] at iW
  have W7 : k = (fJ m q).length := by omega
  have wE := KK (En.mk q vs vv) (fJ m q) k
  have hq1 : (oT (En.mk q vs vv)).length = 1 * 33 := kY hq
  have SM : (oT (En.mk q vs vv)).length = 33 := hq1
  have hpe := aDI (En.mk q vs vv) m
  refine WE.exit (WE.seq (WE.aA (WL.mv rfl rfl (WL.pv (PV.not rfl rfl) rfl (WL.nil ?_)))))
  refine WE.cond rfl (fun TJ => ?_) (fun TJ => ?_)
  ·
   try simp only [bP] at TJ
   have hS : iC m (En.mk q vs vv) = (PF (En.mk q vs vv) (fJ m q) k).1 ++ [(En.mk q vs vv)] := by rw [hpe, if_neg (by rw [← W7]; simpa using TJ), W7]
   refine WE.dW (WL.mv rfl rfl ?_)
   refine WL.bE rfl c7 rfl rfl (aN.aF (H.l 1 rfl) (aK.all _) rfl) (cI cM (by simp only [aS, aY]; omega)) ?_
   refine WL.mv rfl rfl ?_
   refine WL.pv (PV.dQ rfl xZ lC (Fl.cons rfl rfl (by simp only [aS, aY]; omega) (Laid.left (Laid.all (by simp only [aS, aY]; omega))) (Fl.cons rfl (cO.cells (H.p 2 rfl : bL vs vv _)) (by simp only [aS, aY]) (Laid.right (Laid.all (by simp only [aS, aY])) (by simp only [aS, aY]; omega)) Fl.nil))) rfl ?_
   refine WL.bA (l0 := ((kc (List.replicate 32 0) ++ ([.slice none 0 0])))) H rfl wC (by decide) rfl (Fl.cons rfl rfl (by simp only [aS, aY]; omega) (Laid.all (by simp only [aS, aY]; omega)) Fl.nil) rfl ?_
   intro b51 tX H
   refine WL.append (m := 1) H 1 wC (by decide) rfl rfl rfl (cO.cA (n := 1) (H.l 0 rfl) hq1) (s6 (e := (En.mk q vs vv)) hvs) (by omega) (by decide) rfl ?_
   intro v52 xG H
   have DC := congrArg List.length hS
   rw [List.length_append, show [(En.mk q vs vv)].length = 1 from rfl] at DC
   have FX := congrArg (List.flatMap oT) hS
   rw [List.flatMap_append, List.flatMap_singleton] at FX
   replace H := H.forget 0
   replace H := H.conv (L' := [aP.gZ w.heap.size v52 111 33 (iC m (En.mk q vs vv)).length ((iC m (En.mk q vs vv)).flatMap oT), aP.blk b4 24 (kc q)]) (by rw [DC, FX]; rfl)
   refine WL.as rfl rfl (WL.nil (WE.aA (WL.mv rfl rfl (WL.as rfl rfl (WL.nil (WE.ret ⟨[_], _, .nil _, ⟨rfl, trivial⟩, ?_⟩))))))
   skip
   replace H := H.freeze (i := 0) rfl
   exact ⟨H.aL, H.fX ((H.bJ 0 rfl).imp fun _ h => cO.dM h)⟩
  ·
   try simp only [bP] at TJ
   have hS2 : iC m (En.mk q vs vv) = (PF (En.mk q vs vv) (fJ m q) k).1 := by rw [hpe, if_pos (by rw [← W7]; simpa using TJ), W7]
   refine WE.skip (WE.aA (WL.mv rfl rfl (WL.as rfl rfl (WL.nil (WE.ret ⟨[_], _, .nil _, ⟨rfl, trivial⟩, ?_⟩)))))
   rw [← hS2] at H
   replace H := H.freeze (i := 0) rfl
   exact ⟨H.aL, H.fX ((H.bJ 0 rfl).imp fun _ h => cO.dM h)⟩
theorem EU {X : Nat → Prop} {w : World} {a : Value} {k la : List UInt8} {i : Int} (hX : c6 X w) (bT : aH X (bL a la) w) (dJ : aH X (aZ) w) (hk : k.length = 32) (rY : la.length ≤ 1000000) (hi : 0 ≤ i ∧ i ≤ 256) :
  bC prog 65 [.int .i64 i, .agg (kc k).toArray, a].toArray w fun v w' => v = .agg (kc k ++ kc (nI i la)).toArray ∧ Out Nil w w' := by
 refine bC.aI (N := 13) func65 rfl rfl (by simp) ?_
 have H := ((St.begin hX).add (cE dJ)).add (cE bT)
 refine WE.aA ?_
 refine WL.box (l := kc k) H rfl rfl rfl ?_
 intro b4 w1 H
 refine WL.alloc H rfl HW rfl ?_
 intro b6 w2 H
 refine WL.nil ?_
 refine WE.bG (.take 0 (.take 1 (.take 2 (.aG 3 (.aG 4 (.take 5 (.aG 6 .done))))))) mixed (by kernel_rfl) ?_
 replace H := H.out (Out.drew _)
 refine WP.dO rfl rfl rfl c7 rfl (aN.aF (H.l 1 rfl) (aK.all _) rfl) (cI cM (by simp only [aS, aY]; omega)) ?_
 refine WP.mv rfl rfl rfl (WP.mv rfl rfl rfl (WP.aG rfl ?_))
 refine WL.call aHz rfl (IK (la := la) H.aR (by exact H.bJ 0 rfl) (by omega)) ?_
 rintro v10 w3 ⟨hO, hR⟩
 replace H := (H.out hO).add hR
 refine WL.nil ⟨(fa (fun _ _ => (aN.aF (H.l 1 rfl) (aK.all _) rfl)) c8), ?_⟩
 refine WP.aG rfl ?_
 refine WL.call Z1 rfl (qQ (la := 2 :: la) (i := i) H.aR (by exact H.bJ 0 rfl) (by (simp; omega)) (by omega)) ?_
 rintro _ w4 ⟨rfl, hO⟩
 replace H := H.out hO
 refine WL.nil ⟨(fa (rk hO) c8), ?_⟩
 refine WP.aC rfl rfl (PV.dQ rfl YA HW (Fl.cons rfl rfl (by simp only [aS, aY]; omega) (Laid.left (Laid.all (by simp only [aS, aY]; omega))) (Fl.cons rfl rfl (by simp only [aS, aY]) (Laid.right (Laid.all (by simp only [aS, aY])) (by simp only [aS, aY]; omega)) Fl.nil))) ?_
 refine WP.aG rfl ?_
 refine WL.aW H 0 rfl rfl rfl (new := _) rfl (cI xJ (by simp only [aS, aY]; omega)) (bN (bH _) (bH _)) (Laid.at (Laid.all (by simp only [aS, aY]; omega)) rfl) rfl ?_
 intro w5 H
 refine WL.nil ⟨(fa (nw 6 0) c8), ?_⟩
 refine WP.done (WE.ret ⟨[_], _, .nil _, ⟨⟨_, rfl, aU G0 (aN.aF (H.l 0 rfl) (aK.all _) rfl) (cI xJ (by simp only [aS, aY]; omega))⟩, trivial⟩, ?_⟩)
 exact ⟨rfl, H.aL⟩
theorem IM {X : Nat → Prop} {w : World} {i : Int} (hX : c6 X w) (bT : aH X (aZ) w) (hi : 0 ≤ i ∧ i ≤ 256) :
  bC prog 62 [.int .i64 i].toArray w fun v w' => v = .agg (kc (lW i)).toArray ∧ Out Nil w w' := by
 refine bC.aI (N := 6) func62 rfl rfl (by simp) ?_
 have H := (St.begin hX).add (cE bT)
 refine WE.aA ?_
 refine WL.alloc H rfl lB rfl ?_
 intro b2 w1 H
 refine WL.nil (WE.aA (WL.mv rfl rfl ?_))
 refine WL.bA (l0 := [.int .u8 (0)]) H rfl iG (by decide) (cW _ _) (Fl.cons rfl rfl (by simp only [aS, aY]) Laid.head Fl.nil) rfl ?_
 intro b4 w2 H
 replace H := H.freeze (i := 0) rfl
 replace H := H.add ((H.bJ 0 rfl).imp fun _ h => bL.cA (l := [3]) h rfl)
 refine WL.call Z1 rfl (qQ (la := [3]) (i := i) H.aR (by exact H.bJ 0 rfl) (by simp_all) (by omega)) ?_
 rintro _ w3 ⟨rfl, hO⟩
 replace H := H.out hO
 refine WL.aW H 0 rfl rfl rfl (new := _) rfl (by exact dH) (bH _) (Laid.at (Laid.all (by simp only [aS, aY])) rfl) rfl ?_
 intro w4 H
 refine WL.nil (WE.ret ⟨[_], _, .nil _, ⟨⟨_, rfl, aU fS (aN.aF (H.l 0 rfl) (aK.all _) rfl) (by exact dH)⟩, trivial⟩, ?_⟩)
 exact ⟨rfl, H.aL⟩
def Sh.fit : Nat → Sh → Prop
 | d, .inner l r => d < 256 ∧ l.fit (d + 1) ∧ r.fit (d + 1)
 | _, _ => True
theorem tL {d : Nat} {m : List En} (h : Pm d m) : (grow d m).fit d :=
 F0 (P := fun d _ s => s.fit d) (fun _ => trivial) (fun _ _ => trivial) (fun _ _ _ hd _ h0 h1 => ⟨hd, h0, h1⟩) _ d m rfl h
theorem oI {d : Nat} {m : List En} (h : Pm d m) : (grow d m).kind = 2 ↔ 2 ≤ m.length := by
 match m, h with
 | [], _ => rw [eM]; simp [Sh.kind]
 | [e], _ => rw [dR]; simp [Sh.kind]
 | a :: b :: m, h =>
  rw [iU d _ (h.lt (by simp)) (by simp)]
  simp [Sh.kind]
def Tr.child (T : Tr) (b : Nat) : Tr := if b = 0 then T.left else T.right
def Tr.step (k : List UInt8) (d : Nat) (T : Tr) : Tr := T.child (bI k d)
def Tr.beside (k : List UInt8) (d : Nat) (T : Tr) : Tr := T.child (1 - bI k d)
def Tr.jA (k : List UInt8) (d : Nat) (T : Tr) : Nat → Tr
 | 0 => T
 | i + 1 => (Tr.jA k d T i).step k (i + d)
def Tr.dp (k : List UInt8) : Nat → Tr → Nat
 | d, .inner _ l r => if bI k d = 0 then Tr.dp k (d + 1) l + 1 else Tr.dp k (d + 1) r + 1
 | _, _ => 0
theorem Tr.oP (k : List UInt8) (T : Tr) : ∀ (i d : Nat), Tr.jA k d T (i + 1) = Tr.jA k (d + 1) (T.step k d) i := by
 intro i
 induction i with
 | zero => intro d; show T.step k (0 + d) = _; rw [Nat.zero_add]; rfl
 | succ i ih =>
  intro d
  show (Tr.jA k d T (i + 1)).step k (i + 1 + d) = (Tr.jA k (d + 1) (T.step k d) i).step k (i + (d + 1))
  rw [ih, show i + 1 + d = i + (d + 1) by omega]
theorem Tr.qY {k : List UInt8} {d : Nat} {T : Tr} (h : T.er.kind = 2) : T.dp k d = (T.step k d).dp k (d + 1) + 1 := by
 obtain ⟨a, l, r, rfl⟩ := Tr.BB h
 unfold Tr.step Tr.child
 show (if bI k d = 0 then _ else _) = _
 split <;> rfl
theorem cV.step {bits : Int} {T : Tr} {w : World} {k : List UInt8} {d : Nat} (h : cV bits T w) : cV bits (T.step k d) w := by
 unfold Tr.step Tr.child; split
 ·
  exact h.left
 ·
  exact h.right
theorem cV.beside {bits : Int} {T : Tr} {w : World} {k : List UInt8} {d : Nat} (h : cV bits T w) : cV bits (T.beside k d) w := by
 unfold Tr.beside Tr.child; split
 ·
  exact h.left
 ·
  exact h.right
theorem cV.jA {bits : Int} {T : Tr} {w : World} {k : List UInt8} {d : Nat} (h : cV bits T w) : ∀ i, cV bits (T.jA k d i) w
 | 0 => h
 | i + 1 => (cV.jA h i).step
theorem Tr.sH {k : List UInt8} : ∀ (i d : Nat) (T : Tr), i < T.dp k d → (T.jA k d i).er.kind = 2 := by
 intro i
 induction i with
 | zero =>
  intro d T h
  show T.er.kind = 2
  cases T <;> first | rfl | (simp [Tr.dp] at h)
 | succ i ih =>
  intro d T h
  have h2 : T.er.kind = 2 := by
   cases T <;> first | rfl | (simp [Tr.dp] at h)
  rw [Tr.oP]
  rw [Tr.qY h2] at h
  exact ih _ _ (by omega)
theorem Tr.q5 {k : List UInt8} : ∀ (n d : Nat) (T : Tr), T.dp k d = n → (T.jA k d n).er.kind ≠ 2 := by
 intro n
 induction n with
 | zero =>
  intro d T h h2
  have h2' : T.er.kind = 2 := h2
  rw [Tr.qY h2'] at h
  omega
 | succ n ih =>
  intro d T h
  have h2 : T.er.kind = 2 := by
   cases T <;> first | rfl | (simp [Tr.dp] at h)
  rw [Tr.oP]
  rw [Tr.qY h2] at h
  exact ih _ _ (by omega)
theorem Tr.yX {k : List UInt8} : ∀ (n d : Nat) (T : Tr), T.dp k d = n → T.er.fit d → d ≤ 256 → d + T.dp k d ≤ 256 := by
 intro n
 induction n with
 | zero => intro d T h _ _; omega
 | succ n ih =>
  intro d T h hf hd
  have h2 : T.er.kind = 2 := by
   cases T <;> first | rfl | (simp [Tr.dp] at h)
  have h' := h
  rw [Tr.qY h2] at h
  obtain ⟨a, l, r, rfl⟩ := Tr.BB h2
  have hs : ((Tr.inner a l r).step k d).er.fit (d + 1) := by unfold Tr.step Tr.child; split; exact hf.2.1; exact hf.2.2
  have := ih (d + 1) _ (by omega) hs hf.1
  omega
def GV (k : List UInt8) (d : Nat) (m : List En) : Nat → List En
 | 0 => m
 | i + 1 => bO (GV k d m i) (i + d) (bI k (i + d))
theorem grow_step {T : Tr} {d : Nat} {m : List En} (k : List UInt8) (hT : T.er = grow d m) (hp : Pm d m) (h2 : T.er.kind = 2) :
  d < 256 ∧ 2 ≤ m.length ∧ (T.step k d).er = grow (d + 1) (bO m d (bI k d)) ∧ (T.beside k d).er = grow (d + 1) (bO m d (1 - bI k d)) := by
 rw [hT] at h2
 have hm := (oI hp).1 h2
 have hd := hp.lt hm
 rw [iU d m hd hm] at hT
 have hb := eA k d
 cases T with
 | nil => cases hT
 | leaf => cases hT
 | inner a l r =>
  injection hT with h1 h3
  refine ⟨hd, hm, ?_, ?_⟩
  ·
   unfold Tr.step Tr.child
   by_cases h : bI k d = 0
   ·
    rw [if_pos h, h]; exact h1
   ·
    rw [if_neg h, show bI k d = 1 by omega]; exact h3
  ·
   unfold Tr.beside Tr.child
   by_cases h : bI k d = 0
   ·
    rw [h]; exact h3
   ·
    rw [show bI k d = 1 by omega]; exact h1
theorem GU {T : Tr} {d : Nat} {m : List En} {k : List UInt8} (hT : T.er = grow d m) (hp : Pm d m) : ∀ i, i ≤ T.dp k d → (T.jA k d i).er = grow (i + d) (GV k d m i) ∧ Pm (i + d) (GV k d m i) := by
 intro i
 induction i with
 | zero => intro _; rw [Nat.zero_add]; exact ⟨hT, hp⟩
 | succ i ih =>
  intro hi
  have h := ih (by omega)
  have hs := grow_step k h.1 h.2 (Tr.sH i d T (by omega))
  rw [show i + 1 + d = i + d + 1 by omega]
  exact ⟨hs.2.2.1, h.2.part hs.1 _⟩
theorem VD {T : Tr} {d : Nat} {m : List En} {k : List UInt8} (hT : T.er = grow d m) (hp : Pm d m) {i : Nat} (hi : i < T.dp k d) : 2 ≤ (GV k d m i).length ∧ i + d < 256 := by
 have h := GU (k := k) hT hp i (by omega)
 have hs := grow_step k h.1 h.2 (Tr.sH i d T hi)
 exact ⟨hs.2.1, hs.1⟩
theorem J6 {T : Tr} {d : Nat} {m : List En} {k : List UInt8} (hT : T.er = grow d m) (hp : Pm d m) : (GV k d m (T.dp k d)).length ≤ 1 := by
 have h := GU (k := k) hT hp _ (Nat.le_refl _)
 have h2 := Tr.q5 _ d T (rfl : T.dp k d = _)
 rw [h.1] at h2
 have := mt (oI h.2).2 h2
 omega
theorem iJ {m : List En} {d b : Nat} {e : En} : e ∈ bO m d b ↔ e ∈ m ∧ bI e.k d = b := by simp [bO]
def getM (m : List En) (k : List UInt8) : Option En := m.find? fun e => e.k == k
theorem BF {m : List En} {k : List UInt8} {d : Nat} : getM (bO m d (bI k d)) k = getM m k := by
 induction m with
 | nil => rfl
 | cons e m ih =>
  have e1 : bO (e :: m) d (bI k d) = if (bI e.k d == bI k d) = true then e :: bO m d (bI k d) else bO m d (bI k d) := List.filter_cons
  rw [e1]
  by_cases h : e.k = k
  ·
   subst h
   simp [getM]
  ·
   have h' : (e.k == k) = false := by simpa using h
   by_cases hb : (bI e.k d == bI k d) = true
   ·
    rw [if_pos hb]
    show List.find? _ (e :: _) = List.find? _ (e :: _)
    rw [List.find?_cons, List.find?_cons, h']
    exact ih
   ·
    rw [if_neg hb]
    show _ = List.find? _ (e :: _)
    rw [List.find?_cons, h']
    exact ih
theorem L0 {m : List En} {k : List UInt8} {d : Nat} : ∀ i, getM (GV k d m i) k = getM m k
 | 0 => rfl
 | i + 1 => (BF).trans (L0 i)
theorem AO {m : List En} {w : World} {d b : Nat} (h : eC m w) : eC (bO m d b) w := fun e he => h e (iJ.1 he).1
theorem aB (bits : Int) (d : Nat) (m : List En) : (n4 bits d m).length = 32 := eW _ _
def nT (m : List En) : Prop := ∀ e ∈ m, e.v.length ≤ 1000000
theorem nT.part {m : List En} {d b : Nat} (h : nT m) : nT (bO m d b) := fun e he => h e (iJ.1 he).1
theorem sZ (m : List En) (d b : Nat) : (bO m d b).length ≤ m.length := List.length_filter_le _ _
def V1 (bits : Int) (d : Nat) : Prop := ∀ {X : Nat → Prop} {w : World} {s : Value} {m : List En}, (∀ b, X b → b < w.heap.size) → aH X (fF s m) w → aH X (eC m) w → aH X aZ w → Pm d m → m.length ≤ 1000000 → nT m → 0 ≤ bits ∧ bits ≤ 256 →
 bC prog 26 [.int .i64 bits, s, .int .i64 (d : Int)].toArray w fun v w' => v = .agg (kc (n4 bits d m)).toArray ∧ Out Nil w w'
theorem V0 {X : Nat → Prop} {w : World} {bits : Int} {s : Value} {m : List En} {d : Nat} (hX : c6 X w) (bT : aH X (fF s m) w) (dJ : aH X (eC m) w) (fQ : aH X (aZ) w) (nL : Pm d m) (hlen : m.length ≤ 1000000) (hsv : nT m) (bU : 0 ≤ bits ∧ bits ≤ 256) (ih : V1 bits (d + 1)) :
  bC prog 26 [.int .i64 bits, s, .int .i64 (d : Int)].toArray w fun v w' => v = .agg (kc (n4 bits d m)).toArray ∧ Out Nil w w' := by
 refine bC.aI (N := 49) func26 rfl rfl (by simp) ?_
 have H := (((St.begin hX).add (cE fQ)).add (cE dJ)).add (cE bT)
 have p3 := nL.kl
 have iD := qO.of (dJ.here)
 refine WE.aA ?_
 refine WL.alloc H rfl lB rfl ?_
 intro b6 w1 H
 refine WL.nil (WE.seq (WE.aA (WL.mv rfl rfl ?_)))
 refine WL.pv (PV.dS (by exact H.p 0 rfl : fF s m _) lR rfl) rfl ?_
 refine WL.pv (PV.eql rfl rfl rfl) rfl (WL.nil ?_)
 refine WE.cond rfl (fun j3 => ?_) (fun j3 => ?_)
 ·
  try simp only [bP] at j3
  obtain rfl : m = [] := List.eq_nil_of_length_eq_zero (by omega)
  refine WE.aA (WL.mv rfl rfl ?_)
  refine WL.call aJ6 rfl (IM (i := bits) H.aR (by exact H.bJ 2 rfl) (by assumption)) ?_
  rintro _ w2 ⟨rfl, hO⟩
  replace H := H.out hO
  refine WL.aW H 0 rfl rfl rfl (new := _) rfl (by exact dH) (bH _) (Laid.at (Laid.all rfl) rfl) rfl ?_
  intro w3 H
  refine WL.nil (WE.ret ⟨[_], _, .nil _, ⟨⟨_, rfl, aU fS (aN.aF (H.l 0 rfl) (aK.all _) rfl) (by exact dH)⟩, trivial⟩, ?_⟩)
  refine ⟨?_, H.aL⟩
  rw [n4, eM]; rfl
 ·
  try simp only [bP] at j3
  refine WE.skip (WE.seq (WE.aA (WL.mv rfl rfl ?_)))
  refine WL.pv (PV.dS (by exact H.p 0 rfl : fF s m _) lR rfl) rfl ?_
  refine WL.pv (PV.eql rfl rfl rfl) rfl (WL.nil ?_)
  refine WE.cond rfl (fun nO => ?_) (fun nO => ?_)
  ·
   try simp only [bP] at nO
   obtain ⟨e, rfl⟩ : ∃ e, m = [e] := List.length_eq_one_iff.1 (by omega)
   have hk := p3 e (by simp)
   have hv := hsv e (by simp)
   have hvd := fY bits e.v
   refine WE.bG (.take 0 (.take 1 (.take 2 (.take 3 (.take 4 (.take 5 (.take 6 (.take 7 (.take 8 (.take 9 (.aG 10 (.aG 11 (.aG 12 (.aG 13 .done)))))))))))))) mixed (by kernel_rfl) ?_
   replace H := H.out (Out.drew _)
   refine WP.mv rfl rfl rfl (WP.mv rfl rfl rfl (WP.mv rfl rfl rfl ?_))
   refine WP.aC rfl rfl (PV.dX rfl (by exact H.p 0 rfl : fF s _ _) lR fH rfl rfl (by omega) (by simp)) ?_
   refine WP.aC rfl rfl (PV.dF rfl gK rfl) ?_
   refine WP.dO rfl rfl rfl c7 rfl (fF.rdk (H.p 0 rfl) p3 0 (by simp)) (by (rw [cM]; refine congrArg some ?_; (simp [aJ, aQ, *]; done))) ?_
   refine WP.mv rfl rfl rfl ?_
   refine WP.aC rfl rfl (PV.dX rfl (by exact H.p 0 rfl : fF s _ _) lR fH rfl rfl (by omega) (by simp)) ?_
   refine WP.aC rfl rfl (PV.dF rfl mD rfl) (WP.aM rfl rfl (RV.aV rfl eH rfl) (fF.rdv (H.p 0 rfl) p3 0 (by simp)) (WP.aG rfl ?_))
   refine WL.call aJ4 rfl (EU (k := e.k) (la := e.v) (i := bits) H.aR (by exact (H.bJ 1 rfl).imp fun _ h => h e (by simp)) (by exact H.bJ 2 rfl) (by assumption) (by assumption) (by assumption)) ?_
   rintro _ w4 ⟨rfl, hO⟩
   replace H := H.out hO
   refine WL.nil ⟨(fa (nw 10 9) (fa (nw 10 5) c8)), ?_⟩
   refine WP.aG rfl ?_
   refine WL.call aJ5 rfl (NQ (k := e.k) (l := nI bits e.v) H.aR  (by assumption) (by assumption)) ?_
   rintro v28 w5 ⟨hO, hR⟩
   replace H := (H.out hO).add hR
   refine WL.nil ⟨(fa (nw 11 9) (fa (nw 11 5) c8)), ?_⟩
   refine WP.aG rfl ?_
   refine WL.call Z1 rfl (qQ (la := 0 :: (e.k ++ nI bits e.v)) (i := bits) H.aR (by exact H.bJ 0 rfl) (by (simp; omega)) (by omega)) ?_
   rintro _ w6 ⟨rfl, hO⟩
   replace H := H.out hO
   refine WL.nil ⟨(fa (nw 12 9) (fa (nw 12 5) c8)), ?_⟩
   refine WP.aG rfl ?_
   refine WL.aW H 0 rfl rfl rfl (new := _) rfl (by exact dH) (bH _) (Laid.at (Laid.all (by simp only [aS, aY, aB])) rfl) rfl ?_
   intro w7 H
   refine WL.nil ⟨(fa (nw 13 9) (fa (nw 13 5) c8)), ?_⟩
   refine WP.done (WE.ret ⟨[_], _, .nil _, ⟨⟨_, rfl, aU fS (aN.aF (H.l 0 rfl) (aK.all _) rfl) (by exact dH)⟩, trivial⟩, ?_⟩)
   refine ⟨?_, H.aL⟩
   rw [n4, dR]; rfl
  ·
   try simp only [bP] at nO
   have h2 : 2 ≤ m.length := by omega
   have hd := nL.lt h2
   refine WE.skip (WE.aA (WL.mv rfl rfl (WL.mv rfl rfl (WL.mv rfl rfl ?_))))
   refine WL.call aGk rfl (V5 (m := m) (d := d) (b := 0) H.aR (by exact H.bJ 0 rfl) (by assumption) (by assumption) (by assumption) (by assumption)) ?_
   rintro v33 w8 ⟨hO, hR⟩
   replace H := (H.out hO).add hR
   refine WL.mv rfl rfl (WL.pv (PV.eq (v' := .int .i64 ((d + 1 : Nat) : Int)) (PV.bV rfl rfl rfl (by omega) (by omega)) rfl) rfl ?_)
   refine WL.call aDf rfl (ih (m := bO m d 0) H.aR (H.bJ 0 rfl) (by exact (H.bJ 2 rfl).imp fun _ h => AO h) (by exact H.bJ 3 rfl) (by exact nL.part hd _) (by exact Nat.le_trans (sZ _ _ _) hlen) (by exact nT.part hsv) bU) ?_
   rintro _ w9 ⟨rfl, hO⟩
   replace H := H.out hO
   refine WL.alloc H rfl lB rfl ?_
   intro b7 tX H
   refine WL.aW H 0 rfl rfl rfl (new := _) rfl (cI dH (by simp only [aS, aY, aB])) (bH _) (Laid.at (Laid.all (by simp only [aS, aY, aB])) rfl) rfl ?_
   intro xG H
   refine WL.nil (WE.aA (WL.mv rfl rfl (WL.mv rfl rfl (WL.mv rfl rfl ?_))))
   refine WL.call aGk rfl (V5 (m := m) (d := d) (b := 1) H.aR (by exact H.bJ 1 rfl) (by assumption) (by assumption) (by assumption) (by assumption)) ?_
   rintro v40 HL ⟨hO, hR⟩
   replace H := (H.out hO).add hR
   refine WL.mv rfl rfl (WL.pv (PV.eq (v' := .int .i64 ((d + 1 : Nat) : Int)) (PV.bV rfl rfl rfl (by omega) (by omega)) rfl) rfl ?_)
   refine WL.call aDf rfl (ih (m := bO m d 1) H.aR (H.bJ 0 rfl) (by exact (H.bJ 3 rfl).imp fun _ h => AO h) (by exact H.bJ 4 rfl) (by exact nL.part hd _) (by exact Nat.le_trans (sZ _ _ _) hlen) (by exact nT.part hsv) bU) ?_
   rintro _ DW ⟨rfl, hO⟩
   replace H := H.out hO
   refine WL.alloc H rfl lB rfl ?_
   intro b8 H9 H
   refine WL.aW H 0 rfl rfl rfl (new := _) rfl (cI dH (by simp only [aS, aY, aB])) (bH _) (Laid.at (Laid.all (by simp only [aS, aY, aB])) rfl) rfl ?_
   intro ND H
   refine WL.nil (WE.aA (WL.mv rfl rfl ?_))
   refine WL.bE rfl fS rfl rfl (aN.aF (H.l 1 rfl) (aK.all _) rfl) (cI dH (by simp only [aS, aY, aB])) ?_
   refine WL.bE rfl fS rfl rfl (aN.aF (H.l 0 rfl) (aK.all _) rfl) (cI dH (by simp only [aS, aY, aB])) ?_
   refine WL.call aJ3 rfl (NP (k := n4 bits (d + 1) (bO m d 0)) (l := n4 bits (d + 1) (bO m d 1)) H.aR  (eW _ _) (eW _ _)) ?_
   rintro v47 QL ⟨hO, hR⟩
   replace H := (H.out hO).add hR
   refine WL.call Z1 rfl (qQ (la := 1 :: (n4 bits (d + 1) (bO m d 0) ++ n4 bits (d + 1) (bO m d 1))) (i := bits) H.aR (by exact H.bJ 0 rfl) (by simp [n4, eW]) (by omega)) ?_
   rintro _ QK ⟨rfl, hO⟩
   replace H := H.out hO
   refine WL.aW H 2 rfl rfl rfl (new := _) rfl (by exact dH) (bH _) (Laid.at (Laid.all (by simp only [aS, aY, aB])) rfl) rfl ?_
   intro QJ H
   refine WL.nil (WE.ret ⟨[_], _, .nil _, ⟨⟨_, rfl, aU fS (aN.aF (H.l 2 rfl) (aK.all _) rfl) (by exact dH)⟩, trivial⟩, ?_⟩)
   refine ⟨?_, H.aL⟩
   have e0 : n4 bits d m = _ := congrArg (Sh.nV bits) (iU d m hd h2)
   rw [e0]; rfl
theorem aAt (bits : Int) : ∀ (n d : Nat), 256 - d = n → V1 bits d := by
 intro n
 induction n with
 | zero =>
  intro d hn X w s m hX h0 h1 h2 hp hl hs hb
  exact V0 hX h0 h1 h2 hp hl hs hb (fun _ _ _ _ hp' => absurd hp'.le (by omega))
 | succ n ih =>
  intro d hn X w s m hX h0 h1 h2 hp hl hs hb
  exact V0 hX h0 h1 h2 hp hl hs hb (ih (d + 1) (by omega))
theorem aDD {X : Nat → Prop} {w : World} {s : Value} {m : List En} {bits : Int} {d : Nat} (hX : c6 X w) (h0 : aH X (fF s m) w) (h1 : aH X (eC m) w) (h2 : aH X aZ w) (hp : Pm d m) (hl : m.length ≤ 1000000) (hs : nT m) (hb : 0 ≤ bits ∧ bits ≤ 256) :
  bC prog 26 [.int .i64 bits, s, .int .i64 (d : Int)].toArray w fun v w' => v = .agg (kc (n4 bits d m)).toArray ∧ Out Nil w w' :=
 aAt bits _ d rfl hX h0 h1 h2 hp hl hs hb
theorem Pm.gC {d : Nat} {m : List En} (h : Pm d m) : (grow d m).gC = m.length := mN h
theorem Tr.tC {T : Tr} {k v : List UInt8} (h : T.er = .leaf k v) : ∃ a s, T = .leaf a k v s := by
 cases T with
 | nil => cases h
 | inner => cases h
 | leaf a k' v' s => injection h with h1 h2; subst h1; subst h2; exact ⟨a, s, rfl⟩
theorem Tr.SH {T : Tr} {x y : Sh} (h : T.er = .inner x y) : ∃ a l r, T = .inner a l r ∧ l.er = x ∧ r.er = y := by
 cases T with
 | nil => cases h
 | leaf => cases h
 | inner a l r => injection h with h1 h2; exact ⟨a, l, r, rfl, h1, h2⟩
theorem Tr.I4 {T : Tr} (h : T.er = .nil) : T = .nil := by cases T <;> first | rfl | cases h
theorem DV {X : Nat → Prop} {w : World} {bits : Int} {T : Tr} (hX : c6 X w) (bT : aH X (cV bits T) w) :
  bC prog 61 [T.ptr].toArray w fun v w' => ∃ s2, v = .agg (kc T.key ++ [s2]).toArray ∧ Out Nil w w' ∧ w'.ownsRow w.heap.size 5 1 s2 T.val.length (kc T.val) := by
 refine bC.aI (N := 13) func61 rfl rfl (by simp) ?_
 have H := (St.begin hX).add (cE bT)
 have hk := cV.gY (bT.here)
 have hd := Tr.aT bits T
 have LS := cV.QM (bT.here)
 have hvs := cO.fW (cV.vsl (bT.here))
 refine WE.aA ?_
 refine WL.alloc H rfl lC rfl ?_
 intro b2 w1 H
 refine WL.nil (WE.aA (WL.mv rfl rfl ?_))
 refine WL.call aGh rfl (LO (T := T) H.aR (H.bJ 0 rfl)) ?_
 rintro _ w2 ⟨rfl, hO⟩
 replace H := H.out hO
 rw [Tr.CR]
 refine WL.alloc H rfl KV rfl ?_
 intro b3 w3 H
 refine WL.aW H 0 rfl rfl rfl (new := _) rfl (cI EG (by simp only [aS, aY, aB]; omega)) (bN (bN (bH _) (bH _)) (bB _ (by simp [hvs]))) (Laid.at (Laid.all (by simp only [aS, aY, aB]; omega)) rfl) rfl ?_
 intro w4 H
 refine WL.nil ?_
 refine WE.bG (.take 0 (.take 1 (.take 2 (.take 3 (.take 4 (.aG 5 (.take 6 (.aG 7 .done)))))))) mixed (by kernel_rfl) ?_
 replace H := H.out (Out.drew _)
 refine WP.aC rfl rfl (PV.fieldAddr rfl DK rfl) (WP.aC rfl rfl (PV.fieldAddr rfl kK rfl) ?_)
 refine WP.dO rfl rfl rfl c7 rfl (aN.aF (H.l 0 rfl) (aK.l (aK.l (aK.all _))) rfl) (cI cM (by simp only [aS, aY, aB]; omega)) ?_
 refine WP.aC rfl rfl (PV.fieldAddr rfl ZX rfl) ?_
 refine WP.aM rfl rfl (RV.aV rfl eH rfl) (aN.aF (H.l 0 rfl) (aK.r (aK.all _) rfl) (by simp [aJ, aQ, *])) ?_
 refine WP.aG rfl ?_
 refine WL.call aBH rfl (HI (la := T.val) H.aR ((H.bJ 0 rfl).imp fun _ h => h.vsl) (by omega)) ?_
 rintro s2 w5 ⟨hO, iE⟩
 have hs2 := cO.fW (bL.dM iE)
 replace H := H.push hO (aP.gZ w.heap.size s2 5 1 _ _) (gR iE H.size) (fun b hb => (iE.lt b hb).1)
 refine WL.nil ⟨(fa (nw 5 4) (fa (fun _ _ => (aN.aF (H.l 1 rfl) (aK.l (aK.l (aK.all _))) rfl)) c8)), ?_⟩
 refine WP.aC rfl rfl (PV.dQ rfl xZ lC (Fl.cons rfl rfl (by simp only [aS, aY, aB]; omega) (Laid.left (Laid.all (by simp only [aS, aY, aB]; omega))) (Fl.cons rfl (cells_one hs2) (by simp only [aS, aY, aB]) (Laid.right (Laid.all (by simp only [aS, aY, aB])) (by simp only [aS, aY, aB]; omega)) Fl.nil))) ?_
 refine WP.aG rfl ?_
 refine WL.aW H 2 rfl rfl rfl (new := kc T.key ++ [s2]) rfl (cI fH (by simp only [aS, aY, aB]; omega)) (bN (bH _) (bB _ (by simp [hs2]))) (Laid.at (Laid.all (by simp only [aS, aY, aB]; omega)) rfl) rfl ?_
 intro w6 H
 refine WL.nil ⟨(fa (nw 7 4) (fa (nw 7 2) c8)), ?_⟩
 refine WP.done (WE.ret ⟨[_], _, .nil _, ⟨⟨_, rfl, aU pV (aN.aF (H.l 2 rfl) (aK.all _) rfl) (cI fH (by simp only [aS, aY, aB]; omega))⟩, trivial⟩, ?_⟩)
 exact ⟨s2, rfl, H.aL, H.l 0 rfl⟩
theorem N4 (s t : Sh) : (kO s t).gC = s.gC + t.gC := by cases s <;> cases t <;> simp [kO, Sh.gC]
theorem aKF {m : Nat} (h : m < 256) : IntKind.u8.wrap ((BitVec.ofInt IntKind.u8.bits (m : Int) &&& BitVec.ofInt IntKind.u8.bits 1).toNat : Int) = ((m % 2 : Nat) : Int) := by
 rw [KX]
 have e : (BitVec.ofInt IntKind.u8.bits (m : Int) &&& BitVec.ofInt IntKind.u8.bits 1).toNat = m % 2 := by
  show (BitVec.ofInt 8 (m : Int) &&& 1#8).toNat = _
  rw [BitVec.ofInt_natCast, BitVec.toNat_and]
  simp [Nat.and_one_is_mod]
 rw [e]
 omega
theorem j7 {X : Nat → Prop} {w : World} {k : List UInt8} {d : Nat} (hX : c6 X w) (hk : k.length = 32) (hd : d < 256) :
  bC prog 74 [.agg (kc k).toArray, .int .i64 (d : Int)].toArray w fun v w' => v = .int .i64 (bI k d : Int) ∧ Out Nil w w' := by
 refine bC.aI (N := 21) func74 rfl rfl (by simp) ?_
 have H := St.begin hX
 have hx := (k.getD (d / 8) 0).toNat_lt
 have hb2 := eA k d
 refine WE.aA ?_
 refine WL.box (l := kc k) H rfl rfl rfl ?_
 intro b2 w1 H
 refine WL.as rfl rfl (WL.nil (WE.seq (WE.aA (WL.mv rfl rfl (WL.pv (PV.lss rfl rfl rfl) rfl (WL.mv rfl rfl (WL.known (t := 7) (c := false) rfl (by simp) ?_)))))))
 refine WL.mv rfl rfl (WL.pv (PV.geq rfl rfl rfl) rfl (WL.pv (PV.cF rfl rfl rfl) rfl (WL.nil ?_)))
 refine WE.bD rfl (by (simp; omega)) ?_
 refine WE.skip (WE.aA (WL.mv rfl rfl ?_))
 refine WL.pv (PV.eq (v' := .int .i64 ((d / 8 : Nat) : Int)) (PV.qC rfl rfl rfl (by omega) (by omega) (by omega)) rfl) rfl ?_
 refine WL.pv (PV.bF rfl gW gO rfl rfl (by omega) (by omega)) rfl (WL.aX rfl vD rfl rfl (aN.J1 (H.l 0 rfl) (d / 8) (by omega) (by omega)) (WL.mv rfl rfl (WL.pv (PV.eq (v' := .int .i64 ((d % 8 : Nat) : Int)) (PV.qB rfl rfl rfl (by omega) (by omega)) rfl) rfl ?_)))
 refine WL.pv (PV.eq (v' := .int .i64 ((7 - d % 8 : Nat) : Int)) (PV.gE rfl rfl rfl (by omega) (by omega)) (by (congr 1; omega))) rfl ?_
 refine WL.pv (PV.eq (v' := .int .u8 (((k.getD (d / 8) 0).toNat / 2 ^ (7 - d % 8) : Nat) : Int)) (PV.CD rfl rfl rfl (by show _ < 8; omega)) rfl) rfl ?_
 refine WL.pv (PV.eq (v' := .int .u8 ((bI k d : Nat) : Int)) (PV.J9 rfl rfl rfl) (congrArg (Value.int .u8) (aKF (Nat.lt_of_le_of_lt (Nat.div_le_self _ _) hx)))) rfl ?_
 refine WL.pv (PV.lX rfl mM tE rfl (by omega) (by omega)) rfl (WL.as rfl rfl (WL.nil (WE.ret ⟨[_], _, .nil _, ⟨rfl, trivial⟩, ?_⟩)))
 exact ⟨rfl, H.aL⟩
theorem q6 {X : Nat → Prop} {w : World} {bits : Int} {T : Tr} {b : Nat} (hX : c6 X w) (bT : aH X (cV bits T) w) :
  bC prog 73 [T.ptr, .int .i64 (b : Int)].toArray w fun v w' => v = (T.child b).ptr ∧ Out Nil w w' := by
 refine bC.aI (N := 11) func73 rfl rfl (by simp) ?_
 have H := (St.begin hX).add (cE bT)
 refine WE.aA (WL.as rfl rfl (WL.nil (WE.seq (WE.aA (WL.mv rfl rfl (WL.pv (PV.eql rfl rfl rfl) rfl (WL.nil ?_)))))))
 refine WE.cond rfl (fun TG => ?_) (fun TG => ?_)
 ·
  try simp only [bP] at TG
  have hb : b = 0 := by omega
  refine WE.aA (WL.mv rfl rfl ?_)
  refine WL.call UE rfl (KM (T := T) (bits := bits) H.aR (by exact H.bJ 0 rfl) ) ?_
  rintro _ w1 ⟨rfl, hO⟩
  replace H := H.out hO
  refine WL.as rfl rfl (WL.nil (WE.ret ⟨[_], _, .nil _, ⟨rfl, trivial⟩, ?_⟩))
  refine ⟨?_, H.aL⟩
  rw [Tr.child, if_pos hb]; rfl
 ·
  try simp only [bP] at TG
  have hb : b ≠ 0 := by omega
  refine WE.skip (WE.aA (WL.mv rfl rfl ?_))
  refine WL.call UD rfl (zH (T := T) (bits := bits) H.aR (by exact H.bJ 0 rfl) ) ?_
  rintro _ w2 ⟨rfl, hO⟩
  replace H := H.out hO
  refine WL.as rfl rfl (WL.nil (WE.ret ⟨[_], _, .nil _, ⟨rfl, trivial⟩, ?_⟩))
  refine ⟨?_, H.aL⟩
  rw [Tr.child, if_neg hb]; rfl
def aIA (T : Tr) (k : List UInt8) (i : Nat) (xs : List Value) (_ : World) : Prop := xs = [.int .i64 (i : Int), (T.jA k 0 i).ptr]
def aIB (b1 b2 : Nat) : Value := .func (.func 111) [].toArray [.pointer (some ⟨b1, 0, none⟩), .pointer (some ⟨b2, 0, none⟩)].toArray
theorem aAU {X : Nat → Prop} {w : World} {T : Tr} {k : List UInt8} (hX : c6 X w) (hk : k.length = 32) :
  bC prog 71 [T.ptr, .agg (kc k).toArray].toArray w fun v w' => ∃ b1 b2, v = aIB b1 b2 ∧ Out Nil w w' ∧ w.heap.size ≤ b1 ∧ aN w' b1 39 [T.ptr] ∧ aH (fun c => X c ∨ c = b1) (fun w => dD w ⟨b2, 0, none⟩ (kc k)) w' := by
 refine bC.aI (N := 6) func71 rfl rfl (by simp) ?_
 have H := St.begin hX
 refine WE.aA ?_
 refine WL.box (l := [T.ptr]) H rfl (rfl) rfl ?_
 intro b2 w1 H
 refine WL.box (l := kc k) H rfl rfl rfl ?_
 intro b3 w2 H
 refine WL.as rfl rfl (WL.nil (WE.aA (WL.pv (PV.makeFunc rfl) rfl (WL.as rfl rfl (WL.nil (WE.ret ⟨[_], _, .nil _, ⟨rfl, trivial⟩, ?_⟩))))))
 replace H := H.freeze (i := 0) rfl
 exact ⟨_, _, rfl, H.aL, H.kI _ (List.mem_of_getElem? (i := 0) rfl) _ rfl, H.l 0 rfl, (H.aBt 0 rfl).imp fun _ h => h.rd⟩
theorem EC {C : Nat → Prop} {w : World} {b1 b2 : Nat} {bits : Int} {T : Tr} {k : List UInt8} (hC : ∀ b, C b → b < w.heap.size) (fA : aN w b1 39 ([T.ptr])) (hn0 : ¬ C b1) (bT : aH (fun c_ => C c_ ∨ c_ = b1) (fun w => dD w ⟨b2, 0, none⟩ (kc k)) w) (dJ : aH (fun c_ => C c_ ∨ c_ = b1) (cV bits T) w) (hk : k.length = 32) (hfit : T.er.fit 0) : VX prog 111 [] [.pointer (some ⟨b1, 0, none⟩), .pointer (some ⟨b2, 0, none⟩)] (T.dp k 0 + 1) (aIA T k) (· = b1) C w := by
 intro f J Jx hst j9 N6 iK hf
 show bC prog 111 ([f, .pointer (some ⟨b1, 0, none⟩), .pointer (some ⟨b2, 0, none⟩)] : List Value).toArray w _
 refine bC.aI (N := 21) func111 rfl rfl (by simp) ?_
 have H := ((St.dK (X := C) (b := b1) (t := 39) (l := [T.ptr]) hC fA).add (cC dJ)).add (cC bT)
 have D0 := Tr.yX (k := k) _ 0 T rfl hfit (by omega)
 refine WE.aA (WL.as rfl rfl (WL.nil (WE.block ?_)))
 refine WE.loop (α := Nat) (rg [(4, 17)]) (fun i => [(4, .int .i64 i)]) (fun i wl => i ≤ T.dp k 0 ∧ J (· = b1) i wl ∧ St C wl wl [aP.blk b1 39 [(T.jA k 0 i).ptr]] [] [fun w => dD w ⟨b2, 0, none⟩ (kc k), cV bits T]) (fun i => T.dp k 0 - i) 0 ⟨rfl, trivial⟩ ⟨Nat.zero_le _, hst (· = b1) w (Out.refl _ _) (fun _ h => .inl h) (fun _ h => h), H⟩ ?_
 intro i γ0 w1 hI
 try dsimp only at hI
 obtain ⟨hi, hJ, H⟩ := hI
 have C1 : ∃ HY, HY = w1 := ⟨_, rfl⟩
 obtain ⟨HY, C1⟩ := C1
 rw [← C1] at hJ H ⊢
 clear C1
 refine WE.seq (WE.aA (WL.mv rfl rfl (WL.mv rfl rfl (WL.aX rfl iQ rfl rfl (aN.aF (H.o 0 rfl) (aK.all _) rfl) ?_))))
 refine WL.iZ rfl rfl (iK (· = b1) i _ HY _ (by omega) hJ H.cT (aH.pure rfl)) ?_
 rintro _ w2 ⟨hk, ⟨rfl, hJ⟩ | ⟨rfl, hJ⟩⟩
 ·
  replace H := St.aDv (Ps := [fun w => dD w ⟨b2, 0, none⟩ (kc k), cV bits T]) hC hk (fun _ h => .inl h) rfl (H.o 0 rfl) (by intro p hp; simp at hp; rcases hp with rfl | rfl <;> assumption)
  refine WL.mv rfl rfl (WL.aX rfl iQ rfl rfl (aN.aF (H.o 0 rfl) (aK.all _) rfl) ?_)
  refine WL.call mE rfl (e8 (T := T.jA k 0 i) (bits := bits) H.aR (by exact (H.bJ 1 rfl).imp fun _ h => h.jA i) ) ?_
  rintro _ w3 ⟨rfl, hO⟩
  replace H := H.out hO
  refine WL.pv (PV.eql rfl rfl rfl) rfl (WL.pv (PV.c5 rfl rfl rfl) rfl (WL.nil ?_))
  refine WE.cond rfl (fun yN => ?_) (fun yN => ?_)
  ·
   try simp only [bP] at yN
   have hlt : i < T.dp k 0 := by rcases Nat.lt_or_ge i (T.dp k 0) with h | h; exact h; exact absurd (show (T.jA k 0 i).er.kind = 2 by exact yN) (by rw [show i = T.dp k 0 by omega]; exact Tr.q5 _ 0 T rfl)
   refine WE.skip (WE.seq (WE.block ?_))
   refine WE.draw (.take 0 (.take 1 (.take 2 (.aG 3 (.aG 4 (.aG 5 .done)))))) mixed (by kernel_rfl) ?_
   replace H := H.out (Out.drew _)
   refine WP.aM rfl rfl (RV.aV rfl iQ rfl) (aN.aF (H.o 0 rfl) (aK.all _) rfl) ?_
   refine WP.dO rfl rfl rfl c7 rfl (H.p 0 rfl) (cI cM (by simp only [aS, aY, aB]; omega)) ?_
   refine WP.mv rfl rfl rfl (WP.aG rfl ?_)
   refine WL.call F4 rfl (j7 (k := k) (d := i) H.aR  (by assumption) (by omega)) ?_
   rintro _ w4 ⟨rfl, hO⟩
   replace H := H.out hO
   refine WL.nil ⟨(fa (nw 3 1) (fa (rk hO) c8)), ?_⟩
   refine WP.aG rfl ?_
   refine WL.call OL rfl (q6 (T := T.jA k 0 i) (bits := bits) (b := bI k i) H.aR (by exact (H.bJ 1 rfl).imp fun _ h => h.jA i) ) ?_
   rintro _ w5 ⟨rfl, hO⟩
   replace H := H.out hO
   refine WL.nil ⟨(fa (nw 4 1) (fa (nw 4 0) c8)), ?_⟩
   refine WP.aG rfl ?_
   refine WL.lQ H 0 rfl rfl rfl (new := _) rfl (by exact mI) (bB _ rfl) (Laid.at (Laid.all (by simp only [aS, aY, aB])) rfl) rfl ?_
   intro w6 H
   refine WL.nil ⟨(fa (nw 5 1) (fa (nw 5 0) c8)), ?_⟩
   refine WP.done (WE.dW (WL.mv rfl rfl (WL.pv (PV.bV rfl rfl rfl (by omega) (by omega)) rfl (WL.as rfl rfl (WL.nil ?_)))))
   exact ⟨i + 1, (by repeat (first | with_reducible exact bK.refl _ _ | refine bK.dG rfl ?_ | refine bK.bZ rfl ?_ | refine bK.bX rfl ?_)), ⟨rfl, trivial⟩, rfl, ⟨by omega, j9 _ _ _ _ hJ H.cT, H.aCl⟩, (by omega)⟩
  ·
   try simp only [bP] at yN
   have aFq : i = T.dp k 0 := by rcases Nat.lt_or_ge i (T.dp k 0) with h | h; exact absurd (Tr.sH (k := k) i 0 T h) (by exact yN); omega
   refine WE.exit ?_
   refine ⟨[], _, .nil _, trivial, ?_⟩
   (subst aFq; exact ⟨rfl, _, .inl (j9 _ _ _ _ hJ H.cT)⟩)
 ·
  refine WL.mv rfl rfl (WL.off rfl (WL.off rfl (WL.off rfl (WL.pv (PV.cF rfl rfl rfl) rfl (WL.nil (WE.jF rfl (WE.exit ?_)))))))
  refine ⟨[], _, .nil _, trivial, ?_⟩
  exact ⟨rfl, _, .inr hJ⟩
def aA9 (T : Tr) (k : List UInt8) : Nat → Value
 | 0 => .pointer none
 | i + 1 => (T.jA k 0 i).ptr
def Tr.fin (T : Tr) (k : List UInt8) : Tr := T.jA k 0 (T.dp k 0)
theorem tV {X : Nat → Prop} {w : World} {bits : Int} {T : Tr} {k : List UInt8} (hX : c6 X w) (bT : aH X (cV bits T) w) (hk : k.length = 32) (hfit : T.er.fit 0) :
  bC prog 30 [T.ptr, .agg (kc k).toArray].toArray w fun v w' => v = .tuple [(T.fin k).ptr, .int .i64 (T.dp k 0 : Int)].toArray ∧ Out Nil w w' := by
 refine bC.aI (N := 17) func30 rfl rfl (by simp) ?_
 have H := (St.begin hX).add (cE bT)
 refine WE.aA ?_
 refine WL.box (l := kc k) H rfl rfl rfl ?_
 intro b3 w1 H
 refine WL.alloc H rfl M6 rfl ?_
 intro b4 w2 H
 refine WL.alloc H rfl ze3 rfl ?_
 intro b5 w3 H
 refine WL.nil (WE.seq (WE.aA (WL.mv rfl rfl ?_)))
 refine WL.bE rfl c7 rfl rfl (aN.aF (H.l 2 rfl) (aK.all _) rfl) (cI cM (by simp only [aS, aY, aB]; omega)) ?_
 refine WL.call aGi rfl (aAU (T := T) (k := k) H.aR  (by assumption)) ?_
 rintro _ w4 ⟨U4, U5, rfl, hO, hge, r6, hR⟩
 replace H := H.RK hO (aP.set (· = U4)) (fun c hc => by cases hc; exact r6.lt) (fun c hc => by cases hc; exact hge) hR
 refine WL.nil (WE.block ?_)
 refine WE.xS (α := Unit) (fun i _ => True) (fun i _ => []) (fun i _ => [aP.blk b5 3 [.int .i64 ((i - 1 : Nat) : Int)], aP.blk b4 39 [aA9 T k i], aP.blk b3 24 (kc k)]) (fun i _ => [fun w => dD w ⟨U5, 0, none⟩ (kc k), cV bits T]) (fun _ _ => False) (fun _ _ => []) (fun _ _ => []) (fun _ _ => []) () H rfl aBF (fun W0 hO => EC (T := T) (k := k) (bits := bits) (H.U2 hO) (r6.of_eq (hO.block _ r6.lt id)) (H.aBL rfl) (H.GK hO 0 rfl) (H.GK hO 1 rfl) hk hfit) (by intro _ _ _ h; rw [h]; rfl) ⟨trivial, rfl, rfl, rfl⟩ ?_ ?_ ?_
 ·
  intro i _ xs_ l_ d_ o_ T_ sc_ w5 jM tK OE
  obtain rfl := OE
  refine WE.aA (WL.as rfl rfl (WL.nil (WE.dW (WL.as rfl rfl (WL.nil ?_)))))
  refine ⟨rfl, rfl, rfl, ?_⟩
  intro w6 H
  refine WE.block (WE.dW (WL.mv rfl rfl (WL.mv rfl rfl ?_)))
  refine WL.aW H 1 rfl rfl rfl (new := _) rfl (by exact mI) (bB _ rfl) (Laid.at (Laid.all (by simp only [aS, aY, aB])) rfl) rfl ?_
  intro w7 H
  refine WL.aW H 0 rfl rfl rfl (new := _) rfl (by exact sz3) (bB _ rfl) (Laid.at (Laid.all (by simp only [aS, aY, aB])) rfl) rfl ?_
  intro w8 H
  refine WL.nil ?_
  replace H := H.conv (L' := [aP.blk b5 3 [.int .i64 ((i + 1 - 1 : Nat) : Int)], aP.blk b4 39 [aA9 T k (i + 1)], aP.blk b3 24 (kc k), aP.obj l_ o_, aP.obj d_ (.deferred (some [])), aP.sn T_ w6]) rfl
  replace H := H.drop (fun p hp => List.mem_cons_of_mem _ hp)
  exact ⟨(), trivial, H⟩
 ·
  intro _ US w9 tK H
  refine WE.bG (.take 0 (.take 1 (.aG 2 (.aG 3 .done)))) mixed (by kernel_rfl) ?_
  replace H := H.out (Out.drew _)
  refine WP.aM rfl rfl (RV.aV rfl iQ rfl) (aN.aF (H.l 2 rfl) (aK.all _) rfl) (WP.aM rfl rfl (RV.aV rfl l9 rfl) (aN.aF (H.l 1 rfl) (aK.all _) rfl) (WP.aG rfl ?_))
  refine WL.aW H 2 rfl rfl rfl (new := _) rfl (by exact mI) (bB _ rfl) (Laid.at (Laid.all (by simp only [aS, aY, aB])) rfl) rfl ?_
  intro tX H
  refine WL.nil ⟨(fa (fun _ _ => (aN.aF (H.l 1 rfl) (aK.all _) rfl)) (fa (nw 2 0) c8)), ?_⟩
  refine WP.aG rfl ?_
  refine WL.aW H 1 rfl rfl rfl (new := _) rfl (by exact sz3) (bB _ rfl) (Laid.at (Laid.all (by simp only [aS, aY, aB])) rfl) rfl ?_
  intro xG H
  refine WL.nil ⟨(fa (nw 3 1) (fa (nw 3 0) c8)), ?_⟩
  refine WP.done (WE.ret ?_)
  (obtain ⟨HL, uT, H⟩ := H.uE 0 rfl)
  refine ⟨[_, _], _, (uT _ (.nil _)), ⟨⟨_, rfl, cY iQ (aN.aF (H.l 1 rfl) (aK.all _) rfl)⟩, ⟨_, rfl, cY l9 (aN.aF (H.l 0 rfl) (aK.all _) rfl)⟩, trivial⟩, ?_⟩
  exact ⟨rfl, H.aL⟩
 ·
  intro e_ _ US DW P0 tK H
  exact tK.elim
theorem cV.fin {bits : Int} {T : Tr} {w : World} {k : List UInt8} (h : cV bits T w) : cV bits (T.fin k) w := h.jA _
def Tr.OG (T : Tr) (k : List UInt8) : Option (List UInt8) := match T.fin k with
 | .leaf _ q v _ => if q = k then some v else none
 | _ => none
theorem aDS {X : Nat → Prop} {w : World} {bits : Int} {T : Tr} {k : List UInt8} (hX : c6 X w) (bT : aH X (cV bits T) w) (hk : k.length = 32) (hfit : T.er.fit 0) (wS : (T.fin k).er.kind ≠ 1) :
  bC prog 51 [T.ptr, .agg (kc k).toArray].toArray w fun v w' => v = .tuple [.slice none 0 0, .bool false].toArray ∧ Out Nil w w' := by
 refine bC.aI (N := 27) func51 rfl rfl (by simp) ?_
 have H := (St.begin hX).add (cE bT)
 have p3 : (T.fin k).key.length = 32 := cV.gY (cV.fin (bT.here))
 have LS := cV.QM (cV.fin (k := k) (bT.here))
 refine WE.aA ?_
 refine WL.box (l := kc k) H rfl rfl rfl ?_
 intro b3 w1 H
 refine WL.as rfl rfl (WL.as rfl rfl (WL.nil (WE.aA (WL.mv rfl rfl ?_))))
 refine WL.bE rfl c7 rfl rfl (aN.aF (H.l 0 rfl) (aK.all _) rfl) (cI cM (by simp only [aS, aY, aB]; omega)) ?_
 refine WL.call Z5 rfl (tV (T := T) (k := k) (bits := bits) H.aR (by exact H.bJ 0 rfl) (by assumption) (by assumption)) ?_
 rintro _ w2 ⟨rfl, hO⟩
 replace H := H.out hO
 refine WL.mv rfl rfl (WL.pv (PV.extract rfl rfl rfl) rfl (WL.pv (PV.extract rfl rfl rfl) rfl (WL.as rfl rfl (WL.as rfl rfl (WL.nil (WE.seq ?_))))))
 refine WE.bG (.take 0 (.aG 1 (.take 2 (.take 3 (.take 4 (.take 7 (.aG 5 (.take 6 (.take 8 (.take 9 .done)))))))))) mixed (by kernel_rfl) ?_
 replace H := H.out (Out.drew _)
 refine WP.mv rfl rfl rfl (WP.aG rfl ?_)
 refine WL.call mE rfl (e8 (T := T.fin k) (bits := bits) H.aR (by exact (H.bJ 0 rfl).imp fun _ h => h.fin) ) ?_
 rintro _ w3 ⟨rfl, hO⟩
 replace H := H.out hO
 refine WL.nil ⟨c8, ?_⟩
 refine WP.aC rfl rfl (PV.neq rfl rfl rfl) (WP.mv rfl rfl rfl ?_)
 refine WP.known (t := 17) (c := true) rfl (by simp [wS]) ?_
 refine WP.eD rfl rfl (WP.eD rfl rfl (WP.aG rfl (WL.off rfl ?_)))
 refine WL.nil ⟨c8, ?_⟩
 refine WP.eD rfl rfl (WP.eD rfl rfl (WP.aC rfl rfl (PV.c5 rfl rfl rfl) (WP.done (WE.kZ rfl (WE.aA (WL.as rfl rfl (WL.as rfl rfl ?_)))))))
 refine WL.nil (WE.ret ⟨[_, _], _, .nil _, ⟨rfl, rfl, trivial⟩, ?_⟩)
 exact ⟨rfl, H.aL⟩
theorem aDR {X : Nat → Prop} {w : World} {bits : Int} {T : Tr} {k : List UInt8} (hX : c6 X w) (bT : aH X (cV bits T) w) (hk : k.length = 32) (hfit : T.er.fit 0) (wS : (T.fin k).er.kind = 1) (hkey : (T.fin k).key ≠ k) :
  bC prog 51 [T.ptr, .agg (kc k).toArray].toArray w fun v w' => v = .tuple [.slice none 0 0, .bool false].toArray ∧ Out Nil w w' := by
 refine bC.aI (N := 27) func51 rfl rfl (by simp) ?_
 have H := (St.begin hX).add (cE bT)
 have p3 : (T.fin k).key.length = 32 := cV.gY (cV.fin (bT.here))
 have LS := cV.QM (cV.fin (k := k) (bT.here))
 refine WE.aA ?_
 refine WL.box (l := kc k) H rfl rfl rfl ?_
 intro b3 w1 H
 refine WL.as rfl rfl (WL.as rfl rfl (WL.nil (WE.aA (WL.mv rfl rfl ?_))))
 refine WL.bE rfl c7 rfl rfl (aN.aF (H.l 0 rfl) (aK.all _) rfl) (cI cM (by simp only [aS, aY, aB]; omega)) ?_
 refine WL.call Z5 rfl (tV (T := T) (k := k) (bits := bits) H.aR (by exact H.bJ 0 rfl) (by assumption) (by assumption)) ?_
 rintro _ w2 ⟨rfl, hO⟩
 replace H := H.out hO
 refine WL.mv rfl rfl (WL.pv (PV.extract rfl rfl rfl) rfl (WL.pv (PV.extract rfl rfl rfl) rfl (WL.as rfl rfl (WL.as rfl rfl (WL.nil (WE.seq ?_))))))
 refine WE.bG (.take 0 (.aG 1 (.take 2 (.take 3 (.take 4 (.take 7 (.aG 5 (.take 6 (.take 8 (.take 9 .done)))))))))) mixed (by kernel_rfl) ?_
 replace H := H.out (Out.drew _)
 refine WP.mv rfl rfl rfl (WP.aG rfl ?_)
 refine WL.call mE rfl (e8 (T := T.fin k) (bits := bits) H.aR (by exact (H.bJ 0 rfl).imp fun _ h => h.fin) ) ?_
 rintro _ w3 ⟨rfl, hO⟩
 replace H := H.out hO
 refine WL.nil ⟨c8, ?_⟩
 refine WP.aC rfl rfl (PV.neq rfl rfl rfl) (WP.mv rfl rfl rfl ?_)
 refine WP.known (t := 17) (c := false) rfl (by simp [wS]) ?_
 refine WP.mv rfl rfl rfl ?_
 refine WP.dO rfl rfl rfl c7 rfl (aN.aF (H.l 0 rfl) (aK.all _) rfl) (cI cM (by simp only [aS, aY, aB]; omega)) ?_
 refine WP.aG rfl ?_
 refine WL.call F5 rfl (nH (T := T.fin k) (bits := bits) H.aR (by exact (H.bJ 0 rfl).imp fun _ h => h.fin) ) ?_
 rintro _ w4 ⟨rfl, hO⟩
 replace H := H.out hO
 refine WL.nil ⟨(fa (rk hO) c8), ?_⟩
 refine WP.aC rfl rfl (PV.lV rfl kK rfl (eG.agg c7 (cI cM (by simp only [aS, aY, aB]; omega)) (aK.l (aK.all _)))) ?_
 refine WP.aC rfl rfl (PV.NX rfl gW mM gO (by kernel_rfl) rfl rfl (by assumption) (by assumption)) (WP.aC rfl rfl (PV.cF rfl rfl rfl) (WP.done ?_))
 refine WE.cR rfl (by simp [hkey]) ?_
 refine WE.aA (WL.as rfl rfl (WL.as rfl rfl (WL.nil (WE.ret ⟨[_, _], _, .nil _, ⟨rfl, rfl, trivial⟩, ?_⟩))))
 exact ⟨rfl, H.aL⟩
theorem aDQ {X : Nat → Prop} {w : World} {bits : Int} {T : Tr} {k : List UInt8} (hX : c6 X w) (bT : aH X (cV bits T) w) (hk : k.length = 32) (hfit : T.er.fit 0) (wS : (T.fin k).er.kind = 1) (hkey : (T.fin k).key = k) :
  bC prog 51 [T.ptr, .agg (kc k).toArray].toArray w fun v w' => ∃ s, v = .tuple [s, .bool true].toArray ∧ Out Nil w w' ∧ w'.ownsRow w.heap.size 5 1 s (T.fin k).val.length (kc (T.fin k).val) := by
 refine bC.aI (N := 27) func51 rfl rfl (by simp) ?_
 have H := (St.begin hX).add (cE bT)
 have p3 : (T.fin k).key.length = 32 := cV.gY (cV.fin (bT.here))
 have LS := cV.QM (cV.fin (k := k) (bT.here))
 refine WE.aA ?_
 refine WL.box (l := kc k) H rfl rfl rfl ?_
 intro b3 w1 H
 refine WL.as rfl rfl (WL.as rfl rfl (WL.nil (WE.aA (WL.mv rfl rfl ?_))))
 refine WL.bE rfl c7 rfl rfl (aN.aF (H.l 0 rfl) (aK.all _) rfl) (cI cM (by simp only [aS, aY, aB]; omega)) ?_
 refine WL.call Z5 rfl (tV (T := T) (k := k) (bits := bits) H.aR (by exact H.bJ 0 rfl) (by assumption) (by assumption)) ?_
 rintro _ w2 ⟨rfl, hO⟩
 replace H := H.out hO
 refine WL.mv rfl rfl (WL.pv (PV.extract rfl rfl rfl) rfl (WL.pv (PV.extract rfl rfl rfl) rfl (WL.as rfl rfl (WL.as rfl rfl (WL.nil (WE.seq ?_))))))
 refine WE.bG (.take 0 (.aG 1 (.take 2 (.take 3 (.take 4 (.take 7 (.aG 5 (.take 6 (.take 8 (.take 9 .done)))))))))) mixed (by kernel_rfl) ?_
 replace H := H.out (Out.drew _)
 refine WP.mv rfl rfl rfl (WP.aG rfl ?_)
 refine WL.call mE rfl (e8 (T := T.fin k) (bits := bits) H.aR (by exact (H.bJ 0 rfl).imp fun _ h => h.fin) ) ?_
 rintro _ w3 ⟨rfl, hO⟩
 replace H := H.out hO
 refine WL.nil ⟨c8, ?_⟩
 refine WP.aC rfl rfl (PV.neq rfl rfl rfl) (WP.mv rfl rfl rfl ?_)
 refine WP.known (t := 17) (c := false) rfl (by simp [wS]) ?_
 refine WP.mv rfl rfl rfl ?_
 refine WP.dO rfl rfl rfl c7 rfl (aN.aF (H.l 0 rfl) (aK.all _) rfl) (cI cM (by simp only [aS, aY, aB]; omega)) ?_
 refine WP.aG rfl ?_
 refine WL.call F5 rfl (nH (T := T.fin k) (bits := bits) H.aR (by exact (H.bJ 0 rfl).imp fun _ h => h.fin) ) ?_
 rintro _ w4 ⟨rfl, hO⟩
 replace H := H.out hO
 refine WL.nil ⟨(fa (rk hO) c8), ?_⟩
 refine WP.aC rfl rfl (PV.lV rfl kK rfl (eG.agg c7 (cI cM (by simp only [aS, aY, aB]; omega)) (aK.l (aK.all _)))) ?_
 refine WP.aC rfl rfl (PV.NX rfl gW mM gO (by kernel_rfl) rfl rfl (by assumption) (by assumption)) (WP.aC rfl rfl (PV.cF rfl rfl rfl) (WP.done ?_))
 refine WE.bD rfl (by simp [hkey]) ?_
 refine WE.skip (WE.aA (WL.mv rfl rfl ?_))
 refine WL.call aC9 rfl (DV (T := T.fin k) (bits := bits) H.aR (by exact (H.bJ 0 rfl).imp fun _ h => h.fin)) ?_
 rintro _ w5 ⟨s4, rfl, hO, iE⟩
 replace H := H.push hO (aP.gZ w.heap.size s4 5 1 _ _) (gR iE H.size) (fun b hb => (iE.lt b hb).1)
 refine WL.pv (PV.lV rfl mD rfl (eG.one eH (aK.r (aK.all _) (by simp only [aS, aY, aB]; omega)))) rfl ?_
 refine WL.as rfl rfl (WL.as rfl rfl (WL.nil (WE.ret ⟨[_, _], _, .nil _, ⟨rfl, rfl, trivial⟩, ?_⟩)))
 exact ⟨s4, rfl, H.aL, H.l 0 rfl⟩
theorem aAG {X : Nat → Prop} {w : World} {bits : Int} {T : Tr} {k : List UInt8} (hX : c6 X w) (bT : aH X (cV bits T) w) (hk : k.length = 32) (hfit : T.er.fit 0) (hg : T.OG k = none) :
  bC prog 51 [T.ptr, .agg (kc k).toArray].toArray w fun v w' => v = .tuple [.slice none 0 0, .bool false].toArray ∧ Out Nil w w' := by
 by_cases h1 : (T.fin k).er.kind = 1
 ·
  refine aDR hX bT hk hfit h1 fun h2 => ?_
  obtain ⟨a, q, v, s, e⟩ := Tr.aBa h1
  unfold Tr.OG at hg
  rw [e] at hg h2
  exact absurd hg (by simp [show q = k from h2])
 ·
  exact aDS hX bT hk hfit h1
theorem WK {X : Nat → Prop} {w : World} {bits : Int} {T : Tr} {k v0 : List UInt8} (hX : c6 X w) (bT : aH X (cV bits T) w) (hk : k.length = 32) (hfit : T.er.fit 0) (hg : T.OG k = some v0) :
  bC prog 51 [T.ptr, .agg (kc k).toArray].toArray w fun v w' => ∃ s, v = .tuple [s, .bool true].toArray ∧ Out Nil w w' ∧ w'.ownsRow w.heap.size 5 1 s v0.length (kc v0) := by
 have h : (T.fin k).er.kind = 1 ∧ (T.fin k).key = k ∧ (T.fin k).val = v0 := by
  unfold Tr.OG at hg
  cases e : T.fin k with
  | nil => rw [e] at hg; cases hg
  | inner => rw [e] at hg; cases hg
  | leaf a q v s =>
   rw [e] at hg
   dsimp only at hg
   split at hg
   ·
    injection hg with hg; exact ⟨rfl, by assumption, hg⟩
   ·
    cases hg
 have := aDQ hX bT hk hfit h.1 h.2.1
 rw [h.2.2] at this
 exact this
theorem TX {T : Tr} {m : List En} {k : List UInt8} (hT : T.er = grow 0 m) (hp : Pm 0 m) : T.OG k = (getM m k).map (·.v) := by
 have h := GU (k := k) hT hp _ (Nat.le_refl _)
 have hl := J6 (k := k) hT hp
 rw [← L0 (k := k) (d := 0) (T.dp k 0)]
 have hf : (T.fin k).er = _ := h.1
 unfold Tr.OG
 match hm : GV k 0 m (T.dp k 0), hl with
 | [], _ =>
  rw [hm, eM] at hf
  rw [Tr.I4 hf]
  rfl
 | [e], _ =>
  rw [hm, dR] at hf
  obtain ⟨a, s, e2⟩ := Tr.tC hf
  rw [e2]
  by_cases hk : e.k = k
  ·
   simp [getM, hk]
  ·
   simp [getM, hk]
 | _ :: _ :: _, h => simp at h
theorem OH {m : List En} {k : List UInt8} {i : Nat} (hi : i < m.length) (h : ∀ x ∈ m.take i, x.k ≠ k) (he : m[i].k = k) : getM m k = some m[i] := by
 unfold getM
 rw [List.find?_eq_some_iff_append]
 refine ⟨by simp [he], m.take i, m.drop (i + 1), ?_, fun x hx => by simpa using h x hx⟩
 rw [← List.drop_eq_getElem_cons hi, List.take_append_drop]
theorem getM_none {m : List En} {k : List UInt8} (h : ∀ x ∈ m, x.k ≠ k) : getM m k = none := by
 unfold getM
 rw [List.find?_eq_none]
 intro x hx
 simpa using h x hx
def TY (m : List En) (k : List UInt8) : Value := match getM m k with
 | none => .tuple [.slice none 0 0, .bool false].toArray
 | some e => .tuple [e.s, .bool true].toArray
def MZ (a b : List En) : Prop := a.length = b.length ∧ ∀ i (h : i < a.length) (h' : i < b.length), a[i].k = b[i].k ∧ a[i].v = b[i].v
theorem RG {X : Nat → Prop} {w : World} {s : Value} {m : List En} {k : List UInt8} (hX : c6 X w) (bT : aH X (fF s m) w) (p3 : KL m) (hlen : m.length ≤ 1000000) (hk : k.length = 32) :
  bC prog 40 [s, .agg (kc k).toArray].toArray w fun v w' => v = TY m k ∧ Out Nil w w' := by
 refine bC.aI (N := 25) func40 rfl rfl (by simp) ?_
 have H := (St.begin hX).add (cE bT)
 refine WE.aA ?_
 refine WL.box (l := kc k) H rfl rfl rfl ?_
 intro b3 w1 H
 refine WL.as rfl rfl (WL.as rfl rfl (WL.nil (WE.seq (WE.aA (WL.as rfl rfl (WL.nil (WE.block ?_)))))))
 refine WE.loop (α := Nat) (rg [(4, 21)]) (fun i => [(6, .int .i64 i)]) (fun i wl => i ≤ m.length ∧ (∀ x ∈ m.take i, x.k ≠ k) ∧ St X w wl [] [aP.blk b3 24 (kc k)] [fF s m]) (fun i => m.length - i) 0 ⟨rfl, trivial⟩ ⟨Nat.zero_le _, by simp, H⟩ ?_
 intro i γ0 w2 hI
 try dsimp only at hI
 obtain ⟨hi, hall, H⟩ := hI
 refine WE.seq (WE.aA (WL.mv rfl rfl (WL.mv rfl rfl ?_)))
 refine WL.pv (PV.dS (by exact H.p 0 rfl : fF s m _) lR rfl) rfl ?_
 refine WL.pv (PV.lss rfl rfl rfl) rfl (WL.nil ?_)
 refine WE.cond rfl (fun kD => ?_) (fun kD => ?_)
 ·
  try simp only [bP] at kD
  have hlt : i < m.length := by omega
  have hkk := p3 _ (List.getElem_mem hlt)
  refine WE.skip (WE.seq (WE.block ?_))
  refine WE.bG (.take 0 (.take 1 (.take 2 (.take 3 (.take 4 (.take 5 (.take 6 .done))))))) mixed (by kernel_rfl) ?_
  replace H := H.out (Out.drew _)
  refine WP.mv rfl rfl rfl (WP.mv rfl rfl rfl ?_)
  refine WP.aC rfl rfl (PV.dX rfl (by exact H.p 0 rfl : fF s m _) lR fH rfl rfl (by omega) (by omega)) ?_
  refine WP.aC rfl rfl (PV.dF rfl gK rfl) ?_
  refine WP.dO rfl rfl rfl c7 rfl (fF.rdk (H.p 0 rfl) p3 i hlt) (cI cM (by simp only [aS, aY, aB]; omega)) ?_
  refine WP.dO rfl rfl rfl c7 rfl (aN.aF (H.l 0 rfl) (aK.all _) rfl) (cI cM (by simp only [aS, aY, aB]; omega)) ?_
  refine WP.aC rfl rfl (PV.DM rfl gW mM gO (by kernel_rfl) rfl rfl (by assumption) (by assumption)) (WP.done ?_)
  refine WE.cond rfl (fun kC => ?_) (fun kC => ?_)
  ·
   try simp only [bP] at kC
   have he : m[i].k = k := by exact kC
   refine WE.aA (WL.mv rfl rfl (WL.mv rfl rfl ?_))
   refine WL.pv (PV.dX rfl (by exact H.p 0 rfl : fF s m _) lR fH rfl rfl (by omega) (by omega)) rfl ?_
   refine WL.pv (PV.dF rfl mD rfl) rfl (WL.aX rfl eH rfl rfl (fF.rdv (H.p 0 rfl) p3 i hlt) (WL.as rfl rfl (WL.as rfl rfl (WL.nil (WE.ret ⟨[_, _], _, .nil _, ⟨rfl, rfl, trivial⟩, ?_⟩)))))
   refine ⟨?_, H.aL⟩
   rw [TY, OH hlt hall he]; rfl
  ·
   try simp only [bP] at kC
   have he : m[i].k ≠ k := by exact kC
   refine WE.skip (WE.dW (WL.mv rfl rfl (WL.pv (PV.bV rfl rfl rfl (by omega) (by omega)) rfl (WL.as rfl rfl (WL.nil ?_)))))
   exact ⟨i + 1, (by repeat (first | with_reducible exact bK.refl _ _ | refine bK.dG rfl ?_ | refine bK.bZ rfl ?_ | refine bK.bX rfl ?_)), ⟨rfl, trivial⟩, rfl, ⟨by omega, (by rw [List.take_succ_eq_append_getElem hlt]; intro x hx; rcases List.mem_append.1 hx with h | h; exact hall x h; simp at h; subst h; exact he), H⟩, (by omega)⟩
 ·
  try simp only [bP] at kD
  have W7 : m.take i = m := List.take_of_length_le (by omega)
  refine WE.exit (WE.aA (WL.as rfl rfl (WL.as rfl rfl (WL.nil (WE.ret ⟨[_, _], _, .nil _, ⟨rfl, rfl, trivial⟩, ?_⟩)))))
  refine ⟨?_, H.aL⟩
  rw [W7] at hall
  rw [TY, getM_none hall]; rfl
theorem IL {X : Nat → Prop} {w : World} {a b : Value} {la lb : List En} (hX : c6 X w) (bT : aH X (fF a la) w) (dJ : aH X (eC la) w) (fQ : aH X (fF b lb) w) (jW : aH X (eC lb) w) (hka : KL la) (hkb : KL lb) (hlen : la.length ≤ 1000000) (hva : ∀ e ∈ la, e.v.length ≤ 1000000) (hs : MZ la lb) :
  bC prog 58 [a, b].toArray w fun v w' => v = .bool true ∧ Out Nil w w' := by
 refine bC.aI (N := 42) func58 rfl rfl (by simp) ?_
 have H := ((((St.begin hX).add (cE jW)).add (cE fQ)).add (cE dJ)).add (cE bT)
 have aFj : lb.length = la.length := hs.1.symm
 refine WE.aA (WL.as rfl rfl (WL.nil (WE.seq (WE.aA (WL.mv rfl rfl ?_)))))
 refine WL.pv (PV.dS (by exact H.p 0 rfl : fF a la _) lR rfl) rfl ?_
 refine WL.mv rfl rfl ?_
 refine WL.pv (PV.dS (by exact H.p 2 rfl : fF b lb _) lR rfl) rfl ?_
 refine WL.pv (PV.neq rfl rfl rfl) rfl (WL.nil ?_)
 refine WE.bD rfl (by simp [aFj]) ?_
 refine WE.skip (WE.seq (WE.aA (WL.as rfl rfl (WL.nil (WE.block ?_)))))
 refine WE.loop (α := Nat) (rg [(4, 2), (11, 31)]) (fun i => [(5, .int .i64 i)]) (fun i wl => i ≤ la.length ∧ St X w wl [] [] [fF a la, eC la, fF b lb, eC lb]) (fun i => la.length - i) 0 ⟨rfl, trivial⟩ ⟨Nat.zero_le _, H⟩ ?_
 intro i γ0 w1 hI
 try dsimp only at hI
 obtain ⟨hi, H⟩ := hI
 refine WE.seq (WE.aA (WL.mv rfl rfl (WL.mv rfl rfl ?_)))
 refine WL.pv (PV.dS (by exact H.p 0 rfl : fF a la _) lR rfl) rfl ?_
 refine WL.pv (PV.lss rfl rfl rfl) rfl (WL.nil ?_)
 refine WE.cond rfl (fun pG => ?_) (fun pG => ?_)
 ·
  try simp only [bP] at pG
  have hlt : i < la.length := by omega
  have qG : i < lb.length := by omega
  have hii := hs.2 i hlt qG
  have hvi := hva _ (List.getElem_mem hlt)
  have aLH := hka _ (List.getElem_mem hlt)
  have aLG := hkb _ (List.getElem_mem qG)
  refine WE.skip (WE.seq (WE.block ?_))
  refine WE.bG (.take 0 (.take 1 (.take 2 (.take 3 (.take 4 (.take 5 (.take 6 (.take 7 (.take 8 (.take 9 (.take 10 (.take 11 (.take 12 (.take 13 (.take 14 (.take 15 (.take 16 (.take 17 (.take 18 (.take 19 (.take 20 (.take 21 (.aG 22 (.take 23 (.take 24 .done))))))))))))))))))))))))) mixed (by kernel_rfl) ?_
  replace H := H.out (Out.drew _)
  refine WP.mv rfl rfl rfl (WP.mv rfl rfl rfl ?_)
  refine WP.aC rfl rfl (PV.dX rfl (by exact H.p 0 rfl : fF a la _) lR fH rfl rfl (by omega) (by omega)) ?_
  refine WP.aC rfl rfl (PV.dF rfl gK rfl) ?_
  refine WP.dO rfl rfl rfl c7 rfl (fF.rdk (H.p 0 rfl) hka i hlt) (cI cM (by simp only [aS, aY, aB]; omega)) ?_
  refine WP.mv rfl rfl rfl (WP.mv rfl rfl rfl ?_)
  refine WP.aC rfl rfl (PV.dX rfl (by exact H.p 2 rfl : fF b lb _) lR fH rfl rfl (by omega) (by omega)) ?_
  refine WP.aC rfl rfl (PV.dF rfl gK rfl) ?_
  refine WP.dO rfl rfl rfl c7 rfl (fF.rdk (H.p 2 rfl) hkb i qG) (cI cM (by simp only [aS, aY, aB]; omega)) ?_
  refine WP.aC rfl rfl (PV.NX rfl gW mM gO (by kernel_rfl) rfl rfl (by assumption) (by assumption)) (WP.mv rfl rfl rfl ?_)
  refine WP.known (t := 28) (c := false) rfl (by simp [hii.1]) ?_
  refine WP.mv rfl rfl rfl (WP.mv rfl rfl rfl ?_)
  refine WP.aC rfl rfl (PV.dX rfl (by exact H.p 0 rfl : fF a la _) lR fH rfl rfl (by omega) (by omega)) ?_
  refine WP.aC rfl rfl (PV.dF rfl mD rfl) (WP.aM rfl rfl (RV.aV rfl eH rfl) (fF.rdv (H.p 0 rfl) hka i hlt) (WP.mv rfl rfl rfl (WP.mv rfl rfl rfl ?_)))
  refine WP.aC rfl rfl (PV.dX rfl (by exact H.p 2 rfl : fF b lb _) lR fH rfl rfl (by omega) (by omega)) ?_
  refine WP.aC rfl rfl (PV.dF rfl mD rfl) (WP.aM rfl rfl (RV.aV rfl eH rfl) (fF.rdv (H.p 2 rfl) hkb i qG) (WP.aG rfl ?_))
  refine WL.call aDd rfl (KF (la := la[i].v) (lb := lb[i].v) H.aR ((H.bJ 1 rfl).imp fun _ h => h _ (List.getElem_mem hlt)) ((H.bJ 3 rfl).imp fun _ h => h _ (List.getElem_mem qG)) (by omega)) ?_
  rintro _ w2 ⟨rfl, hO⟩
  replace H := H.out hO
  refine WL.nil ⟨(fa (nw 22 21) (fa (nw 22 16) (fa (nw 22 9) (fa (nw 22 4) c8)))), ?_⟩
  refine WP.aC rfl rfl (PV.not rfl rfl) (WP.aC rfl rfl (PV.cF rfl rfl rfl) (WP.done ?_))
  refine WE.bD rfl (by simp [hii.2]) ?_
  refine WE.skip (WE.dW (WL.mv rfl rfl (WL.pv (PV.bV rfl rfl rfl (by omega) (by omega)) rfl (WL.as rfl rfl (WL.nil ?_)))))
  exact ⟨i + 1, (by repeat (first | with_reducible exact bK.refl _ _ | refine bK.dG rfl ?_ | refine bK.bZ rfl ?_ | refine bK.bX rfl ?_)), ⟨rfl, trivial⟩, rfl, ⟨by omega, H⟩, (by omega)⟩
 ·
  try simp only [bP] at pG
  refine WE.exit (WE.aA (WL.as rfl rfl (WL.nil (WE.ret ⟨[_], _, .nil _, ⟨rfl, trivial⟩, ?_⟩))))
  refine ⟨?_, H.aL⟩
  rfl
def o4 (T : Tr) (k : List UInt8) (n : Nat) : List Value := (List.range n).map fun j => ((T.jA k 0 j).beside k j).ptr
theorem p7 (T : Tr) (k : List UInt8) (n : Nat) : (o4 T k n).length = n := by simp [o4]
theorem NL (T : Tr) (k : List UInt8) (n : Nat) : o4 T k (n + 1) = o4 T k n ++ [((T.jA k 0 n).beside k n).ptr] := by simp [o4, List.range_succ]
theorem QZ (T : Tr) (k : List UInt8) (n i : Nat) (h : i < (o4 T k n).length) : (o4 T k n)[i] = ((T.jA k 0 i).beside k i).ptr := by simp [o4]
theorem KE {X : Nat → Prop} {w : World} {bits : Int} {T : Tr} {k : List UInt8} (hX : c6 X w) (bT : aH X (cV bits T) w) (hk : k.length = 32) (hfit : T.er.fit 0) :
  bC prog 33 [T.ptr, .agg (kc k).toArray].toArray w fun v w' => Out Nil w w' ∧ aH X (kN v (o4 T k (T.dp k 0))) w' := by
 refine bC.aI (N := 26) func33 rfl rfl (by simp) ?_
 have H := (St.begin hX).add (cE bT)
 have D0 := Tr.yX (k := k) _ 0 T rfl hfit (by omega)
 refine WE.aA ?_
 refine WL.box (l := kc k) H rfl rfl rfl ?_
 intro b3 w1 H
 refine WL.as rfl rfl (WL.nil (WE.aA ?_))
 refine WL.alloc H rfl aDZ rfl ?_
 intro b5 w2 H
 replace H := H.kU 39 1
 refine WL.nil (WE.seq (WE.aA (WL.mv rfl rfl ?_)))
 refine WL.bE rfl c7 rfl rfl (aN.aF (H.l 2 rfl) (aK.all _) rfl) (cI cM (by simp only [aS, aY, aB]; omega)) ?_
 refine WL.call aGi rfl (aAU (T := T) (k := k) H.aR  (by assumption)) ?_
 rintro _ w3 ⟨U4, U5, rfl, hO, hge, r6, hR⟩
 replace H := H.RK hO (aP.set (· = U4)) (fun c hc => by cases hc; exact r6.lt) (fun c hc => by cases hc; exact hge) hR
 refine WL.nil (WE.block ?_)
 refine WE.xS (α := Value) (fun i q => True) (fun i q => []) (fun i q => [aP.gZ w.heap.size q 39 1 (min i (T.dp k 0)) (o4 T k (min i (T.dp k 0))), aP.blk b5 86 [q], aP.blk b3 24 (kc k)]) (fun i q => [fun w => dD w ⟨U5, 0, none⟩ (kc k), cV bits T]) (fun _ _ => False) (fun _ _ => []) (fun _ _ => []) (fun _ _ => []) (.slice none 0 0) H rfl aBF (fun W0 hO => EC (T := T) (k := k) (bits := bits) (H.U2 hO) (r6.of_eq (hO.block _ r6.lt id)) (H.aBL rfl) (H.GK hO 0 rfl) (H.GK hO 1 rfl) hk hfit) (by intro _ _ _ h; rw [h]; rfl) ⟨trivial, rfl, by rw [Nat.zero_min]; rfl, rfl⟩ ?_ ?_ ?_
 ·
  intro i q xs_ l_ d_ o_ T_ sc_ w4 jM tK OE
  obtain rfl := OE
  refine WE.aA (WL.as rfl rfl (WL.nil (WE.dW (WL.as rfl rfl (WL.nil ?_)))))
  refine ⟨rfl, rfl, rfl, ?_⟩
  intro w5 H
  refine WE.block (WE.aA (WL.mv rfl rfl ?_))
  refine WL.call mE rfl (e8 (T := T.jA k 0 i) (bits := bits) H.aR (by exact (H.bJ 2 rfl).imp fun _ h => h.jA i)) ?_
  rintro _ w6 ⟨rfl, hO⟩
  replace H := H.out hO
  refine WL.pv (PV.eql rfl rfl rfl) rfl (WL.nil ?_)
  refine WE.cond rfl (fun DB => ?_) (fun DB => ?_)
  ·
   try simp only [bP] at DB
   have hlt : i < T.dp k 0 := by rcases Nat.lt_or_ge i (T.dp k 0) with h | h; exact h; exact absurd (show (T.jA k 0 i).er.kind = 2 by exact DB) (by rw [show i = T.dp k 0 by omega]; exact Tr.q5 _ 0 T rfl)
   have hb2 := eA k i
   have hmi : min i (T.dp k 0) = i := by omega
   rw [hmi] at H
   refine WE.draw (.take 0 (.take 1 (.take 2 (.take 3 (.aG 4 (.take 5 (.aG 6 (.aG 7 (.aG 8 (.aG 9 .done)))))))))) mixed (by kernel_rfl) ?_
   replace H := H.out (Out.drew _)
   refine WP.aM rfl rfl (RV.aV rfl PC rfl) (aN.aF (H.l 1 rfl) (aK.all _) rfl) (WP.mv rfl rfl rfl ?_)
   refine WP.dO rfl rfl rfl c7 rfl (aN.aF (H.l 2 rfl) (aK.all _) rfl) (cI cM (by simp only [aS, aY, aB]; omega)) ?_
   refine WP.mv rfl rfl rfl (WP.aG rfl ?_)
   refine WL.call F4 rfl (j7 (k := k) (d := i) H.aR  (by assumption) (by omega)) ?_
   rintro _ w7 ⟨rfl, hO⟩
   replace H := H.out hO
   refine WL.nil ⟨(fa (nw 4 2) (fa (rk hO) c8)), ?_⟩
   refine WP.aC rfl rfl (PV.eq (v' := .int .i64 ((1 - bI k i : Nat) : Int)) (PV.gE rfl rfl rfl (by omega) (by omega)) (by congr 1; omega)) ?_
   refine WP.aG rfl ?_
   refine WL.call OL rfl (q6 (T := T.jA k 0 i) (bits := bits) (b := 1 - bI k i) H.aR (by exact (H.bJ 2 rfl).imp fun _ h => h.jA i)) ?_
   rintro _ w8 ⟨rfl, hO⟩
   replace H := H.out hO
   refine WL.nil ⟨(fa (nw 6 2) (fa (rk hO) c8)), ?_⟩
   refine WP.aG rfl ?_
   refine WL.bA (l0 := [.pointer none]) H rfl XW (by decide) (cW _ _) (Fl.cons rfl rfl (by simp only [aS, aY, aB]) Laid.head Fl.nil) rfl ?_
   intro b23 w9 H
   refine WL.nil ⟨(fa (nw 7 2) (fa (fun _ _ => (aN.aF (H.l 2 rfl) (aK.all _) rfl)) c8)), ?_⟩
   refine WP.aG rfl ?_
   refine WL.append (m := 1) H 1 XW (by decide) rfl rfl rfl (cO.cA (n := 1) (H.l 0 rfl) rfl) (bB _ rfl) (by omega) (by decide) rfl ?_
   intro v24 tX H
   replace H := H.forget 0
   refine WL.nil ⟨(fa (nw 8 2) (fa (nw 8 0) c8)), ?_⟩
   refine WP.aG rfl ?_
   refine WL.aW H 1 rfl rfl rfl (new := [v24]) (cells_one (jI (H.l 0 rfl))) (by exact aEi) (eF (jI (H.l 0 rfl))) (Laid.at (Laid.all (by simp only [aS, aY, aB])) rfl) rfl ?_
   intro xG H
   refine WL.nil ⟨(fa (nw 9 2) (fa (nw 9 0) c8)), ?_⟩
   refine WP.done ?_
   replace H := H.conv (L' := [aP.gZ w.heap.size v24 39 1 (min (i + 1) (T.dp k 0)) (o4 T k (min (i + 1) (T.dp k 0))), aP.blk b5 86 [v24], aP.blk b3 24 (kc k), aP.obj l_ o_, aP.obj d_ (.deferred (some [])), aP.sn T_ w5]) (by rw [show min (i + 1) (T.dp k 0) = i + 1 by omega, NL]; rfl)
   replace H := H.drop (fun p hp => List.mem_cons_of_mem _ hp)
   exact ⟨_, trivial, H⟩
  ·
   try simp only [bP] at DB
   have aFq : T.dp k 0 ≤ i := by rcases Nat.lt_or_ge i (T.dp k 0) with h | h; exact absurd (Tr.sH (k := k) i 0 T h) (by exact DB); exact h
   refine WE.skip ?_
   replace H := H.conv (L' := [aP.gZ w.heap.size q 39 1 (min (i + 1) (T.dp k 0)) (o4 T k (min (i + 1) (T.dp k 0))), aP.blk b5 86 [q], aP.blk b3 24 (kc k), aP.obj l_ o_, aP.obj d_ (.deferred (some [])), aP.sn T_ w5]) (by rw [show min (i + 1) (T.dp k 0) = min i (T.dp k 0) by omega]; rfl)
   replace H := H.drop (fun p hp => List.mem_cons_of_mem _ hp)
   exact ⟨_, trivial, H⟩
 ·
  intro q US HL tK H
  refine WE.aA (WL.aX rfl PC rfl rfl (aN.aF (H.l 2 rfl) (aK.all _) rfl) (WL.as rfl rfl (WL.nil (WE.ret ?_))))
  (obtain ⟨DW, uT, H⟩ := H.uE 0 rfl)
  refine ⟨[_], _, (uT _ (.nil _)), ⟨rfl, trivial⟩, ?_⟩
  have hmd : min (T.dp k 0 + 1) (T.dp k 0) = T.dp k 0 := by omega
  rw [hmd] at H
  replace H := H.freeze (i := 0) rfl
  exact ⟨H.aL, H.fX ((H.bJ 0 rfl).imp fun _ h => by show cO _ q 1 (o4 T k (T.dp k 0)).length _; rw [p7]; exact cO.dM h)⟩
 ·
  intro e_ q US H9 P0 tK H
  exact tK.elim
def aAb (a b : List UInt8) : Nat → Nat → Nat
 | 0, i => i
 | f + 1, i => if bI a i = bI b i then aAb a b f (i + 1) else i
def fR (a b : List UInt8) : Nat := aAb a b 256 0
structure B6 (a b : List UInt8) (c : Nat) : Prop where
 le : c ≤ 256
 eq : ∀ i, i < c → bI a i = bI b i
 ne : c < 256 → bI a c ≠ bI b c
theorem aAa (a b : List UInt8) : ∀ (f i : Nat), f + i = 256 → (∀ j, j < i → bI a j = bI b j) → B6 a b (aAb a b f i) := by
 intro f
 induction f with
 | zero => intro i h he; exact ⟨by show i ≤ 256; omega, he, fun hl => absurd hl (by show ¬ i < 256; omega)⟩
 | succ f ih =>
  intro i h he
  unfold aAb
  by_cases hb : bI a i = bI b i
  ·
   rw [if_pos hb]
   refine ih (i + 1) (by omega) fun j hj => ?_
   by_cases e : j = i
   ·
    subst e; exact hb
   ·
    exact he j (by omega)
  ·
   rw [if_neg hb]
   exact ⟨by omega, he, fun _ => hb⟩
theorem qZ (a b : List UInt8) : B6 a b (fR a b) := aAa a b 256 0 rfl fun _ h => by omega
theorem B6.uniq {a b : List UInt8} {c d : Nat} (h : B6 a b c) (g : B6 a b d) : c = d := by
 have h1 := h.le
 have h2 := g.le
 rcases Nat.lt_trichotomy c d with hl | hl | hl
 ·
  exact absurd (g.eq c hl) (h.ne (by omega))
 ·
  exact hl
 ·
  exact absurd (h.eq d hl) (g.ne (by omega))
theorem MH (a b : List UInt8) : fR a b ≤ 256 := (qZ a b).le
theorem BU {a b : List UInt8} {c : Nat} (hc : c < 256) : c + 1 ≤ fR a b ↔ c ≤ fR a b ∧ bI a c = bI b c := by
 have h := qZ a b
 constructor
 ·
  intro hl; exact ⟨by omega, h.eq c (by omega)⟩
 ·
  rintro ⟨h1, h2⟩
  rcases Nat.lt_or_ge c (fR a b) with hl | hl
  ·
   exact hl
  ·
   have e : fR a b = c := by omega
   exact absurd (e ▸ h2 : bI a (fR a b) = bI b (fR a b)) (h.ne (by omega))
theorem CJ {a b : List UInt8} (ha : a.length = 32) (hb : b.length = 32) : ∀ d, d ≤ 256 → (pre d a = pre d b ↔ d ≤ fR a b) := by
 intro d
 induction d with
 | zero => intro _; rw [n5 a ha, n5 b hb]; simp
 | succ d ih =>
  intro hd
  have h1 := eA a d
  have h2 := eA b d
  rw [lI a ha d (by omega), lI b hb d (by omega), BU (by omega), ← ih (by omega)]
  constructor
  ·
   intro h; omega
  ·
   rintro ⟨h3, h4⟩; rw [h3, h4]
theorem oK {a b : List UInt8} (ha : a.length = 32) (hb : b.length = 32) : 256 ≤ fR a b ↔ a = b := by
 rw [← CJ ha hb 256 (by omega), qD, qD]
 exact ⟨s9 a b (by rw [ha, hb]), fun h => by rw [h]⟩
def len8 (n : Nat) : Nat := if n = 0 then 0 else Nat.log2 n + 1
theorem R8 : ∀ x : Fin 256, (⟨#[0, 1, 2, 2, 3, 3, 3, 3, 4, 4, 4, 4, 4, 4, 4, 4, 5, 5, 5, 5, 5, 5, 5, 5, 5, 5, 5, 5, 5, 5, 5, 5, 6, 6, 6, 6, 6, 6, 6, 6, 6, 6, 6, 6, 6, 6, 6, 6, 6, 6, 6, 6, 6, 6, 6, 6, 6, 6, 6, 6, 6, 6, 6, 6, 7, 7, 7, 7, 7, 7, 7, 7, 7, 7, 7, 7, 7, 7, 7, 7, 7, 7, 7, 7, 7, 7, 7, 7, 7, 7, 7, 7, 7, 7, 7, 7, 7, 7, 7, 7, 7, 7, 7, 7, 7, 7, 7, 7, 7, 7, 7, 7, 7, 7, 7, 7, 7, 7, 7, 7, 7, 7, 7, 7, 7, 7, 7, 7, 8, 8, 8, 8, 8, 8, 8, 8, 8, 8, 8, 8, 8, 8, 8, 8, 8, 8, 8, 8, 8, 8, 8, 8, 8, 8, 8, 8, 8, 8, 8, 8, 8, 8, 8, 8, 8, 8, 8, 8, 8, 8, 8, 8, 8, 8, 8, 8, 8, 8, 8, 8, 8, 8, 8, 8, 8, 8, 8, 8, 8, 8, 8, 8, 8, 8, 8, 8, 8, 8, 8, 8, 8, 8, 8, 8, 8, 8, 8, 8, 8, 8, 8, 8, 8, 8, 8, 8, 8, 8, 8, 8, 8, 8, 8, 8, 8, 8, 8, 8, 8, 8, 8, 8, 8, 8, 8, 8, 8, 8, 8, 8, 8, 8, 8, 8, 8, 8, 8, 8, 8, 8, 8, 8, 8, 8, 8, 8]⟩ : ByteArray)[x.val]? = some (UInt8.ofNat (len8 x.val)) := by decide +kernel
theorem R9 (x : UInt8) : (⟨#[0, 1, 2, 2, 3, 3, 3, 3, 4, 4, 4, 4, 4, 4, 4, 4, 5, 5, 5, 5, 5, 5, 5, 5, 5, 5, 5, 5, 5, 5, 5, 5, 6, 6, 6, 6, 6, 6, 6, 6, 6, 6, 6, 6, 6, 6, 6, 6, 6, 6, 6, 6, 6, 6, 6, 6, 6, 6, 6, 6, 6, 6, 6, 6, 7, 7, 7, 7, 7, 7, 7, 7, 7, 7, 7, 7, 7, 7, 7, 7, 7, 7, 7, 7, 7, 7, 7, 7, 7, 7, 7, 7, 7, 7, 7, 7, 7, 7, 7, 7, 7, 7, 7, 7, 7, 7, 7, 7, 7, 7, 7, 7, 7, 7, 7, 7, 7, 7, 7, 7, 7, 7, 7, 7, 7, 7, 7, 7, 8, 8, 8, 8, 8, 8, 8, 8, 8, 8, 8, 8, 8, 8, 8, 8, 8, 8, 8, 8, 8, 8, 8, 8, 8, 8, 8, 8, 8, 8, 8, 8, 8, 8, 8, 8, 8, 8, 8, 8, 8, 8, 8, 8, 8, 8, 8, 8, 8, 8, 8, 8, 8, 8, 8, 8, 8, 8, 8, 8, 8, 8, 8, 8, 8, 8, 8, 8, 8, 8, 8, 8, 8, 8, 8, 8, 8, 8, 8, 8, 8, 8, 8, 8, 8, 8, 8, 8, 8, 8, 8, 8, 8, 8, 8, 8, 8, 8, 8, 8, 8, 8, 8, 8, 8, 8, 8, 8, 8, 8, 8, 8, 8, 8, 8, 8, 8, 8, 8, 8, 8, 8, 8, 8, 8, 8, 8, 8]⟩ : ByteArray)[x.toNat]? = some (UInt8.ofNat (len8 x.toNat)) := R8 ⟨x.toNat, x.toNat_lt⟩
theorem A9 : ∀ x : Fin 256, len8 x.val ≤ 8 ∧ (x.val ≠ 0 → 1 ≤ len8 x.val ∧ x.val.testBit (len8 x.val - 1) = true ∧ ∀ j : Fin 8, len8 x.val ≤ j.val → x.val.testBit j.val = false) := by decide +kernel
theorem CT (x : UInt8) : len8 x.toNat ≤ 8 := (A9 ⟨x.toNat, x.toNat_lt⟩).1
theorem q3 (k : List UInt8) (i : Nat) : bI k i = ((k.getD (i / 8) 0).toNat.testBit (7 - i % 8)).toNat := by
 unfold bI
 rw [Nat.toNat_testBit]
theorem UW {a b : List UInt8} (ha : a.length = 32) (hb : b.length = 32) {i : Nat} (hi : i < 32) (he : ∀ j (h : j < i), a.getD j 0 = b.getD j 0) (hx : (a.getD i 0 ^^^ b.getD i 0).toNat ≠ 0) :
  B6 a b (8 * i + (8 - len8 (a.getD i 0 ^^^ b.getD i 0).toNat)) := by
 have h1 := (A9 ⟨(a.getD i 0 ^^^ b.getD i 0).toNat, UInt8.toNat_lt _⟩)
 have h2 := h1.2 hx
 dsimp only at h1 h2
 generalize hL : len8 (a.getD i 0 ^^^ b.getD i 0).toNat = L at *
 refine ⟨by omega, fun j hj => ?_, fun _ => ?_⟩
 ·
  rw [q3, q3]
  rcases Nat.lt_or_ge j (8 * i) with h | h
  ·
   rw [he (j / 8) (by omega)]
  ·
   have e : j / 8 = i := by omega
   have h3 := h2.2.2 ⟨7 - j % 8, by omega⟩ (by dsimp only; omega)
   rw [UInt8.toNat_xor, Nat.testBit_xor] at h3
   rw [e]
   congr 1
   dsimp only at h3
   revert h3
   cases (a.getD i 0).toNat.testBit (7 - j % 8) <;> cases (b.getD i 0).toNat.testBit (7 - j % 8) <;> simp
 ·
  rw [q3, q3, show (8 * i + (8 - L)) / 8 = i by omega, show 7 - (8 * i + (8 - L)) % 8 = L - 1 by omega]
  have h3 := h2.2.1
  rw [UInt8.toNat_xor, Nat.testBit_xor] at h3
  revert h3
  cases (a.getD i 0).toNat.testBit (L - 1) <;> cases (b.getD i 0).toNat.testBit (L - 1) <;> simp
theorem aEb (a b : UInt8) : IntKind.u8.wrap ((BitVec.ofInt IntKind.u8.bits (a.toNat : Int) ^^^ BitVec.ofInt IntKind.u8.bits (b.toNat : Int)).toNat : Int) = ((a ^^^ b).toNat : Int) := by
 rw [KX]
 have e : (BitVec.ofInt IntKind.u8.bits (a.toNat : Int) ^^^ BitVec.ofInt IntKind.u8.bits (b.toNat : Int)).toNat = (a ^^^ b).toNat := by
  show (BitVec.ofInt 8 (a.toNat : Int) ^^^ BitVec.ofInt 8 (b.toNat : Int)).toNat = _
  rw [BitVec.ofInt_natCast, BitVec.ofInt_natCast, BitVec.toNat_xor, UInt8.toNat_xor]
  have h1 := a.toNat_lt
  have h2 := b.toNat_lt
  simp
 rw [e]
 have := (a ^^^ b).toNat_lt
 omega
theorem bytes_eq {a b : List UInt8} (ha : a.length = 32) (hb : b.length = 32) (he : ∀ j, j < 32 → a.getD j 0 = b.getD j 0) : a = b := by
 apply List.ext_getElem (by omega)
 intro i h1 h2
 have := he i (by omega)
 rwa [fD h1, fD h2] at this
theorem aDM {X : Nat → Prop} {w : World} {x : UInt8} (hX : c6 X w) :
  bC prog 206 [.int .u8 (x.toNat : Int)].toArray w fun v w' => v = .int .i64 (len8 x.toNat : Int) ∧ Out Nil w w' := by
 refine bC.aI (N := 6) func206 rfl rfl (by simp) ?_
 have H := St.begin hX
 have hle := CT x
 refine WE.aA (WL.as rfl rfl (WL.nil (WE.aA (WL.mv rfl rfl (WL.pv (PV.FE (i := x.toNat) rfl (by kernel_rfl) rfl rfl (R9 x)) rfl ?_)))))
 refine WL.pv (PV.eq (v' := .int .i64 ((len8 x.toNat : Nat) : Int)) (PV.lX rfl mM tE rfl (by omega) (by have := (UInt8.ofNat (len8 x.toNat)).toNat_lt; omega)) (by congr 1; rw [UInt8.toNat_ofNat_of_lt' (by show _ < 256; omega)])) rfl ?_
 refine WL.as rfl rfl (WL.nil (WE.ret ⟨[_], _, .nil _, ⟨rfl, trivial⟩, ?_⟩))
 exact ⟨rfl, H.aL⟩
theorem aIl {X : Nat → Prop} {w : World} {x : UInt8} (hX : c6 X w) :
  bC prog 195 [.int .u8 (x.toNat : Int)].toArray w fun v w' => v = .int .i64 ((8 - len8 x.toNat : Nat) : Int) ∧ Out Nil w w' := by
 refine bC.aI (N := 6) func195 rfl rfl (by simp) ?_
 have H := St.begin hX
 have hle := CT x
 refine WE.aA (WL.as rfl rfl (WL.nil (WE.aA (WL.mv rfl rfl ?_))))
 refine WL.call aGF rfl (aDM (x := x) H.aR  ) ?_
 rintro _ w1 ⟨rfl, hO⟩
 replace H := H.out hO
 refine WL.pv (PV.gE rfl rfl rfl (by omega) (by omega)) rfl (WL.as rfl rfl (WL.nil (WE.ret ⟨[_], _, .nil _, ⟨rfl, trivial⟩, ?_⟩)))
 refine ⟨?_, H.aL⟩
 show Value.int .i64 _ = Value.int .i64 _
 congr 1; omega
theorem zN {X : Nat → Prop} {w : World} {a b : List UInt8} (hX : c6 X w) (ha : a.length = 32) (hb : b.length = 32) :
  bC prog 164 [.agg (kc a).toArray, .agg (kc b).toArray].toArray w fun v w' => v = .int .i64 (fR a b : Int) ∧ Out Nil w w' := by
 refine bC.aI (N := 28) func164 rfl rfl (by simp) ?_
 have H := St.begin hX
 refine WE.aA ?_
 refine WL.box (l := kc a) H rfl rfl rfl ?_
 intro b2 w1 H
 refine WL.box (l := kc b) H rfl rfl rfl ?_
 intro b3 w2 H
 refine WL.as rfl rfl (WL.nil (WE.seq (WE.aA ?_)))
 refine WL.bE rfl c7 rfl rfl (aN.aF (H.l 1 rfl) (aK.all _) rfl) (cI cM (by simp only [aS, aY, aB]; omega)) ?_
 refine WL.bE rfl c7 rfl rfl (aN.aF (H.l 0 rfl) (aK.all _) rfl) (cI cM (by simp only [aS, aY, aB]; omega)) ?_
 refine WL.pv (PV.DM rfl gW mM gO (by kernel_rfl) rfl rfl (by assumption) (by assumption)) rfl (WL.nil ?_)
 refine WE.cond rfl (fun uV => ?_) (fun uV => ?_)
 ·
  try simp only [bP] at uV
  have hab : a = b := by exact uV
  refine WE.aA (WL.as rfl rfl (WL.nil (WE.ret ⟨[_], _, .nil _, ⟨rfl, trivial⟩, ?_⟩)))
  refine ⟨?_, H.aL⟩
  show Value.int .i64 _ = Value.int .i64 _
  have := (oK ha hb).2 hab
  have := MH a b
  congr 1; omega
 ·
  try simp only [bP] at uV
  have hab : a ≠ b := by exact uV
  refine WE.skip (WE.seq (WE.aA (WL.mv rfl rfl (WL.nil (WE.block ?_)))))
  refine WE.loop (α := Nat) (rg [(4, 3), (10, 18)]) (fun i => [(10, .int .i64 i)]) (fun i wl => i ≤ 32 ∧ (∀ j, j < i → a.getD j 0 = b.getD j 0) ∧ St X w wl [] [aP.blk b3 24 (kc b), aP.blk b2 24 (kc a)] []) (fun i => 32 - i) 0 ⟨rfl, trivial⟩ ⟨Nat.zero_le _, fun _ h => by omega, H⟩ ?_
  intro i γ0 w3 hI
  try dsimp only at hI
  obtain ⟨hle, hall, H⟩ := hI
  refine WE.aA (WL.pv (PV.lss rfl rfl rfl) rfl (WL.nil (WE.seq ?_)))
  refine WE.cond rfl (fun j3 => ?_) (fun j3 => ?_)
  ·
   try simp only [bP] at j3
   have hlt : i < 32 := by omega
   refine WE.skip (WE.seq (WE.block (WE.aA (WL.mv rfl rfl (WL.as rfl rfl (WL.nil ?_))))))
   refine WE.bG (.take 0 (.take 1 (.take 2 (.take 3 (.take 4 (.take 5 (.take 6 (.take 7 .done)))))))) mixed (by kernel_rfl) ?_
   replace H := H.out (Out.drew _)
   refine WP.mv rfl rfl rfl (WP.aC rfl rfl (PV.bF rfl gW gO rfl rfl (by omega) (by omega)) (WP.aM rfl rfl (RV.aV rfl vD rfl) (aN.J1 (H.l 1 rfl) i (by omega) (by omega)) (WP.mv rfl rfl rfl (WP.aC rfl rfl (PV.bF rfl gW gO rfl rfl (by omega) (by omega)) (WP.aM rfl rfl (RV.aV rfl vD rfl) (aN.J1 (H.l 0 rfl) i (by omega) (by omega)) ?_)))))
   refine WP.aC rfl rfl (PV.eq (v' := .int .u8 ((a.getD i 0 ^^^ b.getD i 0).toNat : Int)) (PV.aB1 rfl rfl rfl) (congrArg (Value.int .u8) (aEb _ _))) ?_
   refine WP.as rfl rfl rfl (WP.done (WE.aA (WL.mv rfl rfl (WL.pv (PV.neq rfl rfl rfl) rfl (WL.nil ?_)))))
   refine WE.cond rfl (fun pF => ?_) (fun pF => ?_)
   ·
    try simp only [bP] at pF
    have hx : (a.getD i 0 ^^^ b.getD i 0).toNat ≠ 0 := by omega
    have aLD := CT (a.getD i 0 ^^^ b.getD i 0)
    refine WE.aA (WL.mv rfl rfl (WL.pv (PV.mL rfl rfl rfl (by omega) (by omega)) rfl (WL.mv rfl rfl ?_)))
    refine WL.call aGJ rfl (aIl (x := a.getD i 0 ^^^ b.getD i 0) H.aR  ) ?_
    rintro _ w4 ⟨rfl, hO⟩
    replace H := H.out hO
    refine WL.pv (PV.bV rfl rfl rfl (by omega) (by omega)) rfl (WL.as rfl rfl (WL.nil (WE.ret ⟨[_], _, .nil _, ⟨rfl, trivial⟩, ?_⟩)))
    refine ⟨?_, H.aL⟩
    show Value.int .i64 _ = Value.int .i64 _
    rw [(qZ a b).uniq (UW ha hb hlt hall hx)]
    congr 1 <;> omega
   ·
    try simp only [bP] at pF
    have hx : (a.getD i 0 ^^^ b.getD i 0).toNat = 0 := by omega
    have WY : a.getD i 0 = b.getD i 0 := UInt8.xor_eq_zero_iff.1 (UInt8.toNat_inj.1 hx)
    refine WE.skip (WE.dW (WL.pv (PV.bV rfl rfl rfl (by omega) (by omega)) rfl (WL.mv rfl rfl (WL.nil ?_))))
    exact ⟨i + 1, (by repeat (first | with_reducible exact bK.refl _ _ | refine bK.dG rfl ?_ | refine bK.bZ rfl ?_ | refine bK.bX rfl ?_)), ⟨rfl, trivial⟩, rfl, ⟨by omega, fun j hj => by (by_cases e : j = i; (subst e; exact WY); exact hall j (by omega)), H⟩, (by omega)⟩
  ·
   try simp only [bP] at j3
   have hend : i = 32 := by omega
   refine WE.exit (WE.aA (WL.as rfl rfl (WL.nil (WE.ret ⟨[_], _, .nil _, ⟨rfl, trivial⟩, ?_⟩))))
   exact absurd (bytes_eq ha hb fun j hj => hall j (by omega)) hab
theorem RO {a b : List UInt8} {d : Nat} (h : num a ≤ num b) : pre d a ≤ pre d b := Nat.div_le_div_right h
theorem NZ {a b : List UInt8} {d : Nat} (h : pre d a < pre d b) : num a < num b := by
 rcases Nat.lt_or_ge (num a) (num b) with hl | hl
 ·
  exact hl
 ·
  exact absurd (RO (d := d) hl) (by omega)
theorem A5 {a b : List UInt8} {d : Nat} (ha : a.length = 32) (hb : b.length = 32) (hd : d < 256) (hp : pre d a = pre d b) (h0 : bI a d = 0) (h1 : bI b d = 1) : num a < num b := by
 apply NZ (d := d + 1)
 rw [lI a ha d hd, lI b hb d hd, hp, h0, h1]
 omega
theorem DG {α : Type} {p q : α → Bool} : ∀ {l : List α}, (∀ x ∈ l, q x = !p x) → l.Pairwise (fun a b => p b = true → p a = true) → l = l.filter p ++ l.filter q := by
 intro l
 induction l with
 | nil => intro _ _; rfl
 | cons x l ih =>
  intro hq hp
  have h := List.pairwise_cons.1 hp
  have hqx := hq x (by simp)
  cases hx : p x
  ·
   have hall : ∀ y ∈ x :: l, p y = false := fun y hy => by
    rcases List.mem_cons.1 hy with rfl | hy
    ·
     exact hx
    ·
     cases hy' : p y
     ·
      rfl
     ·
      have := h.1 y hy hy'; rw [hx] at this; cases this
   rw [List.filter_eq_nil_iff.2 (by intro y hy; rw [hall y hy]; simp), List.nil_append, List.filter_eq_self.2 (by intro y hy; rw [hq y hy, hall y hy]; rfl)]
  ·
   rw [hx] at hqx
   rw [List.filter_cons_of_pos hx, List.filter_cons_of_neg (by rw [hqx]; simp), List.cons_append]
   exact congrArg (x :: ·) (ih (fun y hy => hq y (List.mem_cons_of_mem _ hy)) h.2)
theorem IX {m : List En} {d : Nat} (h : Pm d m) (hs : k9 m) (hd : d < 256) : m = bO m d 0 ++ bO m d 1 := by
 refine DG (fun x _ => ?_) ?_
 ·
  have := eA x.k d
  by_cases h0 : bI x.k d = 0
  ·
   simp [h0]
  ·
   have : bI x.k d = 1 := by omega
   simp [this]
 ·
  have hp := h.com
  have hk := h.kl
  unfold k9 at hs
  refine List.Pairwise.imp_of_mem (fun {a b} ha hb hlt zR => ?_) hs
  have h0 : bI b.k d = 0 := by simpa using zR
  by_cases ha0 : bI a.k d = 0
  ·
   simp [ha0]
  ·
   have ha1 := eA a.k d
   have := A5 (hk b hb) (hk a ha) hd (hp b hb a ha) h0 (by omega)
   omega
def Tr.oS : Nat → Tr → List (Tr × Nat)
 | _, .nil => []
 | d, .leaf a k v s => [(.leaf a k v s, d)]
 | d, .inner _ l r => Tr.oS (d + 1) l ++ Tr.oS (d + 1) r
theorem CQ : ∀ (T : Tr) (d : Nat), (T.oS d).length = T.er.gC
 | .nil, _ => rfl
 | .leaf _ _ _ _, _ => rfl
 | .inner _ l r, d => by unfold Tr.oS; rw [List.length_append, CQ l, CQ r]; rfl
theorem LL {bits : Int} {w : World} : ∀ (T : Tr) (d : Nat), cV bits T w → ∀ p ∈ T.oS d, cV bits p.1 w
 | .nil, _, _, _, h => by cases h
 | .leaf _ _ _ _, _, hA, p, h => by
  have e : p = _ := List.mem_singleton.1 h
  rw [e]; exact hA
 | .inner _ l r, d, hA, p, h => by
  rcases List.mem_append.1 h with h | h
  ·
   exact LL l _ hA.left p h
  ·
   exact LL r _ hA.right p h
def DN : Nat → Nat → List En → List (En × Nat)
 | _, _, [] => []
 | _, d, [e] => [(e, d)]
 | 0, d, e :: _ => [(e, d)]
 | n + 1, d, m => DN n (d + 1) (bO m d 0) ++ DN n (d + 1) (bO m d 1)
theorem UR : ∀ (n d : Nat) (m : List En), 256 - d = n → Pm d m → k9 m → (DN n d m).map (·.1) = m := by
 intro n
 induction n with
 | zero =>
  intro d m hn hp hs
  match m, hp with
  | [], _ => rfl
  | [e], _ => rfl
  | a :: b :: m, hp => have := hp.lt (by simp); omega
 | succ n ih =>
  intro d m hn hp hs
  match m, hp, hs with
  | [], _, _ => rfl
  | [e], _, _ => rfl
  | a :: b :: m, hp, hs =>
   have hd := hp.lt (by simp)
   show (DN n (d + 1) _ ++ DN n (d + 1) _).map _ = _
   rw [List.map_append, ih (d + 1) _ (by omega) (hp.part hd 0) (hs.filter _), ih (d + 1) _ (by omega) (hp.part hd 1) (hs.filter _)]
   exact (IX hp hs hd).symm
theorem YL : ∀ (n d : Nat) (m : List En) (T : Tr), 256 - d = n → Pm d m → T.er = grow d m → (T.oS d).map (fun p => (p.1.key, p.1.val, p.2)) = (DN n d m).map fun p => (p.1.k, p.1.v, p.2) := by
 intro n
 induction n with
 | zero =>
  intro d m T hn hp hT
  match m, hp with
  | [], _ => rw [eM] at hT; rw [Tr.I4 hT]; rfl
  | [e], _ => rw [dR] at hT; obtain ⟨a, s, rfl⟩ := Tr.tC hT; rfl
  | a :: b :: m, hp => have := hp.lt (by simp); omega
 | succ n ih =>
  intro d m T hn hp hT
  match m, hp with
  | [], _ => rw [eM] at hT; rw [Tr.I4 hT]; rfl
  | [e], _ => rw [dR] at hT; obtain ⟨a, s, rfl⟩ := Tr.tC hT; rfl
  | a :: b :: m, hp =>
   have hd := hp.lt (by simp)
   rw [iU d _ hd (by simp)] at hT
   obtain ⟨x, l, r, rfl, h1, h2⟩ := Tr.SH hT
   show (Tr.oS (d + 1) l ++ Tr.oS (d + 1) r).map _ = (DN n (d + 1) _ ++ DN n (d + 1) _).map _
   rw [List.map_append, List.map_append, ih _ _ l (by omega) (hp.part hd 0) h1, ih _ _ r (by omega) (hp.part hd 1) h2]
theorem YK {T : Tr} {d : Nat} {m : List En} (hT : T.er = grow d m) (hp : Pm d m) (hs : k9 m) : (T.oS d).map (fun p => (p.1.key, p.1.val)) = m.map fun e => (e.k, e.v) := by
 have h1 := YL _ d m T rfl hp hT
 have h2 := UR _ d m rfl hp hs
 have h3 := congrArg (List.map fun p : List UInt8 × List UInt8 × Nat => (p.1, p.2.1)) h1
 simp only [List.map_map] at h3
 have h4 : (DN (256 - d) d m).map (fun p => (p.1.k, p.1.v)) = m.map fun e => (e.k, e.v) := by
  conv => rhs; rw [← h2]
  rw [List.map_map]; rfl
 exact h3.trans h4
theorem zJ {X : Nat → Prop} {w : World} {bh bc : Nat} {bits n : Int} {k lv : List UInt8} {s : Value} (hX : c6 X w) (fA : aN w bc 213 ([.int .i64 n])) (bT : aH (fun c_ => X c_ ∨ c_ = bc) (fO bh bc bits) w) (dJ : aH (fun c_ => X c_ ∨ c_ = bc) (aZ) w) (bU : 0 ≤ bits ∧ bits ≤ 256) (rY : lv.length ≤ 1000000) (hk : k.length = 32) (hw : aH (fun c => c = bc) (bL s lv) w) :
  bC prog 137 [.pointer (some ⟨bh, 0, none⟩), .agg (kc k ++ [s]).toArray].toArray w fun v w' => ∃ (T : Tr) (m : Int), v = T.ptr ∧ T.er = .leaf k lv ∧ Out (· = bc) w w' ∧ aN w' bc 213 [.int .i64 m] ∧ aH (fun c => X c ∨ c = bc) (cV bits T) w' := by
 refine bC.aI (N := 18) func137 rfl rfl (by simp) ?_
 have H := ((St.dK (b := bc) (t := 213) (l := [.int .i64 n]) hX fA).add (cC dJ)).add (cC bT)
 have LS := fY bits lv
 have hs1 : s.oneCell' = true := cO.fW hw.here
 refine WE.aA ?_
 refine WL.box (l := kc k ++ [s]) H rfl (rfl) rfl ?_
 intro b3 w1 H
 refine WL.as rfl rfl (WL.nil ?_)
 refine WE.bG (.take 0 (.take 1 (.take 2 (.take 3 (.take 4 (.take 5 (.take 7 (.take 8 (.aG 6 (.aG 9 (.take 10 (.take 11 (.aG 12 (.take 13 .done)))))))))))))) mixed (by kernel_rfl) ?_
 replace H := H.out (Out.drew _)
 refine WP.mv rfl rfl rfl (WP.mv rfl rfl rfl (WP.aC rfl rfl (PV.fieldAddr rfl gK rfl) ?_))
 refine WP.dO rfl rfl rfl c7 rfl (aN.aF (H.l 0 rfl) (aK.l (aK.all _)) rfl) (cI cM (by simp only [aS, aY, aB]; omega)) ?_
 refine WP.aC rfl rfl (PV.fieldAddr rfl mD rfl) ?_
 refine WP.aM rfl rfl (RV.aV rfl eH rfl) (aN.aF (H.l 0 rfl) (aK.r (aK.all _) rfl) (by simp [aJ, aQ, *])) ?_
 refine WP.aC rfl rfl (PV.fieldAddr rfl mD rfl) ?_
 refine WP.aM rfl rfl (RV.aV rfl eH rfl) (aN.aF (H.l 0 rfl) (aK.r (aK.all _) rfl) (by simp [aJ, aQ, *])) ?_
 refine WP.aG rfl ?_
 refine WL.call aGS rfl (WC (X := Nil) (k := k) (la := lv) (oD _) (H.o 0 rfl) (by exact (H.aO 0 rfl 0 rfl).wk) ((H.EA H.nA hw rfl).HK) (by exact (H.aO 0 rfl 1 rfl).wk) bU rY hk) ?_
 rintro _ w2 ⟨m1, rfl, hO, hB⟩
 replace H := H.eZ 0 rfl hO hB
 refine WL.nil ⟨(fa (fun _ _ => (aN.aF (H.l 0 rfl) (aK.r (aK.all _) rfl) (by simp [aJ, aQ, *]))) (fa (nw 6 5) (fa (nw 6 3) c8))), ?_⟩
 refine WP.aG rfl ?_
 refine WL.call aBH rfl (HI (X := Nil) (la := lv) (oD _) ((H.EA H.nA hw rfl).wk0) (by omega)) ?_
 rintro s2 w3 ⟨hO, iE⟩
 have hr_ := (nB H.aR iE).imp fun _ h => bL.dM h
 replace H := (H.out hO).add hr_
 refine WL.nil ⟨(fa (nw 9 8) (fa (nw 9 5) (fa (nw 9 3) c8))), ?_⟩
 refine WP.aC rfl rfl (PV.dQ rfl aA5 KV (Fl.cons rfl rfl (by simp only [aS, aY, aB]; omega) (Laid.left (Laid.all (by simp only [aS, aY, aB]; omega))) (Fl.cons rfl (cO.cells (H.p 0 rfl)) (by simp only [aS, aY, aB]) (Laid.right (Laid.all (by simp only [aS, aY, aB])) (by simp only [aS, aY, aB]; omega)) Fl.nil))) ?_
 refine WP.aC rfl rfl (PV.LI rfl GH) (WP.aG rfl ?_)
 refine WL.call aBz rfl (HZ (k := k) (d := nI bits lv) (s := s2) H.aR (H.o 0 rfl) (by exact H.aO 0 rfl 1 rfl) (by exact H.aO 0 rfl 2 rfl) bU hk LS) ?_
 rintro _ w4 ⟨a2, m2, rfl, hO, hB, hR⟩
 replace H := H.dP 0 rfl hO hB hR
 refine WL.nil ⟨(fa (nw 12 8) (fa (nw 12 5) (fa (nw 12 3) c8))), ?_⟩
 refine WP.as rfl rfl rfl (WP.done (WE.ret ⟨[_], _, .nil _, ⟨rfl, trivial⟩, ?_⟩))
 exact ⟨.leaf a2 k lv s2, m2, rfl, rfl, H.cT, H.o 0 rfl, (H.gA ((H.bJ 0 rfl).and (H.bJ 1 rfl))).imp fun _ h => ⟨hk, h.2, rY, h.1⟩⟩
structure vZ (C : Nat → Prop) (W0 w : World) : Prop where
 os : w.os = W0.os
 tape : w.tape = W0.tape
 output : w.output = W0.output
 size : W0.heap.size ≤ w.heap.size
 old : ∀ b, b < W0.heap.size → ¬ C b → w.heap[b]? = W0.heap[b]?
theorem vZ.aCt {C : Nat → Prop} {W0 w : World} (h : Out Nil W0 w) : vZ C W0 w := ⟨h.os, h.tape, h.output, h.size, fun b hb _ => h.block b hb id⟩
theorem vZ.out {C : Nat → Prop} {W0 w w' : World} (h : vZ C W0 w) (ho : Out Nil w w') : vZ C W0 w' :=
 ⟨ho.os.trans h.os, ho.tape.trans h.tape, ho.output.trans h.output, Nat.le_trans h.size ho.size, fun b hb hc => (ho.block b (Nat.lt_of_lt_of_le hb h.size) id).trans (h.old b hb hc)⟩
theorem vZ.kept {T C : Nat → Prop} {W0 W w : World} (h : Kept T C W0 W w) (hT : ∀ b, T b → W0.heap.size ≤ b) : vZ C W0 w :=
 ⟨h.os, h.tape, h.output, h.size, fun b hb hc => h.old b hb hc fun ht => by have := hT b ht; omega⟩
theorem vZ.bJ {C : Nat → Prop} {W0 w : World} {p : World → Prop} (h : vZ C W0 w) (hp : aH C p W0) : aH C p w := fun w' hw =>
 hp w' fun b hb hc => (hw b (Nat.lt_of_lt_of_le hb h.size) hc).trans (h.old b hb hc)
def VY (P : Program) (g : FuncId) (fs cs : List Value) (n : Nat) (V : Nat → List Value → World → Prop) (C : Nat → Prop) (W0 : World) : Prop :=
 ∀ (f : Value) (J : Nat → World → Prop) (Jx : World → Prop), J 0 W0 → (∀ i W W', J i W → Out Nil W W' → J i W') → (∀ W W', Jx W → Out Nil W W' → Jx W') →
  (∀ i xs W W2, i < n → J i W → Out Nil W W2 → aH (· < W.heap.size) (V i xs) W2 → eR P f xs W2 fun v W' => Kept Nil C W0 W2 W' ∧ ((v = .bool true ∧ J (i + 1) W') ∨ (v = .bool false ∧ Jx W'))) → AJ f →
  bC P g (fs ++ [f] ++ cs).toArray W0 fun v W' => v = .tuple #[] ∧ (J n W' ∨ Jx W')
theorem VY.aIJ {P : Program} {g : FuncId} {fs cs : List Value} {n : Nat} {V : Nat → List Value → World → Prop} {C : Nat → Prop} {W0 : World} (h : VY P g fs cs n V C W0) : VX P g fs cs n V Nil C W0 := by
 intro f J Jx hst j9 N6 iK hf
 refine (h f (J Nil) (Jx Nil) (hst Nil W0 (Out.refl _ _) (fun _ h => h.elim) (fun _ h => h.elim)) (fun i W W' => j9 Nil i W W') (fun W W' => N6 Nil W W') (fun i xs W W2 h1 h2 h3 h4 => iK Nil i xs W W2 h1 h2 h3 h4) hf).mono ?_
 rintro v W' ⟨h1, h2⟩
 exact ⟨h1, Nil, h2⟩
structure aBW (C : Nat → Prop) (w : World) (l : Nat) (W W' : World) : Prop where
 os : W'.os = W.os
 tape : W'.tape = W.tape
 output : W'.output = W.output
 size : w.heap.size + 2 ≤ W'.heap.size
 old : ∀ b, b < w.heap.size → ¬ C b → W'.heap[b]? = W.heap[b]?
 loop : W'.heap[l]? = W.heap[l]?
def lvV (L : List (Tr × Nat)) (i : Nat) (xs : List Value) (_ : World) : Prop := ∃ p, L[i]? = some p ∧ xs = [p.1.ptr, .int .i64 (p.2 : Int)]
theorem YM {L : List (Tr × Nat)} (i : Nat) (xs : List Value) (W : World) (h : lvV L i xs W) : xs.length = 2 := by obtain ⟨p, _, rfl⟩ := h; rfl
def aDL (T : Tr) : Prop := ∀ {X : Nat → Prop} {w W0 : World} {bits : Int} {d i : Nat} {L : List (Tr × Nat)} {f : Value} {J : Nat → World → Prop} {Jx : World → Prop}, (∀ b, X b → b < w.heap.size) → (∀ b, X b → b < W0.heap.size) → aH X (cV bits T) W0 → vZ X W0 w → T.er.fit d →
 (∀ j, j < (T.oS d).length → L[i + j]? = (T.oS d)[j]?) → (∀ i W W', J i W → Out Nil W W' → J i W') →
 (∀ i xs W W2, i < L.length → J i W → Out Nil W W2 → aH (· < W.heap.size) (lvV L i xs) W2 → eR prog f xs W2 fun v W' => Kept Nil X W0 W2 W' ∧ ((v = .bool true ∧ J (i + 1) W') ∨ (v = .bool false ∧ Jx W'))) → AJ f → J i w →
 bC prog 101 [T.ptr, .int .i64 (d : Int), f].toArray w fun v w' => ∃ b, v = .bool b ∧ vZ X W0 w' ∧ (b = true → J (i + (T.oS d).length) w') ∧ (b = false → Jx w')
def aHG (b : Nat) : Value := .func (.func 100) [].toArray [.pointer (some ⟨b, 0, none⟩)].toArray
theorem aAA {X : Nat → Prop} {w : World} {W0 : World} {bits : Int} {d i : Nat} {L : List (Tr × Nat)} {f : Value} {J : Nat → World → Prop} {Jx : World → Prop}  (hX : c6 X w) (hX0 : ∀ b, X b → b < W0.heap.size) (hA : aH X (cV bits Tr.nil) W0) (JQ : vZ X W0 w) (hfit : Tr.nil.er.fit d) (hL : ∀ j, j < (Tr.nil.oS d).length → L[i + j]? = (Tr.nil.oS d)[j]?) (j9 : ∀ i W W', J i W → Out Nil W W' → J i W') (iK : ∀ i xs W W2, i < L.length → J i W → Out Nil W W2 → aH (· < W.heap.size) (lvV L i xs) W2 → eR prog f xs W2 fun v W' => Kept Nil X W0 W2 W' ∧ ((v = .bool true ∧ J (i + 1) W') ∨ (v = .bool false ∧ Jx W'))) (hf : AJ f) (hJ : J i w) :
  bC prog 101 [Tr.nil.ptr, .int .i64 (d : Int), f].toArray w fun v w' => ∃ b, v = .bool b ∧ vZ X W0 w' ∧ (b = true → J (i + (Tr.nil.oS d).length) w') ∧ (b = false → Jx w') := by
 refine bC.aI (N := 31) func101 rfl rfl (by simp) ?_
 have H := (St.begin hX).add (cE (JQ.bJ hA))
 refine WE.aA (WL.as rfl rfl (WL.nil (WE.seq (WE.aA (WL.mv rfl rfl ?_)))))
 refine WL.call mE rfl (e8 (T := .nil) (bits := bits) H.aR (by exact H.bJ 0 rfl) ) ?_
 rintro _ w1 ⟨rfl, hO⟩
 replace H := H.out hO
 refine WL.nil (WE.block (WE.aA (WL.pv (PV.eql rfl rfl rfl) rfl (WL.as rfl rfl (WL.nil ?_)))))
 refine WE.bD rfl rfl ?_
 refine WE.aA (WL.pv (PV.eql rfl rfl rfl) rfl (WL.as rfl rfl (WL.nil ?_)))
 refine WE.bD rfl rfl ?_
 refine WE.skip (WE.aA (WL.as rfl rfl (WL.nil (WE.ret ⟨[_], _, .nil _, ⟨rfl, trivial⟩, ?_⟩))))
 exact ⟨true, rfl, JQ.out H.aL, (fun _ => j9 _ _ _ hJ H.aL), fun h => by cases h⟩
theorem V9 {X : Nat → Prop} {w : World} {W0 : World} {bits : Int} {d i : Nat} {L : List (Tr × Nat)} {f : Value} {J : Nat → World → Prop} {Jx : World → Prop} {a : Nat} {q u : List UInt8} {s : Value} (hX : c6 X w) (hX0 : ∀ b, X b → b < W0.heap.size) (hA : aH X (cV bits (Tr.leaf a q u s)) W0) (JQ : vZ X W0 w) (hfit : (Tr.leaf a q u s).er.fit d) (hL : ∀ j, j < ((Tr.leaf a q u s).oS d).length → L[i + j]? = ((Tr.leaf a q u s).oS d)[j]?) (j9 : ∀ i W W', J i W → Out Nil W W' → J i W') (iK : ∀ i xs W W2, i < L.length → J i W → Out Nil W W2 → aH (· < W.heap.size) (lvV L i xs) W2 → eR prog f xs W2 fun v W' => Kept Nil X W0 W2 W' ∧ ((v = .bool true ∧ J (i + 1) W') ∨ (v = .bool false ∧ Jx W'))) (hf : AJ f) (hJ : J i w) :
  bC prog 101 [(Tr.leaf a q u s).ptr, .int .i64 (d : Int), f].toArray w fun v w' => ∃ b, v = .bool b ∧ vZ X W0 w' ∧ (b = true → J (i + ((Tr.leaf a q u s).oS d).length) w') ∧ (b = false → Jx w') := by
 refine bC.aI (N := 31) func101 rfl rfl (by simp) ?_
 have H := (St.begin hX).add (cE (JQ.bJ hA))
 have hLi : L[i]? = some ((Tr.leaf a q u s), d) := hL 0 (Nat.succ_pos _)
 have hiL := (List.getElem?_eq_some_iff.1 hLi).1
 refine WE.aA (WL.as rfl rfl (WL.nil (WE.seq (WE.aA (WL.mv rfl rfl ?_)))))
 refine WL.call mE rfl (e8 (T := (Tr.leaf a q u s)) (bits := bits) H.aR (by exact H.bJ 0 rfl) ) ?_
 rintro _ w1 ⟨rfl, hO⟩
 replace H := H.out hO
 refine WL.nil (WE.block (WE.aA (WL.pv (PV.eql rfl rfl rfl) rfl (WL.as rfl rfl (WL.nil ?_)))))
 refine WE.cR rfl rfl ?_
 refine WE.aA (WL.mv rfl rfl (WL.mv rfl rfl (WL.mv rfl rfl ?_)))
 refine WL.iZ rfl rfl (iK i _ w _ hiL hJ H.aL (aH.pure ⟨_, hLi, rfl⟩)) ?_
 rintro _ w2 ⟨hk, ⟨rfl, hJ⟩ | ⟨rfl, hJ⟩⟩
 ·
  have FZ := vZ.kept hk (fun _ h => h.elim)
  refine WL.as rfl rfl (WL.nil (WE.ret ⟨[_], _, .nil _, ⟨rfl, trivial⟩, ?_⟩))
  exact ⟨true, rfl, FZ, (fun _ => hJ), fun h => by cases h⟩
 ·
  have FZ := vZ.kept hk (fun _ h => h.elim)
  refine WL.as rfl rfl (WL.nil (WE.ret ⟨[_], _, .nil _, ⟨rfl, trivial⟩, ?_⟩))
  exact ⟨false, rfl, FZ, (fun h => by cases h), fun _ => hJ⟩
theorem PL {X : Nat → Prop} {w : World} {W0 : World} {bits : Int} {d i : Nat} {L : List (Tr × Nat)} {f : Value} {J : Nat → World → Prop} {Jx : World → Prop} {a : Nat} {l r : Tr} (hX : c6 X w) (hX0 : ∀ b, X b → b < W0.heap.size) (hA : aH X (cV bits (Tr.inner a l r)) W0) (JQ : vZ X W0 w) (hfit : (Tr.inner a l r).er.fit d) (hL : ∀ j, j < ((Tr.inner a l r).oS d).length → L[i + j]? = ((Tr.inner a l r).oS d)[j]?) (j9 : ∀ i W W', J i W → Out Nil W W' → J i W') (iK : ∀ i xs W W2, i < L.length → J i W → Out Nil W W2 → aH (· < W.heap.size) (lvV L i xs) W2 → eR prog f xs W2 fun v W' => Kept Nil X W0 W2 W' ∧ ((v = .bool true ∧ J (i + 1) W') ∨ (v = .bool false ∧ Jx W'))) (hf : AJ f) (hJ : J i w) (ihl : aDL l) (ihr : aDL r) :
  bC prog 101 [(Tr.inner a l r).ptr, .int .i64 (d : Int), f].toArray w fun v w' => ∃ b, v = .bool b ∧ vZ X W0 w' ∧ (b = true → J (i + ((Tr.inner a l r).oS d).length) w') ∧ (b = false → Jx w') := by
 refine bC.aI (N := 31) func101 rfl rfl (by simp) ?_
 have H := (St.begin hX).add (cE (JQ.bJ hA))
 have HP : (Tr.oS d (Tr.inner a l r)).length = (l.oS (d + 1)).length + (r.oS (d + 1)).length := List.length_append
 have aK1 : d < 256 := hfit.1
 have hLl : ∀ j, j < (l.oS (d + 1)).length → L[i + j]? = (l.oS (d + 1))[j]? := fun j hj => (hL j (by rw [HP]; omega)).trans (List.getElem?_append_left hj)
 have hLr : ∀ j, j < (r.oS (d + 1)).length → L[i + (l.oS (d + 1)).length + j]? = (r.oS (d + 1))[j]? := fun j hj => by rw [Nat.add_assoc]; refine (hL ((l.oS (d + 1)).length + j) (by rw [HP]; omega)).trans ?_; show (l.oS (d + 1) ++ r.oS (d + 1))[_]? = _; rw [List.getElem?_append_right (by omega)]; congr 1; omega
 refine WE.aA (WL.as rfl rfl (WL.nil (WE.seq (WE.aA (WL.mv rfl rfl ?_)))))
 refine WL.call mE rfl (e8 (T := (Tr.inner a l r)) (bits := bits) H.aR (by exact H.bJ 0 rfl) ) ?_
 rintro _ w1 ⟨rfl, hO⟩
 replace H := H.out hO
 refine WL.nil (WE.block (WE.aA (WL.pv (PV.eql rfl rfl rfl) rfl (WL.as rfl rfl (WL.nil ?_)))))
 refine WE.bD rfl rfl ?_
 refine WE.aA (WL.pv (PV.eql rfl rfl rfl) rfl (WL.as rfl rfl (WL.nil ?_)))
 refine WE.cR rfl rfl ?_
 refine WE.aA (WL.mv rfl rfl ?_)
 refine WL.call UE rfl (KM (T := (Tr.inner a l r)) (bits := bits) H.aR (by exact H.bJ 0 rfl) ) ?_
 rintro _ w2 ⟨rfl, hO⟩
 replace H := H.out hO
 refine WL.mv rfl rfl (WL.pv (PV.eq (v' := .int .i64 ((d + 1 : Nat) : Int)) (PV.bV rfl rfl rfl (by omega) (by omega)) rfl) rfl (WL.mv rfl rfl ?_))
 refine WL.call UG rfl (ihl (X := X) (W0 := W0) (bits := bits) (d := d + 1) (i := i) (L := L) (J := J) (Jx := Jx) (fun b hb => H.aR b (.inl hb)) hX0 (hA.imp fun _ h => h.left) (JQ.out H.aL) hfit.2.1 hLl j9 iK hf (j9 _ _ _ hJ H.aL)) ?_
 rintro _ w3 ⟨b22, rfl, FZ, aI2, aJA⟩
 replace H := (St.begin (fun b hb => Nat.lt_of_lt_of_le (hX0 b hb) FZ.size)).add (cE (FZ.bJ hA))
 refine WL.mv rfl rfl ?_
 refine WL.split (t := 23) rfl (fun C4 => ?_) (fun C4 => ?_)
 ·
  refine WL.known (t := 22) (c := true) rfl C4 ?_
  try simp only [bP] at C4
  subst C4
  refine WL.mv rfl rfl ?_
  refine WL.call UD rfl (zH (T := (Tr.inner a l r)) (bits := bits) H.aR (by exact H.bJ 0 rfl) ) ?_
  rintro _ w4 ⟨rfl, hO⟩
  replace H := H.out hO
  refine WL.mv rfl rfl (WL.pv (PV.eq (v' := .int .i64 ((d + 1 : Nat) : Int)) (PV.bV rfl rfl rfl (by omega) (by omega)) rfl) rfl (WL.mv rfl rfl ?_))
  refine WL.call UG rfl (ihr (X := X) (W0 := W0) (bits := bits) (d := d + 1) (i := i + (l.oS (d + 1)).length) (L := L) (J := J) (Jx := Jx) (fun b hb => H.aR b (.inl hb)) hX0 (hA.imp fun _ h => h.right) (FZ.out H.aL) hfit.2.2 hLr j9 iK hf (j9 _ _ _ (aI2 rfl) H.aL)) ?_
  rintro _ w5 ⟨b29, rfl, aJK, aI1, aJz⟩
  refine WL.pv (PV.c5 rfl rfl rfl) rfl (WL.as rfl rfl (WL.nil (WE.ret ⟨[_], _, .nil _, ⟨rfl, trivial⟩, ?_⟩)))
  exact ⟨b29, rfl, aJK, (fun h => by have h_ := aI1 h; rw [HP, ← Nat.add_assoc]; exact h_), aJz⟩
 ·
  refine WL.known (t := 22) (c := false) rfl C4 ?_
  try simp only [bP] at C4
  subst C4
  refine WL.off rfl (WL.off rfl (WL.off rfl (WL.off rfl (WL.off rfl (WL.off rfl (WL.pv (PV.cF rfl rfl rfl) rfl (WL.as rfl rfl ?_)))))))
  refine WL.nil (WE.ret ⟨[_], _, .nil _, ⟨rfl, trivial⟩, ?_⟩)
  exact ⟨false, rfl, FZ, (fun h => by cases h), fun _ => aJA rfl⟩
theorem V8 : ∀ T : Tr, aDL T
 | .nil => fun hX h0 h1 h2 h3 h4 h5 h6 h7 h8 => aAA hX h0 h1 h2 h3 h4 h5 h6 h7 h8
 | .leaf a q u s => fun hX h0 h1 h2 h3 h4 h5 h6 h7 h8 => V9 hX h0 h1 h2 h3 h4 h5 h6 h7 h8
 | .inner a l r => fun hX h0 h1 h2 h3 h4 h5 h6 h7 h8 => PL hX h0 h1 h2 h3 h4 h5 h6 h7 h8 (V8 l) (V8 r)
theorem OO {C : Nat → Prop} {w : World} {b1 : Nat} {bits : Int} {T : Tr} (hC : ∀ b, C b → b < w.heap.size) (bT : aH C (fun w => dD w ⟨b1, 0, none⟩ [T.ptr]) w) (dJ : aH C (cV bits T) w) (hfit : T.er.fit 0) : VY prog 100 [] [.pointer (some ⟨b1, 0, none⟩)] ((T.oS 0).length) (lvV (T.oS 0)) C w := by
 intro f J Jx hJ0 j9 N6 iK hf
 show bC prog 100 ([f, .pointer (some ⟨b1, 0, none⟩)] : List Value).toArray w _
 refine bC.aI (N := 6) func100 rfl rfl (by simp) ?_
 have H := ((St.begin (X := C) hC).add (cE dJ)).add (cE bT)
 refine WE.dW (WL.aX rfl iQ rfl rfl (H.p 0 rfl) (WL.mv rfl rfl ?_))
 refine WL.call UG rfl (V8 T (X := C) (W0 := w) (bits := bits) (d := 0) (i := 0) (L := T.oS 0) (J := J) (Jx := Jx) (fun b hb => H.aR b (.inl hb)) hC dJ (vZ.aCt H.aL) hfit (fun j _ => by rw [Nat.zero_add]) j9 iK hf (j9 _ _ _ hJ0 H.aL)) ?_
 rintro _ w1 ⟨b5, rfl, hOn, ht, FO⟩
 refine WL.nil ?_
 refine ⟨[], _, .nil _, trivial, ?_⟩
 cases b5 with
 | true => exact ⟨rfl, .inl (by have h_ := ht rfl; rwa [Nat.zero_add] at h_)⟩
 | false => exact ⟨rfl, .inr (FO rfl)⟩
theorem aDk {X : Nat → Prop} {w : World} {T : Tr} (hX : c6 X w) :
  bC prog 60 [T.ptr].toArray w fun v w' => ∃ b, v = aHG b ∧ Out Nil w w' ∧ aH X (fun w => dD w ⟨b, 0, none⟩ [T.ptr]) w' := by
 refine bC.aI (N := 4) func60 rfl rfl (by simp) ?_
 have H := St.begin hX
 refine WE.aA ?_
 refine WL.box (l := [T.ptr]) H rfl (rfl) rfl ?_
 intro b1 w1 H
 refine WL.as rfl rfl (WL.nil (WE.aA (WL.pv (PV.makeFunc rfl) rfl (WL.as rfl rfl (WL.nil (WE.ret ⟨[_], _, .nil _, ⟨rfl, trivial⟩, ?_⟩))))))
 replace H := H.freeze (i := 0) rfl
 exact ⟨_, rfl, H.aL, (H.fX (H.bJ 0 rfl)).imp fun _ h => h.rd⟩
theorem OY (x : UInt8) (a b : List UInt8) (h : a.length = b.length) : iM (x :: a) (x :: b) = iM a b := by
 unfold iM
 rw [lJ, lJ, h]
 simp only [Nat.add_lt_add_iff_left]
theorem k3 : ∀ (a b : List UInt8), a.length = b.length → Lib.compareBytes a b = iM a b
 | [], [], _ => by simp [Lib.compareBytes, iM]
 | [], _ :: _, h => by cases h
 | _ :: _, [], h => by cases h
 | x :: a, y :: b, h => by
  have hl : a.length = b.length := by simpa using h
  unfold Lib.compareBytes
  by_cases h1 : x < y
  ·
   rw [if_pos h1]
   have := qR (a := x :: a) (b := y :: b) h 0 (by simp) rfl (UInt8.lt_iff_toNat_lt.1 h1)
   rw [iM, if_pos this]
  ·
   rw [if_neg h1]
   by_cases h2 : y < x
   ·
    rw [if_pos h2]
    have := qR (a := y :: b) (b := x :: a) h.symm 0 (by simp) rfl (UInt8.lt_iff_toNat_lt.1 h2)
    rw [iM, if_neg (by omega), if_pos this]
   ·
    rw [if_neg h2]
    have e : x = y := by
     have h3 : ¬ x.toNat < y.toNat := fun h => h1 (UInt8.lt_iff_toNat_lt.2 h)
     have h4 : ¬ y.toNat < x.toNat := fun h => h2 (UInt8.lt_iff_toNat_lt.2 h)
     exact UInt8.toNat_inj.1 (by omega)
    subst e
    rw [k3 a b hl, OY _ _ _ hl]
theorem y4 {X : Nat → Prop} {w : World} {a b : Value} {la lb : List UInt8} (hX : c6 X w) (bT : aH X (bL a la) w) (dJ : aH X (bL b lb) w) :
  bC prog 143 [a, b].toArray w fun v w' => v = .int .i64 (Lib.compareBytes la lb) ∧ Out Nil w w' := by
 refine bC.aI (N := 8) func143 rfl rfl (by simp) ?_
 have H := ((St.begin hX).add (cE dJ)).add (cE bT)
 refine WE.aA (WL.as rfl rfl (WL.nil (WE.aA (WL.mv rfl rfl (WL.mv rfl rfl ?_)))))
 refine WL.extern (e := Extern.BytealgCompare.compare) (v := .int .i64 (Lib.compareBytes la lb)) func184 (by kernel_rfl) (by kernel_rfl) (by kernel_rfl) (by kernel_rfl) rfl (sS (H.p 0 rfl) (H.p 1 rfl)) ?_
 refine WL.as rfl rfl (WL.nil (WE.ret ⟨[_], _, .nil _, ⟨rfl, trivial⟩, ?_⟩))
 exact ⟨rfl, H.aL⟩
theorem rL {X : Nat → Prop} {w : World} {k l : List UInt8} (hX : c6 X w) (hk : k.length = 32) (hl : l.length = 32) :
  bC prog 94 [.agg (kc k).toArray, .agg (kc l).toArray].toArray w fun v w' => v = .int .i64 (iM k l) ∧ Out Nil w w' := by
 refine bC.aI (N := 8) func94 rfl rfl (by simp) ?_
 have H := St.begin hX
 refine WE.aA ?_
 refine WL.box (l := kc k) H rfl rfl rfl ?_
 intro b2 w1 H
 refine WL.box (l := kc l) H rfl rfl rfl ?_
 intro b3 w2 H
 refine WL.as rfl rfl (WL.nil ?_)
 refine WE.bG (.take 0 (.take 1 (.aG 2 (.take 3 .done)))) mixed (by kernel_rfl) ?_
 replace H := H.out (Out.drew _)
 replace H := H.freeze (i := 0) rfl
 replace H := H.freeze (i := 0) rfl
 replace H := H.rS [1, 0]
 refine WP.aC rfl rfl (PV.iH rfl gW (by rw [gO]; rfl) rfl) ?_
 refine WP.aC rfl rfl (PV.iH rfl gW (by rw [gO]; rfl) rfl) ?_
 refine WP.aG rfl ?_
 refine WL.call aBD rfl (y4 (la := k) (lb := l) H.aR ((H.bJ 1 rfl).imp fun _ h => bL.cA h hk) ((H.bJ 0 rfl).imp fun _ h => bL.cA h hl)) ?_
 rintro _ w3 ⟨rfl, hO⟩
 replace H := H.out hO
 rw [k3 k l (by rw [hk, hl])]
 refine WL.nil ⟨c8, ?_⟩
 refine WP.as rfl rfl rfl (WP.done (WE.ret ⟨[_], _, .nil _, ⟨rfl, trivial⟩, ?_⟩))
 exact ⟨rfl, H.aL⟩
def CV (m : List En) : List (List UInt8 × List UInt8) := m.map fun e => (e.k, e.v)
def kvT (L : List (Tr × Nat)) : List (List UInt8 × List UInt8) := L.map fun p => (p.1.key, p.1.val)
theorem SC {L : List (Tr × Nat)} {i : Nat} {p : Tr × Nat} (h : L[i]? = some p) : kvT (L.take (i + 1)) = kvT (L.take i) ++ [(p.1.key, p.1.val)] := by
 unfold kvT
 rw [List.take_add_one, h, List.map_append]; rfl
theorem YU {T : Tr} {m : List En} (hT : T.er = grow 0 m) (hp : Pm 0 m) (hs : k9 m) : kvT (T.oS 0) = CV m := YK hT hp hs
theorem CU {es m : List En} (h : CV es = CV m) : es.length = m.length ∧ ∀ i (h1 : i < es.length) (h2 : i < m.length), es[i].k = m[i].k ∧ es[i].v = m[i].v := by
 have hl : es.length = m.length := by simpa [CV] using congrArg List.length h
 refine ⟨hl, fun i h1 h2 => ?_⟩
 have := congrArg (fun l => l[i]?) h
 simp [CV, List.getElem?_map, List.getElem?_eq_getElem h1, List.getElem?_eq_getElem h2] at this
 exact this
theorem aCr {q : List UInt8} {s : Value} (h : s.oneCell' = true) : eO (kc q ++ [s]) := bN (bH _) (bB _ (by simp [h]))
theorem SD (es : List En) (q u : List UInt8) (s : Value) : CV (es ++ [⟨q, s, u⟩]) = CV es ++ [(q, u)] := by simp [CV]
theorem NF {es : List En} {e : En} {w : World} (h : eC es w) (he : bL e.s e.v w) : eC (es ++ [e]) w := fun x hx => by
 rcases List.mem_append.1 hx with hx | hx
 ·
  exact h x hx
 ·
  rw [List.mem_singleton.1 hx]; exact he
theorem OK (es : List En) (e : En) : (es ++ [e]).flatMap oT = es.flatMap oT ++ (kc e.k ++ [e.s]) := by rw [List.flatMap_append, List.flatMap_singleton]; rfl
theorem PO {X : Nat → Prop} {w : World} {bits : Int} {T : Tr} (hX : c6 X w) (bT : aH X (cV bits T) w) (hfit : T.er.fit 0) (D2 : T.er.gC ≤ 1000000) :
  bC prog 25 [T.ptr].toArray w fun v w' => ∃ es : List En, Out Nil w w' ∧ aH X (fF v es) w' ∧ aH X (eC es) w' ∧ CV es = kvT (T.oS 0) := by
 refine bC.aI (N := 15) func25 rfl rfl (by simp) ?_
 have H := (St.begin hX).add (cE bT)
 have hln := CQ T 0
 refine WE.aA (WL.as rfl rfl (WL.nil (WE.aA ?_)))
 refine WL.alloc H rfl aIy rfl ?_
 intro b3 w1 H
 refine WL.nil (WE.seq (WE.aA (WL.mv rfl rfl ?_)))
 refine WL.call aJ7 rfl (aDk (T := T) H.aR  ) ?_
 rintro _ w2 ⟨aKB, rfl, hO, hR⟩
 replace H := (H.out hO).add hR
 refine WL.nil (WE.block ?_)
 replace H := H.kU 111 33
 replace H := H.add (show aH _ (eC []) _ from fun _ _ e he => by cases he)
 replace H := H.wP
 refine WE.xS (α := Value × List En) (fun i x => CV x.2 = kvT ((T.oS 0).take i) ∧ x.2.length = i) (fun i x => []) (fun i x => [aP.gZ w.heap.size x.1 111 33 i (x.2.flatMap oT), aP.blk b3 26 [x.1]]) (fun i x => [eC x.2, fun w => dD w ⟨aKB, 0, none⟩ [T.ptr], cV bits T]) (fun _ _ => False) (fun _ _ => []) (fun _ _ => []) (fun _ _ => []) (.slice none 0 0, []) H rfl aHC (fun W0 hO => (OO (T := T) (bits := bits) (H.U2 hO) (H.sD hO 1 rfl) (H.sD hO 2 rfl) hfit).aIJ) (YM) ⟨⟨rfl, rfl⟩, rfl, rfl, rfl⟩ ?_ ?_ ?_
 ·
  intro i ⟨v, es⟩ xs_ l_ d_ o_ T_ sc_ w3 jM tK OE
  obtain ⟨p, hLp, rfl⟩ := OE
  have nL := List.mem_of_getElem? hLp
  refine WE.dW (WL.as rfl rfl (WL.nil ?_))
  refine ⟨rfl, rfl, rfl, ?_⟩
  intro w4 H
  have hkp := cV.gY (LL T 0 (H.p 3 rfl) p nL)
  have hil := (List.getElem?_eq_some_iff.1 hLp).1
  have hE : ∀ s11 : Value, (kc p.1.key ++ [s11]).length = 1 * 33 := fun s => by simp [aJ, hkp]
  have hE2 : ∀ s11 : Value, (kc p.1.key ++ [s11]).length = 33 := hE
  refine WE.block ?_
  refine WE.draw (.take 0 (.take 1 (.aG 2 (.aG 3 (.aG 4 (.aG 5 .done)))))) mixed (by kernel_rfl) ?_
  replace H := H.out (Out.drew _)
  refine WP.aM rfl rfl (RV.aV rfl aH7 rfl) (aN.aF (H.l 1 rfl) (aK.all _) rfl) (WP.mv rfl rfl rfl (WP.aG rfl ?_))
  refine WL.call aC9 rfl (DV (T := p.1) (bits := bits) H.aR ((H.bJ 3 rfl).imp fun _ h => LL T 0 h p nL)) ?_
  rintro _ w5 ⟨s11, rfl, hO, iE⟩
  have aJa := cO.fW (bL.dM iE)
  have hr_ := (nB H.aR iE).imp fun _ h => bL.dM h
  replace H := (H.out hO).add hr_
  refine WL.nil ⟨(fa (fun _ _ => (aN.aF (H.l 1 rfl) (aK.all _) rfl)) c8), ?_⟩
  refine WP.aG rfl ?_
  refine WL.bA (l0 := ((kc (List.replicate 32 0) ++ ([.slice none 0 0])))) H rfl wC (by decide) rfl (Fl.cons rfl rfl (by simp only [aS, aY, aB]; omega) (Laid.all (by simp only [aS, aY, aB]; omega)) Fl.nil) rfl ?_
  intro b12 w6 H
  refine WL.nil ⟨(fa (fun _ _ => (aN.aF (H.l 2 rfl) (aK.all _) rfl)) c8), ?_⟩
  refine WP.aG rfl ?_
  refine WL.append (m := 1) H 1 wC (by decide) rfl rfl rfl (cO.cA (n := 1) (H.l 0 rfl) (hE s11)) (aCr aJa) (by omega) (by decide) rfl ?_
  intro v13 w7 H
  replace H := H.forget 0
  have aE8 := jI (H.l 0 rfl)
  refine WL.nil ⟨(fa (nw 4 0) c8), ?_⟩
  refine WP.aG rfl ?_
  refine WL.aW H 1 rfl rfl rfl (new := [v13]) (cells_one aE8) (by exact aIF) (eF aE8) (Laid.at (Laid.all (by simp only [aS, aY, aB])) rfl) rfl ?_
  intro w8 H
  refine WL.nil ⟨(fa (nw 5 0) c8), ?_⟩
  refine WP.done ?_
  let e11 : En := ⟨p.1.key, s11, p.1.val⟩
  replace H := H.add (show aH _ (eC (es ++ [e11])) _ from ((H.bJ 2 rfl).and (H.bJ 0 rfl)).imp fun _ h => NF h.1 h.2)
  replace H := H.conv (L' := [aP.gZ w.heap.size v13 111 33 (i + 1) ((es ++ [e11]).flatMap oT), aP.blk b3 26 [v13], aP.obj l_ o_, aP.obj d_ (.deferred (some [])), aP.sn T_ w4]) (by rw [OK]; rfl)
  replace H := H.rS [0, 4, 5, 6]
  exact ⟨(v13, es ++ [e11]), ⟨by rw [SD, SC hLp, tK.1], by rw [List.length_append, tK.2]; rfl⟩, H⟩
 ·
  intro ⟨v, es⟩ US w9 tK H
  refine WE.aA (WL.aX rfl aH7 rfl rfl (aN.aF (H.l 2 rfl) (aK.all _) rfl) (WL.as rfl rfl (WL.nil (WE.ret ?_))))
  (obtain ⟨tX, uT, H⟩ := H.uE 0 rfl)
  refine ⟨[_], _, (uT _ (.nil _)), ⟨rfl, trivial⟩, ?_⟩
  rw [List.take_of_length_le (Nat.le_refl _)] at tK
  refine ⟨es, H.aL, (by exact (nB hX (H.l 0 rfl)).imp fun _ h => (by have h_ := cO.dM h; rw [← tK.2] at h_; exact h_)), H.fX (H.bJ 0 rfl), tK.1⟩
 ·
  intro e_ ⟨v, es⟩ US xG P0 tK H
  exact tK.elim
theorem k9.part {m : List En} {d b : Nat} (h : k9 m) : k9 (bO m d b) := h.filter _
theorem pC {d : Nat} {m : List En} (h : Pm d m) (hd : d < 256) : kO (grow (d + 1) (bO m d 0)) (grow (d + 1) (bO m d 1)) = grow d m := by
 match m, h with
 | [], _ => simp [bO, eM, kO]
 | [e], _ =>
  have hb := eA e.k d
  rw [dR]
  by_cases h0 : bI e.k d = 0
  ·
   have e0 : bO [e] d 0 = [e] := by simp [bO, h0]
   have e1 : bO [e] d 1 = [] := by simp [bO, h0]
   rw [e0, e1, dR, eM]; rfl
  ·
   have e0 : bO [e] d 0 = [] := by simp [bO, h0]
   have e1 : bO [e] d 1 = [e] := by simp [bO]; omega
   rw [e0, e1, dR, eM]; rfl
 | a :: b :: m, h =>
  rw [iU d _ hd (by simp)]
  exact FD (by rw [(h.part hd 0).gC, (h.part hd 1).gC, n9]; simp)
theorem sV (m : List En) (k : List UInt8) (d b : Nat) : bO (fJ m k) d b = fJ (bO m d b) k := by
 unfold bO fJ
 rw [List.filter_filter, List.filter_filter]
 apply List.filter_congr
 intro e _
 rw [Bool.and_comm]
theorem uL {m : List En} {k : List UInt8} {d b : Nat} (hb : bI k d ≠ b) : fJ (bO m d b) k = bO m d b := by
 unfold fJ
 rw [List.filter_eq_self]
 intro e he
 have := (iJ.1 he).2
 simp
 rintro rfl
 exact hb this
theorem SF {e x : En} {l : List En} (h : num e.k < num x.k) : ins e (x :: l) = e :: x :: l := if_pos h
theorem SG {e x : En} {l : List En} (h : ¬ num e.k < num x.k) : ins e (x :: l) = x :: ins e l := if_neg h
theorem yF {e : En} {p : En → Bool} : ∀ {l : List En}, k9 l → (ins e l).filter p = if p e then ins e (l.filter p) else l.filter p := by
 intro l
 induction l with
 | nil => intro _; cases hp : p e <;> simp [ins, hp]
 | cons x l ih =>
  intro hs
  have h1 := List.pairwise_cons.1 hs
  by_cases hl : num e.k < num x.k
  ·
   rw [SF hl]
   cases hp : p e
   ·
    simp [List.filter_cons, hp]
   ·
    rw [List.filter_cons_of_pos hp, if_pos rfl]
    have hall : ∀ y ∈ (x :: l).filter p, num e.k < num y.k := fun y hy => by
     rcases List.mem_cons.1 (List.mem_filter.1 hy).1 with rfl | hy
     ·
      exact hl
     ·
      exact Nat.lt_trans hl (h1.1 y hy)
    generalize (x :: l).filter p = q at *
    cases q with
    | nil => rfl
    | cons y q => exact (SF (hall y (by simp))).symm
  ·
   rw [SG hl, List.filter_cons, ih h1.2]
   cases hx : p x
   ·
    rw [List.filter_cons, hx]; rfl
   ·
    rw [List.filter_cons, hx]
    cases hp : p e
    ·
     rfl
    ·
     show x :: ins e _ = ins e (x :: _)
     rw [SG hl]
theorem AY {m : List En} {e : En} {d : Nat} (hs : k9 m) : bO (iC m e) d (bI e.k d) = iC (bO m d (bI e.k d)) e := by
 unfold iC
 have := yF (e := e) (p := fun x => bI x.k d == bI e.k d) (hs.filter (p := fun x => decide (x.k ≠ e.k)))
 unfold bO
 show List.filter _ (ins e (fJ m e.k)) = _
 rw [show fJ m e.k = m.filter fun x => decide (x.k ≠ e.k) from rfl, this]
 rw [if_pos (by simp)]
 congr 1
 exact sV m e.k d (bI e.k d)
theorem xX {m : List En} {e : En} {d b : Nat} (hs : k9 m) (hb : bI e.k d ≠ b) : bO (iC m e) d b = bO m d b := by
 have := yF (e := e) (p := fun x => bI x.k d == b) (hs.filter (p := fun x => decide (x.k ≠ e.k)))
 unfold bO iC
 rw [show fJ m e.k = m.filter fun x => decide (x.k ≠ e.k) from rfl, this]
 rw [if_neg (by simpa using hb)]
 have h2 : bO (fJ m e.k) d b = bO m d b := by rw [sV, uL hb]
 exact h2
def wL (d : Nat) (m : List En) (k : List UInt8) : Prop := ∀ e ∈ m, d ≤ fR e.k k
theorem wL.part {d : Nat} {m : List En} {k : List UInt8} (h : wL d m k) (hd : d < 256) : wL (d + 1) (bO m d (bI k d)) k := fun e he =>
 (BU hd).2 ⟨h e (iJ.1 he).1, (iJ.1 he).2⟩
theorem wL.zero (m : List En) (k : List UInt8) : wL 0 m k := fun _ _ => Nat.zero_le _
theorem aCo {d : Nat} {m : List En} {e : En} (h : Pm d m) (hs : k9 m) (he : e.k.length = 32) (hn : wL d m e.k) : Pm d (iC m e) where
 le := h.le
 kl := CI h.kl he
 OR := (xW hs h.kl he).OR
 com := by
  have hp : ∀ x ∈ iC m e, pre d x.k = pre d e.k := fun x hx => by
   rcases oE.1 hx with rfl | ⟨hx, _⟩
   ·
    rfl
   ·
    exact (CJ (h.kl x hx) he d h.le).2 (hn x hx)
  intro a ha b hb
  rw [hp a ha, hp b hb]
def HN (k : List UInt8) (d : Nat) (n b : Sh) : Sh := if bI k d = 0 then kO n b else kO b n
theorem CZ (k : List UInt8) (d : Nat) (n b : Sh) : (HN k d n b).gC = n.gC + b.gC := by unfold HN; split <;> rw [N4]; omega
def vM (k : List UInt8) (a b : Sh) : Nat → Nat → Sh
 | 0, c => HN k c a b
 | f + 1, d => HN k d (vM k a b f (d + 1)) .nil
theorem NU {a b : En} (ha : a.k.length = 32) (hb : b.k.length = 32) (hne : num a.k ≠ num b.k) : ∀ (f d : Nat), d + f = fR a.k b.k → ∀ m : List En, (m = [a, b] ∨ m = [b, a]) → vM a.k (.leaf a.k a.v) (.leaf b.k b.v) f d = grow d m := by
 have hc : fR a.k b.k < 256 := by
  rcases Nat.lt_or_ge (fR a.k b.k) 256 with h | h
  ·
   exact h
  ·
   exact absurd (congrArg num ((oK ha hb).1 h)) hne
 have nL : ∀ d, d ≤ fR a.k b.k → ∀ m : List En, (m = [a, b] ∨ m = [b, a]) → Pm d m := fun d hd m hm => by
  have hpre := (CJ ha hb d (by omega)).2 hd
  refine ⟨by omega, ?_, ?_, ?_⟩
  ·
   rcases hm with rfl | rfl <;> (intro e he; simp at he; rcases he with rfl | rfl <;> assumption)
  ·
   rcases hm with rfl | rfl <;> simp <;> first | exact hne | exact hne.symm
  ·
   intro x hx y hy
   have h1 : ∀ z ∈ m, pre d z.k = pre d a.k := by rcases hm with rfl | rfl <;> (intro z hz; simp at hz; rcases hz with rfl | rfl <;> simp [hpre])
   rw [h1 x hx, h1 y hy]
 intro f
 induction f with
 | zero =>
  intro d hd m hm
  have ZG : d < 256 := by omega
  have ZJ : bI a.k d ≠ bI b.k d := by rw [show d = fR a.k b.k by omega]; exact (qZ a.k b.k).ne hc
  have h1 := eA a.k d
  have h2 := eA b.k d
  rw [iU d m ZG (by rcases hm with rfl | rfl <;> simp)]
  show HN a.k d _ _ = _
  unfold HN
  by_cases h0 : bI a.k d = 0
  ·
   have HR : bI b.k d = 1 := by omega
   have e0 : bO m d 0 = [a] := by rcases hm with rfl | rfl <;> simp [bO, h0, HR]
   have e1 : bO m d 1 = [b] := by rcases hm with rfl | rfl <;> simp [bO, h0, HR]
   rw [if_pos h0, e0, e1, dR, dR]; rfl
  ·
   have ha1 : bI a.k d = 1 := by omega
   have zR : bI b.k d = 0 := by omega
   have e0 : bO m d 0 = [b] := by rcases hm with rfl | rfl <;> simp [bO, ha1, zR]
   have e1 : bO m d 1 = [a] := by rcases hm with rfl | rfl <;> simp [bO, ha1, zR]
   rw [if_neg h0, e0, e1, dR, dR]; rfl
 | succ f ih =>
  intro d hd m hm
  have ZG : d < 256 := by omega
  have ZJ : bI a.k d = bI b.k d := (qZ a.k b.k).eq d (by omega)
  have h1 := eA a.k d
  show HN a.k d _ _ = _
  have hp : bO m d (bI a.k d) = m := by rcases hm with rfl | rfl <;> simp [bO, ZJ]
  have hq : bO m d (1 - bI a.k d) = [] := by
   have : bI b.k d ≠ 1 - bI b.k d := by rw [← ZJ]; omega
   rcases hm with rfl | rfl <;> simp [bO, ZJ, this]
  have hl : 2 ≤ m.length := by rcases hm with rfl | rfl <;> simp
  rw [ih (d + 1) (by omega) m hm]
  rw [← pC (nL d (by omega) m hm) ZG]
  unfold HN
  by_cases h0 : bI a.k d = 0
  ·
   rw [if_pos h0]
   rw [h0] at hp hq
   rw [hp, show bO m d 1 = [] from hq, eM]
  ·
   have ha1 : bI a.k d = 1 := by omega
   rw [if_neg h0]
   rw [ha1] at hp hq
   rw [hp, show bO m d 0 = [] from hq, eM]
def sX (k v : List UInt8) : Nat → Sh → Sh
 | _, .nil => .leaf k v
 | d, .leaf q u => if q = k then .leaf k v else vM q (.leaf q u) (.leaf k v) (fR q k - d) d
 | d, .inner l r => if bI k d = 0 then kO (sX k v (d + 1) l) r else kO l (sX k v (d + 1) r)
theorem NR (e : En) (he : e.k.length = 32) : ∀ (n d : Nat) (m : List En), 256 - d = n → Pm d m → k9 m → wL d m e.k → sX e.k e.v d (grow d m) = grow d (iC m e) := by
 intro n
 induction n with
 | zero =>
  intro d m hn hp hs HO
  match m, hp, hs, HO with
  | [], _, _, _ => rw [eM]; exact (dR d e).symm
  | [x], hp, hs, HO =>
   rw [dR]
   have hx := hp.kl x (by simp)
   have C8 := HO x (by simp)
   have hd := hp.le
   have WY : x.k = e.k := (oK hx he).1 (by omega)
   show (if x.k = e.k then _ else _) = _
   rw [if_pos WY]
   have : iC [x] e = [e] := by simp [iC, fJ, WY, ins]
   rw [this, dR]
  | a :: b :: m, hp, _, _ => have := hp.lt (by simp); omega
 | succ n ih =>
  intro d m hn hp hs HO
  match m, hp, hs, HO with
  | [], _, _, _ => rw [eM]; exact (dR d e).symm
  | [x], hp, hs, HO =>
   rw [dR]
   have hx := hp.kl x (by simp)
   have C8 := HO x (by simp)
   show (if x.k = e.k then _ else _) = _
   by_cases WY : x.k = e.k
   ·
    rw [if_pos WY]
    have : iC [x] e = [e] := by simp [iC, fJ, WY, ins]
    rw [this, dR]
   ·
    rw [if_neg WY]
    refine NU hx he (fun h => WY (s9 _ _ (by rw [hx, he]) h)) _ d (by omega) _ ?_
    have : fJ [x] e.k = [x] := by simp [fJ, WY]
    unfold iC
    rw [this]
    unfold ins
    split
    ·
     exact .inr rfl
    ·
     exact .inl rfl
  | a :: b :: m, hp, hs, HO =>
   have hd := hp.lt (by simp)
   have hb := eA e.k d
   have aJd := aCo hp hs he HO
   rw [← pC aJd hd, iU d _ hd (by simp)]
   show (if bI e.k d = 0 then _ else _) = _
   by_cases h0 : bI e.k d = 0
   ·
    rw [if_pos h0]
    have hpt := AY (d := d) (e := e) hs
    have hot := xX (d := d) (b := 1) (e := e) hs (by omega)
    have hnp := HO.part hd
    rw [h0] at hpt hnp
    rw [hpt, hot, ih (d + 1) _ (by omega) (hp.part hd 0) hs.part hnp]
   ·
    have h1 : bI e.k d = 1 := by omega
    rw [if_neg h0]
    have hpt := AY (d := d) (e := e) hs
    have hot := xX (d := d) (b := 0) (e := e) hs (by omega)
    have hnp := HO.part hd
    rw [h1] at hpt hnp
    rw [hpt, hot, ih (d + 1) _ (by omega) (hp.part hd 1) hs.part hnp]
theorem xU {d : Nat} {m : List En} (e : En) (he : e.k.length = 32) (hp : Pm d m) (hs : k9 m) (hn : wL d m e.k) : sX e.k e.v d (grow d m) = grow d (iC m e) := NR e he _ d m rfl hp hs hn
theorem Q8 {d : Nat} {m : List En} {k : List UInt8} (h : Pm d m) : Pm d (fJ m k) where
 le := h.le
 kl := RB h.kl
 OR := h.OR.filter _
 com := fun a ha b hb => h.com a (jK.1 ha).1 b (jK.1 hb).1
def WV (k : List UInt8) : Nat → List Sh → Sh → Sh
 | _, [], e => e
 | d, b :: bs, e => HN k d (WV k (d + 1) bs e) b
theorem QO (k : List UInt8) (d : Nat) (bs : List Sh) (e : Sh) (i : Nat) (h : i < bs.length) : WV k (d + i) (bs.drop i) e = HN k (d + i) (WV k (d + (i + 1)) (bs.drop (i + 1)) e) bs[i] := by
 rw [List.drop_eq_getElem_cons h]
 rfl
theorem K2 (k : List UInt8) (e : Sh) : ∀ (bs : List Sh) (d : Nat), (WV k d bs e).gC = e.gC + (bs.map Sh.gC).sum
 | [], _ => by simp [WV]
 | b :: bs, d => by show (HN k d _ _).gC = _; rw [CZ, K2 k e bs]; simp; omega
def oN (T : Tr) (k : List UInt8) (d n : Nat) : List Tr := (List.range n).map fun j => (T.jA k d j).beside k (j + d)
theorem y7 (T : Tr) (k : List UInt8) (d n : Nat) : (oN T k d n).length = n := by simp [oN]
theorem O6 (T : Tr) (k : List UInt8) (d n : Nat) : oN T k d (n + 1) = oN T k d n ++ [(T.jA k d n).beside k (n + d)] := by simp [oN, List.range_succ]
theorem B0 (T : Tr) (k : List UInt8) (d n : Nat) : oN T k d (n + 1) = T.beside k d :: oN (T.step k d) k (d + 1) n := by
 unfold oN
 rw [List.range_succ_eq_map, List.map_cons, List.map_map]
 congr 1
 ·
  show T.beside k (0 + d) = _; rw [Nat.zero_add]
 ·
  apply List.map_congr_left
  intro j _
  show (T.jA k d (j + 1)).beside k (j + 1 + d) = (Tr.jA k (d + 1) (T.step k d) j).beside k (j + (d + 1))
  rw [Tr.oP, show j + 1 + d = j + (d + 1) by omega]
theorem IP (k v : List UInt8) {d : Nat} {T : Tr} (h : T.er.kind = 2) : sX k v d T.er = HN k d (sX k v (d + 1) (T.step k d).er) (T.beside k d).er := by
 obtain ⟨a, l, r, rfl⟩ := Tr.BB h
 have hb := eA k d
 show (if bI k d = 0 then kO (sX k v (d + 1) l.er) r.er else kO l.er (sX k v (d + 1) r.er)) = _
 unfold HN Tr.step Tr.beside Tr.child
 by_cases h0 : bI k d = 0
 ·
  simp only [h0]; rfl
 ·
  have h1 : bI k d = 1 := by omega
  simp only [h1]; rfl
theorem X5 (k v : List UInt8) : ∀ (n d : Nat) (T : Tr), T.dp k d = n → sX k v d T.er = WV k d ((oN T k d n).map Tr.er) (sX k v (n + d) (T.jA k d n).er) := by
 intro n
 induction n with
 | zero => intro d T h; rw [Nat.zero_add]; rfl
 | succ n ih =>
  intro d T h
  have h2 : T.er.kind = 2 := by
   cases T <;> first | rfl | (simp [Tr.dp] at h)
  rw [Tr.qY h2] at h
  rw [IP k v h2, B0, ih (d + 1) (T.step k d) (by omega), Tr.oP, show n + (d + 1) = n + 1 + d by omega]
  rfl
theorem uN (k q v u : List UInt8) (k' : List UInt8) : ∀ (f d : Nat), (vM k' (.leaf k v) (.leaf q u) f d).gC = 2
 | 0, d => by show (HN _ _ _ _).gC = 2; rw [CZ]; rfl
 | f + 1, d => by show (HN _ _ _ _).gC = 2; rw [CZ, uN k q v u k' f (d + 1)]; rfl
theorem aAh (k : List UInt8) : ∀ (n d : Nat) (T : Tr), T.dp k d = n → ((oN T k d n).map fun b => b.er.gC).sum + (T.jA k d n).er.gC = T.er.gC := by
 intro n
 induction n with
 | zero => intro d T _; simp [oN, Tr.jA]
 | succ n ih =>
  intro d T h
  have h2 : T.er.kind = 2 := by
   cases T <;> first | rfl | (simp [Tr.dp] at h)
  rw [Tr.qY h2] at h
  rw [B0, List.map_cons, List.sum_cons, Tr.oP, Nat.add_assoc, ih (d + 1) _ (by omega)]
  obtain ⟨a, l, r, rfl⟩ := Tr.BB h2
  have hb := eA k d
  unfold Tr.step Tr.beside Tr.child
  by_cases h0 : bI k d = 0
  ·
   simp only [h0]; show r.er.gC + l.er.gC = l.er.gC + r.er.gC; omega
  ·
   have h1 : bI k d = 1 := by omega
   simp only [h1]; rfl
theorem EH (l : List Nat) : ∀ n, (l.drop n).sum ≤ l.sum
 | 0 => Nat.le_refl _
 | n + 1 => by
  cases l with
  | nil => simp
  | cons x l => rw [List.drop_succ_cons, List.sum_cons]; exact Nat.le_trans (EH l n) (Nat.le_add_left _ _)
theorem NG {E g : Sh} {bs : List Tr} {k : List UInt8} {d i : Nat} (hc : E.gC + ((bs.map Tr.er).map Sh.gC).sum ≤ 1000000000) (hg : g = WV k (d + (bs.length - i)) ((bs.map Tr.er).drop (bs.length - i)) E) (h : bs.length - 1 - i < bs.length) (hi : i < bs.length) :
  g.gC + (bs[bs.length - 1 - i]).er.gC ≤ 1000000000 := by
 rw [hg, K2, List.map_drop]
 have e : ((bs.map Tr.er).map Sh.gC).drop (bs.length - 1 - i) = (bs[bs.length - 1 - i]).er.gC :: ((bs.map Tr.er).map Sh.gC).drop (bs.length - i) := by
  rw [List.drop_eq_getElem_cons (by simpa using h), List.getElem_map, List.getElem_map, show bs.length - 1 - i + 1 = bs.length - i by omega]
 have := EH ((bs.map Tr.er).map Sh.gC) (bs.length - 1 - i)
 rw [e, List.sum_cons] at this
 omega
theorem CK {X : Nat → Prop} {w : World} {bh bc : Nat} {bits c0 : Int} {n b : Tr} {k : List UInt8} {d : Nat} (hX : c6 X w) (fA : aN w bc 213 ([.int .i64 c0])) (bT : aH (fun c_ => X c_ ∨ c_ = bc) (fO bh bc bits) w) (dJ : aH (fun c_ => X c_ ∨ c_ = bc) (cV bits n) w) (fQ : aH (fun c_ => X c_ ∨ c_ = bc) (cV bits b) w) (jW : aH (fun c_ => X c_ ∨ c_ = bc) (aZ) w) (bU : 0 ≤ bits ∧ bits ≤ 256) (hk : k.length = 32) (hd : d < 256) (TD : n.er.gC + b.er.gC ≤ 1000000000) :
  bC prog 136 [.pointer (some ⟨bh, 0, none⟩), n.ptr, b.ptr, .agg (kc k).toArray, .int .i64 (d : Int)].toArray w fun v w' => ∃ (T : Tr) (m : Int), v = T.ptr ∧ T.er = HN k d n.er b.er ∧ Out (· = bc) w w' ∧ aN w' bc 213 [.int .i64 m] ∧ aH (fun c => X c ∨ c = bc) (cV bits T) w' := by
 refine bC.aI (N := 23) func136 rfl rfl (by simp) ?_
 have H := ((((St.dK (b := bc) (t := 213) (l := [.int .i64 c0]) hX fA).add (cC jW)).add (cC fQ)).add (cC dJ)).add (cC bT)
 refine WE.aA ?_
 refine WL.box (l := kc k) H rfl rfl rfl ?_
 intro b8 w1 H
 refine WL.as rfl rfl (WL.nil (WE.seq (WE.aA ?_)))
 refine WL.bE rfl c7 rfl rfl (aN.aF (H.l 0 rfl) (aK.all _) rfl) (cI cM (by simp only [aS, aY, aB]; omega)) ?_
 refine WL.mv rfl rfl ?_
 refine WL.call F4 rfl (j7 (k := k) (d := d) H.aR  (by assumption) (by assumption)) ?_
 rintro _ w2 ⟨rfl, hO⟩
 replace H := H.out hO
 refine WL.pv (PV.eql rfl rfl rfl) rfl (WL.nil ?_)
 refine WE.cond rfl (fun pG => ?_) (fun pG => ?_)
 ·
  try simp only [bP] at pG
  have zR : bI k d = 0 := by omega
  refine WE.aA (WL.mv rfl rfl (WL.mv rfl rfl (WL.mv rfl rfl ?_)))
  refine WL.call F7 rfl (zK (l := n) (r := b) (bits := bits) H.aR (H.o 0 rfl) (by exact H.aO 0 rfl 0 rfl) (by exact H.aO 0 rfl 1 rfl) (by exact H.aO 0 rfl 2 rfl) (by exact H.aO 0 rfl 3 rfl) bU (by omega)) ?_
  rintro _ w3 ⟨aKN, aLh, rfl, aFR, hO, hB, hR⟩
  replace H := H.dP 0 rfl hO hB hR
  refine WL.as rfl rfl (WL.nil (WE.ret ⟨[_], _, .nil _, ⟨rfl, trivial⟩, ?_⟩))
  exact ⟨aKN, _, rfl, aFR.trans (if_pos zR).symm, H.cT, H.o 0 rfl, H.gA (H.bJ 0 rfl)⟩
 ·
  try simp only [bP] at pG
  have zR : bI k d ≠ 0 := by omega
  refine WE.skip (WE.aA (WL.mv rfl rfl (WL.mv rfl rfl (WL.mv rfl rfl ?_))))
  refine WL.call F7 rfl (zK (l := b) (r := n) (bits := bits) H.aR (H.o 0 rfl) (by exact H.aO 0 rfl 0 rfl) (by exact H.aO 0 rfl 2 rfl) (by exact H.aO 0 rfl 1 rfl) (by exact H.aO 0 rfl 3 rfl) bU (by omega)) ?_
  rintro _ w4 ⟨aKL, aLg, rfl, aFP, hO, hB, hR⟩
  replace H := H.dP 0 rfl hO hB hR
  refine WL.as rfl rfl (WL.nil (WE.ret ⟨[_], _, .nil _, ⟨rfl, trivial⟩, ?_⟩))
  exact ⟨aKL, _, rfl, aFP.trans (if_neg zR).symm, H.cT, H.o 0 rfl, H.gA (H.bJ 0 rfl)⟩
theorem aDG {X : Nat → Prop} {w : World} {bh bc aa ab : Nat} {bits c0 : Int} {q u k vv : List UInt8} {sa sb : Value} {d : Nat} (hX : c6 X w) (fA : aN w bc 213 ([.int .i64 c0])) (bT : aH (fun c_ => X c_ ∨ c_ = bc) (fO bh bc bits) w) (dJ : aH (fun c_ => X c_ ∨ c_ = bc) (cV bits (Tr.leaf aa q u sa)) w) (fQ : aH (fun c_ => X c_ ∨ c_ = bc) (cV bits (Tr.leaf ab k vv sb)) w) (jW : aH (fun c_ => X c_ ∨ c_ = bc) (aZ) w) (bU : 0 ≤ bits ∧ bits ≤ 256) (hq : q.length = 32) (hk : k.length = 32) (hdc : d ≤ fR q k) (aJB : fR q k < 256) :
  bC prog 138 [.pointer (some ⟨bh, 0, none⟩), (Tr.leaf aa q u sa).ptr, (Tr.leaf ab k vv sb).ptr, .int .i64 (d : Int)].toArray w fun v w' => ∃ (T : Tr) (m : Int), v = T.ptr ∧ T.er = (vM q (.leaf q u) (.leaf k vv) (fR q k - d) d) ∧ Out (· = bc) w w' ∧ aN w' bc 213 [.int .i64 m] ∧ aH (fun c => X c ∨ c = bc) (cV bits T) w' := by
 refine bC.aI (N := 40) func138 rfl rfl (by simp) ?_
 have H := ((((St.dK (b := bc) (t := 213) (l := [.int .i64 c0]) hX fA).add (cC jW)).add (cC fQ)).add (cC dJ)).add (cC bT)
 have hvu := fY bits u
 have hvv := fY bits vv
 refine WE.aA (WL.as rfl rfl (WL.nil (WE.aA (WL.mv rfl rfl ?_))))
 refine WL.call F5 rfl (show bC _ _ _ _ (fun v w' => v = .agg (kc q ++ kc (nI bits u)).toArray ∧ Out Nil _ w') from nH (T := (Tr.leaf aa q u sa)) (bits := bits) H.aR (H.bJ 1 rfl)) ?_
 rintro _ w1 ⟨rfl, hO⟩
 replace H := H.out hO
 refine WL.pv (PV.lV rfl kK rfl (eG.agg c7 (cI cM (by simp only [aS, aY, aB]; omega)) (aK.l (aK.all _)))) rfl ?_
 refine WL.alloc H rfl q7 rfl ?_
 intro b9 w2 H
 refine WL.aW H 0 rfl rfl rfl (new := kc q) rfl (cI cM (by simp only [aS, aY, aB]; omega)) (bH _) (Laid.at (Laid.all (by simp only [aS, aY, aB]; omega)) rfl) rfl ?_
 intro w3 H
 refine WL.nil ?_
 refine WE.bG (.take 0 (.take 1 (.aG 2 (.take 3 (.aG 4 (.take 5 .done)))))) mixed (by kernel_rfl) ?_
 replace H := H.out (Out.drew _)
 refine WP.dO rfl rfl rfl c7 rfl (aN.aF (H.l 0 rfl) (aK.all _) rfl) (cI cM (by simp only [aS, aY, aB]; omega)) ?_
 refine WP.mv rfl rfl rfl (WP.aG rfl ?_)
 refine WL.call F5 rfl (show bC _ _ _ _ (fun v_ w' => v_ = .agg (kc k ++ kc (nI bits vv)).toArray ∧ Out Nil _ w') from nH (T := (Tr.leaf ab k vv sb)) (bits := bits) H.aR (H.bJ 2 rfl)) ?_
 rintro _ w4 ⟨rfl, hO⟩
 replace H := H.out hO
 refine WL.nil ⟨(fa (rk hO) c8), ?_⟩
 refine WP.aC rfl rfl (PV.lV rfl kK rfl (eG.agg c7 (cI cM (by simp only [aS, aY, aB]; omega)) (aK.l (aK.all _)))) ?_
 refine WP.aG rfl ?_
 refine WL.call T8 rfl (zN (a := q) (b := k) H.aR  (by assumption) (by assumption)) ?_
 rintro _ w5 ⟨rfl, hO⟩
 replace H := H.out hO
 refine WL.nil ⟨(fa (nw 4 0) c8), ?_⟩
 refine WP.as rfl rfl rfl (WP.done (WE.aA (WL.mv rfl rfl (WL.mv rfl rfl (WL.mv rfl rfl ?_)))))
 refine WL.bE rfl c7 rfl rfl (aN.aF (H.l 0 rfl) (aK.all _) rfl) (cI cM (by simp only [aS, aY, aB]; omega)) ?_
 refine WL.mv rfl rfl ?_
 refine WL.call UB rfl (CK (n := (Tr.leaf aa q u sa)) (b := (Tr.leaf ab k vv sb)) (k := q) (d := fR q k) (bits := bits) H.aR (H.o 0 rfl) (by exact H.aO 0 rfl 0 rfl) (by exact H.aO 0 rfl 1 rfl) (by exact H.aO 0 rfl 2 rfl) (by exact H.aO 0 rfl 3 rfl) bU hq aJB (by show 1 + 1 ≤ _; omega)) ?_
 rintro _ w6 ⟨aKK, aIW, rfl, aFO, hO, hB, hR⟩
 replace H := H.dP 0 rfl hO hB hR
 refine WL.as rfl rfl (WL.nil (WE.seq (WE.aA (WL.mv rfl rfl ?_))))
 refine WL.pv (PV.eq (v' := .int .i64 (((fR q k - 0 : Nat) : Int) - 1)) (PV.gE rfl rfl rfl (by omega) (by omega)) rfl) rfl ?_
 refine WL.as rfl rfl (WL.nil (WE.block ?_))
 refine WE.loop (α := Nat × Tr × Int) (rg [(11, 2), (29, 10)]) (fun g => [(11, g.2.1.ptr), (12, .int .i64 (((fR q k - g.1 : Nat) : Int) - 1))]) (fun g wl => g.1 ≤ fR q k - d ∧ g.2.1.er = (vM q (.leaf q u) (.leaf k vv) g.1 (fR q k - g.1)) ∧ St X w wl [aP.blk bc 213 [.int .i64 g.2.2]] [aP.blk b9 24 (kc q)] [cV bits g.2.1, fO bh bc bits, cV bits (Tr.leaf aa q u sa), cV bits (Tr.leaf ab k vv sb), aZ]) (fun g => fR q k - d - g.1) (0, aKK, aIW) ⟨rfl, rfl, trivial⟩ ⟨Nat.zero_le _, aFO, H⟩ ?_
 intro ⟨f, Tf, c⟩ γ0 w7 hI
 try dsimp only at hI
 obtain ⟨hf, hTf, H⟩ := hI
 refine WE.seq (WE.aA (WL.mv rfl rfl (WL.mv rfl rfl (WL.pv (PV.geq rfl rfl rfl) rfl (WL.nil ?_)))))
 refine WE.cond rfl (fun kW => ?_) (fun kW => ?_)
 ·
  try simp only [bP] at kW
  have hlt : f < fR q k - d := by omega
  have P0 : ((fR q k - f : Nat) : Int) - 1 = ((fR q k - f - 1 : Nat) : Int) := by omega
  rw [P0]
  refine WE.skip (WE.seq (WE.block (WE.dW (WL.mv rfl rfl (WL.mv rfl rfl ?_)))))
  refine WL.bE rfl c7 rfl rfl (aN.aF (H.l 0 rfl) (aK.all _) rfl) (cI cM (by simp only [aS, aY, aB]; omega)) ?_
  refine WL.mv rfl rfl ?_
  refine WL.call UB rfl (CK (n := Tf) (b := .nil) (k := q) (d := fR q k - f - 1) (bits := bits) H.aR (H.o 0 rfl) (by exact H.aO 0 rfl 1 rfl) (by exact H.aO 0 rfl 0 rfl) (by exact fun _ _ => trivial) (by exact H.aO 0 rfl 4 rfl) bU hq (by omega) (by rw [hTf, uN]; show 2 + 0 ≤ _; omega)) ?_
  rintro _ w8 ⟨aKJ, aIV, rfl, aFL, hO, hB, hR⟩
  replace H := H.dP 0 rfl hO hB hR
  refine WL.as rfl rfl (WL.nil (WE.dW (WL.mv rfl rfl ?_)))
  refine WL.pv (PV.eq (v' := .int .i64 (((fR q k - (f + 1) : Nat) : Int) - 1)) (PV.gE rfl rfl rfl (by omega) (by omega)) (by congr 1)) rfl ?_
  refine WL.as rfl rfl (WL.nil ?_)
  exact ⟨(f + 1, aKJ, aIV), (by repeat (first | with_reducible exact bK.refl _ _ | refine bK.dG rfl ?_ | refine bK.bZ rfl ?_ | refine bK.bX rfl ?_)), ⟨rfl, rfl, trivial⟩, rfl, ⟨by dsimp only; omega, by dsimp only; rw [aFL, hTf, show fR q k - f = fR q k - f - 1 + 1 by omega]; exact congrArg (fun z => vM q _ _ (f + 1) z) (by omega), H.rS [0, 2, 3, 4, 5]⟩, (by dsimp only; omega)⟩
 ·
  try simp only [bP] at kW
  have hf_ : f = fR q k - d := by omega
  refine WE.exit (WE.aA (WL.mv rfl rfl (WL.as rfl rfl (WL.nil (WE.ret ⟨[_], _, .nil _, ⟨rfl, trivial⟩, ?_⟩)))))
  refine ⟨Tf, c, rfl, ?_, H.cT, H.o 0 rfl, H.gA (H.bJ 0 rfl)⟩
  rw [hTf, hf_]; exact congrArg (vM q _ _ (fR q k - d)) (by omega)
def aHR (bs : List Tr) (j : Nat) (xs : List Value) (_ : World) : Prop := ∃ h : bs.length - 1 - j < bs.length, xs = [.int .i64 ((bs.length - 1 - j : Nat) : Int), (bs[bs.length - 1 - j]).ptr]
def aDX (bits : Int) (bs : List Tr) (w : World) : Prop := ∀ b ∈ bs, cV bits b w
theorem CA {w : World} {base n : Nat} {e : TypeId} {v : Value} {xs : List Value} (h : w.ownsRow base e 1 v n xs) : kN v xs w := by
 have hl := h.1
 unfold kN
 have := cO.dM h
 rw [show n = xs.length by omega] at this
 exact this
theorem aDq {bits : Int} {T : Tr} {k : List UInt8} {d n : Nat} {w : World} (h : cV bits T w) : aDX bits (oN T k d n) w := fun b hb => by
 obtain ⟨j, _, rfl⟩ := List.mem_map.1 hb
 exact (h.jA j).beside
theorem kN.get {w : World} {s : Value} {bs : List Tr} (h : kN s (bs.map Tr.ptr) w) (i : Nat) (hi : i < bs.length) : dD w (jS s (i * 1)) [(bs[i]).ptr] := by
 have := kN.rd h i (by simpa using hi)
 rwa [List.getElem_map] at this
theorem KT {X : Nat → Prop} {w : World} {s : Value} {cs : List Value} (hX : c6 X w) (bT : aH X (kN s cs) w) :
  bC prog 135 [s].toArray w fun r w' => ∃ b1, r = .func (.func 171) [].toArray [.pointer (some ⟨b1, 0, none⟩)].toArray ∧ Out Nil w w' ∧ aH X (fun w => dD w ⟨b1, 0, none⟩ [s]) w' := by
 refine bC.aI (N := 4) func135 rfl rfl (by simp) ?_
 have H := (St.begin hX).add (cE bT)
 refine WE.aA ?_
 refine WL.box (l := [s]) H rfl (cO.cells (H.p 0 rfl)) rfl ?_
 intro b1 w1 H
 refine WL.as rfl rfl (WL.nil (WE.aA (WL.pv (PV.makeFunc rfl) rfl (WL.as rfl rfl (WL.nil (WE.ret ⟨[_], _, .nil _, ⟨rfl, trivial⟩, ?_⟩))))))
 replace H := H.freeze (i := 0) rfl
 exact ⟨_, rfl, H.aL, H.fX ((H.bJ 0 rfl).imp fun _ h => h.rd)⟩
theorem O8 {C : Nat → Prop} {w : World} {b1 : Nat} {s : Value} {bs : List Tr} (hC : ∀ b, C b → b < w.heap.size) (bT : aH C (fun w => dD w ⟨b1, 0, none⟩ [s]) w) (dJ : aH C (kN s (bs.map Tr.ptr)) w) (hlen : bs.length ≤ 1000000) : VX prog 171 [] [.pointer (some ⟨b1, 0, none⟩)] (bs.length) (aHR bs) Nil C w := by
 intro f J Jx hst j9 N6 iK hf
 show bC prog 171 ([f, .pointer (some ⟨b1, 0, none⟩)] : List Value).toArray w _
 refine bC.aI (N := 19) func171 rfl rfl (by simp) ?_
 have H := ((St.begin (X := C) hC).add (cE dJ)).add (cE bT)
 have zQ : (bs.map Tr.ptr).length = bs.length := List.length_map ..
 refine WE.aA (WL.aX rfl PC rfl rfl (H.p 0 rfl) (WL.pv (PV.dS (H.p 1 rfl : kN s (bs.map Tr.ptr) _) QY rfl) rfl ?_))
 refine WL.pv (PV.eq (v' := .int .i64 (((bs.length - 0 : Nat) : Int) - 1)) (PV.gE rfl rfl rfl (by omega) (by omega)) (by rw [zQ]; rfl)) rfl ?_
 refine WL.as rfl rfl (WL.nil (WE.block ?_))
 refine WE.loop (α := Nat) (rg [(3, 1), (7, 12)]) (fun j => [(3, .int .i64 (((bs.length - j : Nat) : Int) - 1))]) (fun j wl => j ≤ bs.length ∧ J Nil j wl ∧ St C wl wl [] [] [fun w => dD w ⟨b1, 0, none⟩ [s], kN s (bs.map Tr.ptr)]) (fun j => bs.length - j) 0 ⟨rfl, trivial⟩ ⟨Nat.zero_le _, hst Nil w (Out.refl _ _) (fun _ h => h.elim) (fun _ h => h), H⟩ ?_
 intro j γ0 w1 hI
 try dsimp only at hI
 obtain ⟨hj, hJ, H⟩ := hI
 have C1 : ∃ HY, HY = w1 := ⟨_, rfl⟩
 obtain ⟨HY, C1⟩ := C1
 rw [← C1] at hJ H ⊢
 clear C1
 refine WE.seq (WE.aA (WL.mv rfl rfl (WL.pv (PV.geq rfl rfl rfl) rfl (WL.nil ?_))))
 refine WE.cond rfl (fun l8 => ?_) (fun l8 => ?_)
 ·
  try simp only [bP] at l8
  have hlt : j < bs.length := by omega
  have P0 : ((bs.length - j : Nat) : Int) - 1 = ((bs.length - 1 - j : Nat) : Int) := by omega
  rw [P0]
  refine WE.skip (WE.seq (WE.block (WE.aA (WL.mv rfl rfl (WL.mv rfl rfl (WL.aX rfl PC rfl rfl (H.p 0 rfl) (WL.mv rfl rfl ?_)))))))
  refine WL.pv (PV.dX rfl (H.p 1 rfl : kN s (bs.map Tr.ptr) _) QY mI rfl rfl (by omega) (by omega)) rfl (WL.aX rfl iQ rfl rfl (kN.get (H.p 1 rfl) (bs.length - 1 - j) (by omega)) ?_)
  refine WL.iZ rfl rfl (iK Nil j _ HY _ (by omega) hJ H.aL (aH.pure ⟨by omega, rfl⟩)) ?_
  rintro _ w2 ⟨hk, ⟨rfl, hJ⟩ | ⟨rfl, hJ⟩⟩
  ·
   replace H := St.KA (Ps := [fun w => dD w ⟨b1, 0, none⟩ [s], kN s (bs.map Tr.ptr)]) hC hk (fun _ h => h.elim) (by intro p hp; simp at hp; rcases hp with rfl | rfl <;> assumption)
   refine WL.pv (PV.not rfl rfl) rfl (WL.nil (WE.jF rfl (WE.skip (WE.dW (WL.mv rfl rfl ?_)))))
   refine WL.pv (PV.eq (v' := .int .i64 (((bs.length - (j + 1) : Nat) : Int) - 1)) (PV.gE rfl rfl rfl (by omega) (by omega)) (by congr 1; omega)) rfl ?_
   refine WL.as rfl rfl (WL.nil ?_)
   exact ⟨j + 1, (by repeat (first | with_reducible exact bK.refl _ _ | refine bK.dG rfl ?_ | refine bK.bZ rfl ?_ | refine bK.bX rfl ?_)), ⟨rfl, trivial⟩, rfl, ⟨by omega, hJ, H⟩, (by omega)⟩
  ·
   refine WL.pv (PV.not rfl rfl) rfl (WL.nil (WE.kZ rfl (WE.ret ?_)))
   refine ⟨[], _, .nil _, trivial, ?_⟩
   exact ⟨rfl, Nil, .inr hJ⟩
 ·
  try simp only [bP] at l8
  have hj_ : j = bs.length := by omega
  refine WE.exit ?_
  refine ⟨[], _, .nil _, trivial, ?_⟩
  subst hj_
  exact ⟨rfl, Nil, .inl (j9 _ _ _ _ hJ H.aL)⟩
theorem aB5 {X : Nat → Prop} {w : World} {bh bc b9 b4 b6 b7 : Nat} {bits c0 : Int} {E : Tr} {bs : List Tr} {k : List UInt8} {s sl : Value} {d : Nat} (hX : c6 X w) (fA : aN w bc 213 ([.int .i64 c0])) (bT : aH (fun c_ => X c_ ∨ c_ = bc) (fO bh bc bits) w) (dJ : aH (fun c_ => X c_ ∨ c_ = bc) (cV bits E) w) (fQ : aH (fun c_ => X c_ ∨ c_ = bc) (aDX bits bs) w) (jW : aH (fun c_ => X c_ ∨ c_ = bc) (kN sl (bs.map Tr.ptr)) w) (nM : aH (fun c_ => X c_ ∨ c_ = bc) (fun w => dD w ⟨b9, 0, none⟩ [sl]) w) (sK : aH (fun c_ => X c_ ∨ c_ = bc) (fun w => dD w ⟨b4, 0, none⟩ [.pointer (some ⟨bh, 0, none⟩)]) w) (DZ : aH (fun c_ => X c_ ∨ c_ = bc) (fun w => dD w ⟨b6, 0, none⟩ (kc k ++ [s])) w) (hf7 : aH (fun c_ => X c_ ∨ c_ = bc) (fun w => dD w ⟨b7, 0, none⟩ [.int .i64 (d : Int)]) w) (hf8 : aH (fun c_ => X c_ ∨ c_ = bc) (aZ) w) (bU : 0 ≤ bits ∧ bits ≤ 256) (hk : k.length = 32) (hd : d + bs.length ≤ 256) (TD : E.er.gC + ((bs.map Tr.er).map Sh.gC).sum ≤ 1000000000) :
  bC prog 134 [E.ptr, .pointer (some ⟨b9, 0, none⟩), .pointer (some ⟨b4, 0, none⟩), .pointer (some ⟨b6, 0, none⟩), .pointer (some ⟨b7, 0, none⟩)].toArray w fun v w' => ∃ (T : Tr) (m : Int), v = T.ptr ∧ T.er = WV k d (bs.map Tr.er) E.er ∧ Out (· = bc) w w' ∧ aN w' bc 213 [.int .i64 m] ∧ aH (fun c => X c ∨ c = bc) (cV bits T) w' := by
 refine bC.aI (N := 23) func134 rfl rfl (by simp) ?_
 have H := (((((((((St.dK (b := bc) (t := 213) (l := [.int .i64 c0]) hX fA).add (cC hf8)).add (cC hf7)).add (cC DZ)).add (cC sK)).add (cC nM)).add (cC jW)).add (cC fQ)).add (cC dJ)).add (cC bT)
 refine WE.aA ?_
 refine WL.box (l := [E.ptr]) H rfl rfl rfl ?_
 intro b5 w1 H
 refine WL.as rfl rfl (WL.nil (WE.seq (WE.aA (WL.aX rfl PC rfl rfl (H.p 4 rfl) ?_))))
 refine WL.call aHe rfl (KT (s := sl) (cs := bs.map Tr.ptr) H.aR (by exact H.bJ 3 rfl) ) ?_
 rintro _ w2 ⟨aHQ, rfl, hO, hR⟩
 replace H := (H.out hO).add hR
 refine WL.nil (WE.block ?_)
 replace H := H.rS [0, 1, 2, 3, 4, 5, 6, 7, 8, 9]
 replace H := H.wP
 refine WE.xS (α := Tr × Int) (fun i g => g.1.er = WV k (d + (bs.length - i)) ((bs.map Tr.er).drop (bs.length - i)) E.er) (fun i g => [aP.blk bc 213 [.int .i64 g.2]]) (fun i g => [aP.blk b5 39 [g.1.ptr]]) (fun i g => [fun w => dD w ⟨aHQ, 0, none⟩ [sl], fO bh bc bits, cV bits g.1, aDX bits bs, kN sl (bs.map Tr.ptr), fun w => dD w ⟨b9, 0, none⟩ [sl], fun w => dD w ⟨b4, 0, none⟩ [.pointer (some ⟨bh, 0, none⟩)], fun w => dD w ⟨b6, 0, none⟩ (kc k ++ [s]), fun w => dD w ⟨b7, 0, none⟩ [.int .i64 (d : Int)], aZ]) (fun _ _ => False) (fun _ _ => []) (fun _ _ => []) (fun _ _ => []) (E, c0) H rfl aGT (fun W0 hO => O8 (bs := bs) (H.U2 hO) (H.sD hO 0 rfl) (H.sD hO 4 rfl) (by omega)) (by rintro _ _ _ ⟨_, rfl⟩; rfl) ⟨by show E.er = _; rw [Nat.sub_zero, List.drop_eq_nil_of_le (by simp)]; rfl, rfl, rfl, rfl⟩ ?_ ?_ ?_
 ·
  intro i g xs_ l_ d_ o_ T_ sc_ w3 jM tK OE
  obtain ⟨N8, rfl⟩ := OE
  have hud := QO k d (bs.map Tr.er) E.er (bs.length - 1 - i) (by simpa using N8)
  rw [List.getElem_map] at hud
  have D2 : g.1.er.gC + (bs[bs.length - 1 - i]).er.gC ≤ 1000000000 := NG TD tK N8 jM
  refine WE.aA (WL.as rfl rfl (WL.nil (WE.dW (WL.as rfl rfl (WL.nil ?_)))))
  refine ⟨rfl, rfl, rfl, ?_⟩
  intro w4 H
  refine WE.block (WE.dW (WL.aX rfl wK rfl rfl (H.p 7 rfl) (WL.aX rfl iQ rfl rfl (aN.aF (H.l 0 rfl) (aK.all _) rfl) (WL.mv rfl rfl (WL.pv (PV.fieldAddr rfl gK rfl) rfl ?_)))))
  refine WL.bE rfl c7 rfl rfl (dD.aF (H.p 8 rfl) (aK.l (aK.all (kc k))) rfl) (cI cM (by simp only [aS, aY, aB]; omega)) ?_
  refine WL.aX rfl l9 rfl rfl (H.p 9 rfl) (WL.mv rfl rfl ?_)
  refine WL.pv (PV.eq (v' := .int .i64 ((d + (bs.length - 1 - i) : Nat) : Int)) (PV.bV rfl rfl rfl (by omega) (by omega)) rfl) rfl ?_
  refine WL.call UB rfl (CK (n := g.1) (b := bs[bs.length - 1 - i]) (k := k) (d := d + (bs.length - 1 - i)) (bits := bits) H.aR (H.o 0 rfl) (by exact H.aO 0 rfl 2 rfl) (by exact H.aO 0 rfl 3 rfl) (by exact (H.aO 0 rfl 4 rfl).imp fun _ h => h _ (List.getElem_mem N8)) (by exact H.aO 0 rfl 10 rfl) bU hk (by omega) D2) ?_
  rintro _ w5 ⟨aKM, aIX, rfl, aFQ, hO, hB, hR⟩
  replace H := H.dP 0 rfl hO hB hR
  refine WL.aW H 0 rfl rfl rfl (new := _) rfl (by exact mI) (bB _ rfl) (Laid.at (Laid.all (by simp only [aS, aY, aB])) rfl) rfl ?_
  intro w6 H
  refine WL.nil ?_
  replace H := H.rS [2, 3, 0, 5, 6, 7, 8, 9, 10, 11, 12]
  exact ⟨(aKM, aIX), (by dsimp only; rw [aFQ, tK, show bs.length - (i + 1) = bs.length - 1 - i by omega, hud, show bs.length - i = bs.length - 1 - i + 1 by omega]), H⟩
 ·
  intro g US w7 tK H
  refine WE.aA (WL.aX rfl iQ rfl rfl (aN.aF (H.l 1 rfl) (aK.all _) rfl) (WL.as rfl rfl (WL.nil (WE.ret ?_))))
  (obtain ⟨w8, uT, H⟩ := H.uE 0 rfl)
  refine ⟨[_], _, (uT _ (.nil _)), ⟨rfl, trivial⟩, ?_⟩
  refine ⟨g.1, g.2, rfl, ?_, H.cT, H.o 0 rfl, H.gA (H.bJ 2 rfl)⟩
  rw [tK, Nat.sub_self]; rfl
 ·
  intro e_ g US w9 P0 tK H
  exact tK.elim
theorem BN (F : Tr) (h : F.er.kind ≠ 2) : F = .nil ∨ ∃ a q u s, F = .leaf a q u s := by
 cases F with
 | nil => exact .inl rfl
 | leaf a q u s => exact .inr ⟨a, q, u, s, rfl⟩
 | inner => exact absurd rfl h
theorem DP {k : List UInt8} {d : Nat} {T : Tr} (e : Sh) (hc : T.er.gC ≤ 100000000) (he : e.gC ≤ 2) : e.gC + (((oN T k d (T.dp k d)).map Tr.er).map Sh.gC).sum ≤ 1000000000 := by
 have := aAh k _ d T rfl
 rw [List.map_map]
 show e.gC + ((oN T k d (T.dp k d)).map fun b => b.er.gC).sum ≤ _
 omega
theorem xV {k v : List UInt8} {d : Nat} {T : Tr} {e : Sh} (he : sX k v (T.dp k d + d) (T.jA k d (T.dp k d)).er = e) : WV k d ((oN T k d (T.dp k d)).map Tr.er) e = sX k v d T.er := by
 rw [X5 k v _ d T rfl, he]
theorem R4 {T : Tr} {m : List En} {k q u : List UInt8} {d a : Nat} {s : Value} (hT : T.er = grow d m) (hp : Pm d m) (hn : wL d m k) (hF : T.jA k d (T.dp k d) = .leaf a q u s) : T.dp k d + d ≤ fR q k := by
 have h : ∀ i, i ≤ T.dp k d → wL (i + d) (GV k d m i) k := by
  intro i
  induction i with
  | zero => intro _; rw [Nat.zero_add]; exact hn
  | succ i ih =>
   intro hi
   have hl := VD (k := k) hT hp (i := i) (by omega)
   have := (ih (by omega)).part hl.2
   rwa [show i + d + 1 = i + 1 + d by omega] at this
 have h1 := h _ (Nat.le_refl _)
 have h2 := GU (k := k) hT hp _ (Nat.le_refl _)
 have hl := J6 (k := k) hT hp
 rw [hF] at h2
 match hm : GV k d m (T.dp k d), hl with
 | [], _ => rw [hm, eM] at h2; cases h2.1
 | [e], _ =>
  rw [hm, dR] at h2
  have e1 : (Sh.leaf q u) = Sh.leaf e.k e.v := h2.1
  injection e1 with e1 _
  rw [hm] at h1
  rw [e1]
  exact h1 e (by simp)
 | _ :: _ :: _, h => simp at h
theorem X6 {X : Nat → Prop} {w : World} {bh bc : Nat} {bits c0 : Int} {T : Tr} {M : List En} {k lv : List UInt8} {s : Value} {d : Nat} (hX : c6 X w) (fA : aN w bc 213 ([.int .i64 c0])) (bT : aH (fun c_ => X c_ ∨ c_ = bc) (fO bh bc bits) w) (dJ : aH (fun c_ => X c_ ∨ c_ = bc) (cV bits T) w) (fQ : aH (fun c_ => X c_ ∨ c_ = bc) (aZ) w) (bU : 0 ≤ bits ∧ bits ≤ 256) (hk : k.length = 32) (rY : lv.length ≤ 1000000) (hw : aH (fun c => c = bc) (bL s lv) w) (hT : T.er = grow d M) (nL : Pm d M) (hs : k9 M) (HO : wL d M k) (zQ : M.length ≤ 100000000) :
  bC prog 90 [.pointer (some ⟨bh, 0, none⟩), T.ptr, .agg (kc k ++ [s]).toArray, .int .i64 (d : Int)].toArray w fun v w' => ∃ (T : Tr) (m : Int), v = T.ptr ∧ T.er = grow d (iC M ⟨k, s, lv⟩) ∧ Out (· = bc) w w' ∧ aN w' bc 213 [.int .i64 m] ∧ aH (fun c => X c ∨ c = bc) (cV bits T) w' := by
 refine bC.aI (N := 59) func90 rfl rfl (by simp) ?_
 have H := (((St.dK (b := bc) (t := 213) (l := [.int .i64 c0]) hX fA).add (cC fQ)).add (cC dJ)).add (cC bT)
 have hs1 : s.oneCell' = true := cO.fW hw.here
 have hfit := tL nL
 rw [← hT] at hfit
 have D0 := Tr.yX (k := k) _ d T rfl hfit nL.le
 have D2 : T.er.gC = M.length := by rw [hT]; exact nL.gC
 have hFk := Tr.q5 (k := k) _ d T rfl
 refine WE.aA ?_
 refine WL.box (l := [.pointer (some ⟨bh, 0, none⟩)]) H rfl (rfl) rfl ?_
 intro b4 w1 H
 refine WL.box (l := kc k ++ [s]) H rfl (rfl) rfl ?_
 intro b6 w2 H
 refine WL.box (l := [.int .i64 (d : Int)]) H rfl (rfl) rfl ?_
 intro b7 w3 H
 refine WL.as rfl rfl (WL.nil (WE.aA ?_))
 refine WL.alloc H rfl aDZ rfl ?_
 intro b9 w4 H
 replace H := H.kU 39 1
 refine WL.nil (WE.aA (WL.aX rfl l9 rfl rfl (aN.aF (H.l 2 rfl) (aK.all _) rfl) (WL.as rfl rfl (WL.nil (WE.seq (WE.block ?_))))))
 refine WE.loop (α := Nat × Value) (rg [(1, 1), (10, 2), (15, 19)]) (fun p => [(1, (T.jA k d p.1).ptr), (10, .int .i64 ((p.1 + d : Nat) : Int))]) (fun p wl => p.1 ≤ T.dp k d ∧ St X w wl [aP.blk bc 213 [.int .i64 c0]] [aP.gZ w.heap.size p.2 39 1 p.1 ((oN T k d p.1).map Tr.ptr), aP.blk b9 86 [p.2], aP.blk b7 3 [.int .i64 (d : Int)], aP.blk b6 111 (kc k ++ [s]), aP.blk b4 37 [.pointer (some ⟨bh, 0, none⟩)]] [fO bh bc bits, cV bits T, aZ]) (fun p => T.dp k d - p.1) (0, .slice none 0 0) ⟨rfl, by show Value.int .i64 _ = Value.int .i64 _; rw [Nat.zero_add], trivial⟩ ⟨Nat.zero_le _, H⟩ ?_
 intro ⟨i, q⟩ γ0 w5 hI
 try dsimp only at hI
 obtain ⟨hi, H⟩ := hI
 refine WE.seq (WE.aA (WL.mv rfl rfl ?_))
 refine WL.call mE rfl (e8 (T := T.jA k d i) (bits := bits) H.aR (by exact (H.bJ 1 rfl).imp fun _ h => h.jA i)) ?_
 rintro _ w6 ⟨rfl, hO⟩
 replace H := H.out hO
 refine WL.pv (PV.eql rfl rfl rfl) rfl (WL.nil ?_)
 refine WE.cond rfl (fun iW => ?_) (fun iW => ?_)
 ·
  try simp only [bP] at iW
  have hlt : i < T.dp k d := by rcases Nat.lt_or_ge i (T.dp k d) with h | h; exact h; exact absurd (show (T.jA k d i).er.kind = 2 by exact iW) (by rw [show i = T.dp k d by omega]; exact hFk)
  have hb2 := eA k (i + d)
  refine WE.skip (WE.seq (WE.block (WE.aA (WL.pv (PV.fieldAddr rfl gK rfl) rfl ?_))))
  refine WL.bE rfl c7 rfl rfl (aN.aF (H.l 3 rfl) (aK.l (aK.all _)) rfl) (cI cM (by simp only [aS, aY, aB]; omega)) ?_
  refine WL.mv rfl rfl ?_
  refine WL.call F4 rfl (j7 (k := k) (d := i + d) H.aR  (by assumption) (by omega)) ?_
  rintro _ w7 ⟨rfl, hO⟩
  replace H := H.out hO
  refine WL.as rfl rfl (WL.nil ?_)
  refine WE.bG (.take 0 (.take 1 (.take 2 (.take 3 (.aG 4 (.aG 5 (.aG 6 (.aG 7 .done)))))))) mixed (by kernel_rfl) ?_
  replace H := H.out (Out.drew _)
  refine WP.aM rfl rfl (RV.aV rfl PC rfl) (aN.aF (H.l 1 rfl) (aK.all _) rfl) (WP.mv rfl rfl rfl (WP.mv rfl rfl rfl ?_))
  refine WP.aC rfl rfl (PV.eq (v' := .int .i64 ((1 - bI k (i + d) : Nat) : Int)) (PV.gE rfl rfl rfl (by omega) (by omega)) (by congr 1; omega)) ?_
  refine WP.aG rfl ?_
  refine WL.call OL rfl (q6 (T := T.jA k d i) (bits := bits) (b := 1 - bI k (i + d)) H.aR (by exact (H.bJ 1 rfl).imp fun _ h => h.jA i)) ?_
  rintro _ w8 ⟨rfl, hO⟩
  replace H := H.out hO
  refine WL.nil ⟨(fa (rk hO) c8), ?_⟩
  refine WP.aG rfl ?_
  refine WL.bA (l0 := [.pointer none]) H rfl XW (by decide) (cW _ _) (Fl.cons rfl rfl (by simp only [aS, aY, aB]) Laid.head Fl.nil) rfl ?_
  intro b29 w9 H
  refine WL.nil ⟨(fa (fun _ _ => (aN.aF (H.l 2 rfl) (aK.all _) rfl)) c8), ?_⟩
  refine WP.aG rfl ?_
  refine WL.append (m := 1) H 1 XW (by decide) rfl rfl rfl (cO.cA (n := 1) (H.l 0 rfl) rfl) (bB _ rfl) (by omega) (by decide) rfl ?_
  intro v30 tX H
  replace H := H.forget 0
  replace H := H.conv (L' := [aP.gZ w.heap.size v30 39 1 (i + 1) ((oN T k d (i + 1)).map Tr.ptr), aP.blk b9 86 [q], aP.blk b7 3 [.int .i64 (d : Int)], aP.blk b6 111 (kc k ++ [s]), aP.blk b4 37 [.pointer (some ⟨bh, 0, none⟩)]]) (by rw [O6, List.map_append]; rfl)
  refine WL.nil ⟨(fa (nw 6 0) c8), ?_⟩
  refine WP.aG rfl ?_
  refine WL.aW H 1 rfl rfl rfl (new := [v30]) (cells_one (jI (H.l 0 rfl))) (by exact aEi) (eF (jI (H.l 0 rfl))) (Laid.at (Laid.all (by simp only [aS, aY, aB])) rfl) rfl ?_
  intro xG H
  refine WL.nil ⟨(fa (nw 7 0) c8), ?_⟩
  refine WP.done (WE.dW (WL.mv rfl rfl (WL.mv rfl rfl ?_)))
  refine WL.call OL rfl (q6 (T := T.jA k d i) (bits := bits) (b := bI k (i + d)) H.aR (by exact (H.bJ 1 rfl).imp fun _ h => h.jA i)) ?_
  rintro _ HL ⟨rfl, hO⟩
  replace H := H.out hO
  refine WL.as rfl rfl (WL.nil (WE.dW (WL.mv rfl rfl ?_)))
  refine WL.pv (PV.eq (v' := .int .i64 ((i + 1 + d : Nat) : Int)) (PV.bV rfl rfl rfl (by omega) (by omega)) (by congr 1; omega)) rfl ?_
  refine WL.as rfl rfl (WL.nil ?_)
  exact ⟨(i + 1, v30), (by repeat (first | with_reducible exact bK.refl _ _ | refine bK.dG rfl ?_ | refine bK.bZ rfl ?_ | refine bK.bX rfl ?_)), ⟨rfl, rfl, trivial⟩, rfl, ⟨by dsimp only; omega, H⟩, (by dsimp only; omega)⟩
 ·
  try simp only [bP] at iW
  have hiD : i = T.dp k d := by rcases Nat.lt_or_ge i (T.dp k d) with h | h; exact absurd (Tr.sH (k := k) i d T h) (by exact iW); omega
  subst hiD
  refine WE.exit ?_
  replace H := ((((H.freeze (i := 0) rfl).freeze (i := 0) rfl).freeze (i := 0) rfl).freeze (i := 0) rfl).freeze (i := 0) rfl
  refine WE.aA (WL.pv (PV.makeFunc rfl) rfl (WL.as rfl rfl (WL.nil (WE.aA (WL.aX rfl wK rfl rfl (aN.aF (H.p 0 rfl) (aK.all _) rfl) ?_)))))
  refine WL.bE rfl pV rfl rfl (aN.aF (H.p 1 rfl) (aK.all _) rfl) (cI fH (by simp only [aS, aY, aB]; omega)) ?_
  refine WL.call aBE rfl (zJ (k := k) (lv := lv) (s := s) (bits := bits) H.aR (H.o 0 rfl) (by exact H.aO 0 rfl 5 rfl) (by exact H.aO 0 rfl 7 rfl) bU rY hk (H.EA H.nA hw rfl)) ?_
  rintro _ DW ⟨aLS, aLb, rfl, aFM, hO, hB, hR⟩
  replace H := H.dP 0 rfl hO hB hR
  obtain ⟨a37, s37, rfl⟩ := Tr.tC aFM
  refine WL.as rfl rfl (WL.nil (WE.seq ?_))
  have aFZ : (T.jA k d (T.dp k d)).key.length = 32 := cV.gY ((dJ.here).jA _)
  have aLL := Tr.aT bits (T.jA k d (T.dp k d))
  refine WE.bG (.take 0 (.aG 1 (.take 2 (.take 3 (.take 4 (.take 7 (.take 8 (.aG 5 (.take 6 (.take 9 (.take 10 .done))))))))))) mixed (by kernel_rfl) ?_
  replace H := H.out (Out.drew _)
  refine WP.mv rfl rfl rfl (WP.aG rfl ?_)
  refine WL.call mE rfl (e8 (T := (T.jA k d (T.dp k d))) (bits := bits) H.aR (by exact (H.bJ 7 rfl).imp fun _ h => h.jA (T.dp k d))) ?_
  rintro _ H9 ⟨rfl, hO⟩
  replace H := H.out hO
  refine WL.nil ⟨c8, ?_⟩
  refine WP.aC rfl rfl (PV.eql rfl rfl rfl) (WP.mv rfl rfl rfl ?_)
  refine WP.split (t := 41) rfl (fun C3 => ?_) (fun C3 => ?_)
  ·
   refine WP.known (t := 40) (c := true) rfl C3 ?_
   try simp only [bP] at C3
   have hFn : (T.jA k d (T.dp k d)) = .nil := by rcases BN (T.jA k d (T.dp k d)) hFk with h | ⟨a, q, u, s, h⟩; exact h; rw [h] at C3; cases C3
   have hend : sX k lv (T.dp k d + d) (T.jA k d (T.dp k d)).er = .leaf k lv := by rw [hFn]; rfl
   refine WP.eD rfl rfl (WP.eD rfl rfl (WP.eD rfl rfl (WP.aG rfl (WL.off rfl ?_))))
   refine WL.nil ⟨c8, ?_⟩
   refine WP.eD rfl rfl (WP.eD rfl rfl (WP.aC rfl rfl (PV.c5 rfl rfl rfl) (WP.done (WE.kZ rfl (WE.aA (WL.mv rfl rfl (WL.mv rfl rfl ?_)))))))
   refine WL.rK UC rfl rfl (aB5 (E := (.leaf a37 k lv s37)) (bs := oN T k d (T.dp k d)) (k := k) (s := s) (sl := q) (d := d) (bits := bits) H.aR (H.o 0 rfl) (by exact H.aO 0 rfl 6 rfl) (by exact H.aO 0 rfl 0 rfl) (by exact (H.aO 0 rfl 7 rfl).imp fun _ h => aDq h) (by exact (H.aO 0 rfl 5 rfl).imp fun _ h => CA h) (by exact (H.aO 0 rfl 4 rfl).imp fun _ h => aN.rd h) (by exact (H.aO 0 rfl 1 rfl).imp fun _ h => aN.rd h) (by exact (H.aO 0 rfl 2 rfl).imp fun _ h => aN.rd h) (by exact (H.aO 0 rfl 3 rfl).imp fun _ h => aN.rd h) (by exact H.aO 0 rfl 8 rfl) bU hk (by rw [y7]; omega) (DP (.leaf k lv) (by omega) (by show 1 ≤ 2; omega))) ?_
   rintro _ ND ⟨aDz, aIU, rfl, TT, hO, hB, hR⟩
   replace H := H.dP 0 rfl hO hB hR
   refine WL.as rfl rfl (WL.nil (WE.ret ⟨[_], _, .nil _, ⟨rfl, trivial⟩, ?_⟩))
   refine ⟨aDz, _, rfl, ?_, H.cT, H.o 0 rfl, H.gA (H.bJ 0 rfl)⟩
   rw [TT]
   exact (xV hend).trans (hT ▸ xU ⟨k, s, lv⟩ hk nL hs HO)
  ·
   refine WP.known (t := 40) (c := false) rfl C3 ?_
   try simp only [bP] at C3
   obtain ⟨af, q_, u_, sf, hFe⟩ : ∃ a q u s, (T.jA k d (T.dp k d)) = .leaf a q u s := by rcases BN (T.jA k d (T.dp k d)) hFk with h | h; rw [h] at C3; exact absurd rfl C3; exact h
   have aFh := R4 hT nL HO hFe
   have WZ : q_.length = 32 := by rw [hFe] at aFZ; exact aFZ
   have aBl : (T.jA k d (T.dp k d)).key = q_ := by rw [hFe]; rfl
   refine WP.mv rfl rfl rfl (WP.aC rfl rfl (PV.fieldAddr rfl gK rfl) ?_)
   refine WP.dO rfl rfl rfl c7 rfl (aN.aF (H.p 2 rfl) (aK.l (aK.all _)) rfl) (cI cM (by simp only [aS, aY, aB]; omega)) ?_
   refine WP.aG rfl ?_
   refine WL.call F5 rfl (nH (T := (T.jA k d (T.dp k d))) (bits := bits) H.aR (by exact (H.bJ 7 rfl).imp fun _ h => h.jA (T.dp k d))) ?_
   rintro _ QL ⟨rfl, hO⟩
   replace H := H.out hO
   refine WL.nil ⟨(fa (rk hO) c8), ?_⟩
   refine WP.aC rfl rfl (PV.lV rfl kK rfl (eG.agg c7 (cI cM (by simp only [aS, aY, aB]; omega)) (aK.l (aK.all _)))) ?_
   refine WP.aC rfl rfl (PV.DM rfl gW mM gO (by kernel_rfl) rfl rfl (by assumption) (by assumption)) (WP.aC rfl rfl (PV.cF rfl rfl rfl) (WP.done ?_))
   refine WE.cond rfl (fun TI => ?_) (fun TI => ?_)
   ·
    try simp only [bP] at TI
    have hend : sX k lv (T.dp k d + d) (T.jA k d (T.dp k d)).er = .leaf k lv := by rw [hFe]; exact if_pos (aBl ▸ (by exact TI))
    refine WE.aA (WL.mv rfl rfl (WL.mv rfl rfl ?_))
    refine WL.rK UC rfl rfl (aB5 (E := (.leaf a37 k lv s37)) (bs := oN T k d (T.dp k d)) (k := k) (s := s) (sl := q) (d := d) (bits := bits) H.aR (H.o 0 rfl) (by exact H.aO 0 rfl 6 rfl) (by exact H.aO 0 rfl 0 rfl) (by exact (H.aO 0 rfl 7 rfl).imp fun _ h => aDq h) (by exact (H.aO 0 rfl 5 rfl).imp fun _ h => CA h) (by exact (H.aO 0 rfl 4 rfl).imp fun _ h => aN.rd h) (by exact (H.aO 0 rfl 1 rfl).imp fun _ h => aN.rd h) (by exact (H.aO 0 rfl 2 rfl).imp fun _ h => aN.rd h) (by exact (H.aO 0 rfl 3 rfl).imp fun _ h => aN.rd h) (by exact H.aO 0 rfl 8 rfl) bU hk (by rw [y7]; omega) (DP (.leaf k lv) (by omega) (by show 1 ≤ 2; omega))) ?_
    rintro _ QK ⟨aDz, aIU, rfl, TT, hO, hB, hR⟩
    replace H := H.dP 0 rfl hO hB hR
    refine WL.as rfl rfl (WL.nil (WE.ret ⟨[_], _, .nil _, ⟨rfl, trivial⟩, ?_⟩))
    refine ⟨aDz, _, rfl, ?_, H.cT, H.o 0 rfl, H.gA (H.bJ 0 rfl)⟩
    rw [TT]
    exact (xV hend).trans (hT ▸ xU ⟨k, s, lv⟩ hk nL hs HO)
   ·
    try simp only [bP] at TI
    have aFc : q_ ≠ k := aBl ▸ (by exact TI)
    have C8 : fR q_ k < 256 := by rcases Nat.lt_or_ge (fR q_ k) 256 with h | h; exact h; exact absurd ((oK WZ hk).1 h) aFc
    refine WE.skip (WE.aA (WL.mv rfl rfl (WL.aX rfl wK rfl rfl (aN.aF (H.p 1 rfl) (aK.all _) rfl) (WL.mv rfl rfl (WL.mv rfl rfl (WL.mv rfl rfl ?_))))))
    rw [hFe]
    refine WL.call aHd rfl (aDG (aa := af) (ab := a37) (q := q_) (u := u_) (k := k) (vv := lv) (sa := sf) (sb := s37) (d := T.dp k d + d) (bits := bits) H.aR (H.o 0 rfl) (by exact H.aO 0 rfl 6 rfl) (by exact (H.aO 0 rfl 7 rfl).imp fun _ h => hFe ▸ (h.jA (T.dp k d))) (by exact H.aO 0 rfl 0 rfl) (by exact H.aO 0 rfl 8 rfl) bU WZ hk aFh C8) ?_
    rintro _ QJ ⟨aId, aK9, rfl, aBo, hO, hB, hR⟩
    replace H := H.dP 0 rfl hO hB hR
    refine WL.rK UC rfl rfl (aB5 (E := aId) (bs := oN T k d (T.dp k d)) (k := k) (s := s) (sl := q) (d := d) (bits := bits) H.aR (H.o 0 rfl) (by exact H.aO 0 rfl 7 rfl) (by exact H.aO 0 rfl 0 rfl) (by exact (H.aO 0 rfl 8 rfl).imp fun _ h => aDq h) (by exact (H.aO 0 rfl 6 rfl).imp fun _ h => CA h) (by exact (H.aO 0 rfl 5 rfl).imp fun _ h => aN.rd h) (by exact (H.aO 0 rfl 2 rfl).imp fun _ h => aN.rd h) (by exact (H.aO 0 rfl 3 rfl).imp fun _ h => aN.rd h) (by exact (H.aO 0 rfl 4 rfl).imp fun _ h => aN.rd h) (by exact H.aO 0 rfl 9 rfl) bU hk (by rw [y7]; omega) (DP aId.er (by omega) (by rw [aBo, uN]; omega))) ?_
    rintro _ w19 ⟨aKH, aK8, rfl, aFJ, hO, hB, hR⟩
    replace H := H.dP 0 rfl hO hB hR
    refine WL.as rfl rfl (WL.nil (WE.ret ⟨[_], _, .nil _, ⟨rfl, trivial⟩, ?_⟩))
    refine ⟨aKH, _, rfl, ?_, H.cT, H.o 0 rfl, H.gA (H.bJ 0 rfl)⟩
    rw [aFJ]
    refine (xV (k := k) (v := lv) ?_).trans (hT ▸ xU ⟨k, s, lv⟩ hk nL hs HO)
    rw [hFe, aBo]; exact if_neg aFc
theorem k9.pm {m : List En} (h : k9 m) (hk : KL m) : Pm 0 m := Pm.zero hk h.OR
theorem aDF {X : Nat → Prop} {w : World} {bh bc : Nat} {bits c0 : Int} {T : Tr} {M : List En} {k lv : List UInt8} {s : Value} (hX : c6 X w) (fA : aN w bc 213 ([.int .i64 c0])) (bT : aH (fun c_ => X c_ ∨ c_ = bc) (fO bh bc bits) w) (dJ : aH (fun c_ => X c_ ∨ c_ = bc) (cV bits T) w) (fQ : aH (fun c_ => X c_ ∨ c_ = bc) (aZ) w) (bU : 0 ≤ bits ∧ bits ≤ 256) (hk : k.length = 32) (rY : lv.length ≤ 1000000) (hw : aH (fun c => c = bc) (bL s lv) w) (hT : T.er = grow 0 M) (hkM : KL M) (hs : k9 M) (zQ : M.length ≤ 100000000) :
  bC prog 50 [.pointer (some ⟨bh, 0, none⟩), T.ptr, .agg (kc k ++ [s]).toArray].toArray w fun v w' => ∃ (T : Tr) (m : Int), v = T.ptr ∧ T.er = grow 0 (iC M ⟨k, s, lv⟩) ∧ Out (· = bc) w w' ∧ aN w' bc 213 [.int .i64 m] ∧ aH (fun c => X c ∨ c = bc) (cV bits T) w' := by
 refine bC.aI (N := 11) func50 rfl rfl (by simp) ?_
 have H := (((St.dK (b := bc) (t := 213) (l := [.int .i64 c0]) hX fA).add (cC fQ)).add (cC dJ)).add (cC bT)
 have hs1 : s.oneCell' = true := cO.fW hw.here
 refine WE.aA ?_
 refine WL.box (l := kc k ++ [s]) H rfl (rfl) rfl ?_
 intro b5 w1 H
 refine WL.as rfl rfl (WL.nil (WE.aA (WL.mv rfl rfl (WL.mv rfl rfl ?_))))
 refine WL.bE rfl pV rfl rfl (aN.aF (H.l 0 rfl) (aK.all _) rfl) (cI fH (by simp only [aS, aY, aB]; omega)) ?_
 refine WL.call aJV rfl (X6 (M := M) (k := k) (lv := lv) (s := s) (d := 0) (bits := bits) H.aR (H.o 0 rfl) (by exact H.aO 0 rfl 0 rfl) (by exact H.aO 0 rfl 1 rfl) (by exact H.aO 0 rfl 2 rfl) bU hk rY (H.EA H.nA hw rfl) hT (hs.pm hkM) hs (wL.zero _ _) zQ) ?_
 rintro _ w2 ⟨aKQ, aLk, rfl, aFU, hO, hB, hR⟩
 replace H := H.dP 0 rfl hO hB hR
 refine WL.as rfl rfl (WL.nil (WE.ret ⟨[_], _, .nil _, ⟨rfl, trivial⟩, ?_⟩))
 exact ⟨aKQ, _, rfl, aFU, H.cT, H.o 0 rfl, H.gA (H.bJ 0 rfl)⟩
def kv (e : En) : List UInt8 × List UInt8 := (e.k, e.v)
theorem LG {m m' : List En} {d b : Nat} (h : m.map kv = m'.map kv) : (bO m d b).map kv = (bO m' d b).map kv := by
 have e : ∀ l : List En, (bO l d b).map kv = (l.map kv).filter fun p => bI p.1 d == b := fun l => by
  unfold bO
  rw [List.filter_map]; rfl
 rw [e, e, h]
theorem TW : ∀ (n d : Nat) (m m' : List En), m.map kv = m'.map kv → F1 n d m = F1 n d m' := by
 intro n
 induction n with
 | zero =>
  intro d m m' h
  match m, m', h with
  | [], [], _ => rfl
  | [a], [b], h => simp [kv] at h; show Sh.leaf _ _ = Sh.leaf _ _; rw [h.1, h.2]
  | [_], _ :: _ :: _, h => simp at h
  | _ :: _ :: _, [_], h => simp at h
  | a :: x :: m, b :: y :: m', h => simp [kv] at h; show Sh.leaf _ _ = Sh.leaf _ _; rw [h.1.1, h.1.2]
 | succ n ih =>
  intro d m m' h
  match m, m', h with
  | [], [], _ => rfl
  | [a], [b], h => simp [kv] at h; show Sh.leaf _ _ = Sh.leaf _ _; rw [h.1, h.2]
  | [_], _ :: _ :: _, h => simp at h
  | _ :: _ :: _, [_], h => simp at h
  | a :: x :: m, b :: y :: m', h =>
   show Sh.inner _ _ = Sh.inner _ _
   rw [ih _ _ _ (LG h), ih _ _ _ (LG h)]
theorem LZ {d : Nat} {m m' : List En} (h : m.map kv = m'.map kv) : grow d m = grow d m' := TW _ d m m' h
theorem k9.ext : ∀ {a b : List En}, k9 a → k9 b → (∀ e, e ∈ a ↔ e ∈ b) → a = b
 | [], [], _, _, _ => rfl
 | [], y :: b, _, _, h => by have := (h y).2 (by simp); cases this
 | x :: a, [], _, _, h => by have := (h x).1 (by simp); cases this
 | x :: a, y :: b, ha, hb, h => by
  have ha1 := List.pairwise_cons.1 ha
  have HR := List.pairwise_cons.1 hb
  have hxy : x = y := by
   rcases List.mem_cons.1 ((h x).1 (by simp)) with h1 | h1
   ·
    exact h1
   ·
    rcases List.mem_cons.1 ((h y).2 (by simp)) with h2 | h2
    ·
     exact h2.symm
    ·
     have := HR.1 x h1; have := ha1.1 y h2; omega
  subst hxy
  congr 1
  refine k9.ext ha1.2 HR.2 fun e => ⟨fun he => ?_, fun he => ?_⟩
  ·
   rcases List.mem_cons.1 ((h e).1 (List.mem_cons_of_mem _ he)) with h1 | h1
   ·
    subst h1; have := ha1.1 e he; omega
   ·
    exact h1
  ·
   rcases List.mem_cons.1 ((h e).2 (List.mem_cons_of_mem _ he)) with h1 | h1
   ·
    subst h1; have := HR.1 e he; omega
   ·
    exact h1
theorem xP {X : Nat → Prop} {w : World} {b9 b5 b8 : Nat} {N R : Value} (hX : c6 X w) (fA : aN w b8 39 ([R])) (bT : aH (fun c_ => X c_ ∨ c_ = b8) (fun w => dD w ⟨b9, 0, none⟩ [.bool true]) w) (dJ : aH (fun c_ => X c_ ∨ c_ = b8) (fun w => dD w ⟨b5, 0, none⟩ [N]) w) :
  KI prog 139 [.pointer (some ⟨b9, 0, none⟩), .pointer (some ⟨b5, 0, none⟩), .pointer (some ⟨b8, 0, none⟩)].toArray w fun w' => Out (· = b8) w w' ∧ aN w' b8 39 [R] := by
 refine KI.aI (N := 6) func139 rfl rfl (by simp) ?_
 have H := ((St.dK (b := b8) (t := 39) (l := [R]) hX fA).add (cC dJ)).add (cC bT)
 refine WE.aA (WL.aX rfl vE rfl rfl (H.p 0 rfl) (WL.pv (PV.not rfl rfl) rfl (WL.nil ?_)))
 refine WE.bD rfl rfl ?_
 refine WE.skip ?_
 refine ⟨rfl, ⟨[], trivial⟩, ?_⟩
 exact ⟨H.cT, H.o 0 rfl⟩
theorem sU {X : Nat → Prop} {w : World} {b9 b5 b8 : Nat} {N R : Value} (hX : c6 X w) (fA : aN w b8 39 ([R])) (bT : aH (fun c_ => X c_ ∨ c_ = b8) (fun w => dD w ⟨b9, 0, none⟩ [.bool false]) w) (dJ : aH (fun c_ => X c_ ∨ c_ = b8) (fun w => dD w ⟨b5, 0, none⟩ [N]) w) (hN : N.oneCell' = true) :
  KI prog 139 [.pointer (some ⟨b9, 0, none⟩), .pointer (some ⟨b5, 0, none⟩), .pointer (some ⟨b8, 0, none⟩)].toArray w fun w' => Out (· = b8) w w' ∧ aN w' b8 39 [N] := by
 refine KI.aI (N := 6) func139 rfl rfl (by simp) ?_
 have H := ((St.dK (b := b8) (t := 39) (l := [R]) hX fA).add (cC dJ)).add (cC bT)
 refine WE.aA (WL.aX rfl vE rfl rfl (H.p 0 rfl) (WL.pv (PV.not rfl rfl) rfl (WL.nil ?_)))
 refine WE.cR rfl rfl ?_
 refine WE.dW (WL.aX rfl iQ rfl rfl (H.p 1 rfl) ?_)
 refine WL.lQ H 0 rfl rfl rfl (new := [N]) (cells_one hN) (by exact mI) (eF hN) (Laid.at (Laid.all (by simp only [aS, aY, aB])) rfl) rfl ?_
 intro w1 H
 refine WL.nil ?_
 refine ⟨rfl, ⟨[], trivial⟩, ?_⟩
 exact ⟨H.cT, H.o 0 rfl⟩
def kL (m : List En) (k : List UInt8) : Bool := (getM m k).isSome
theorem OD {m : List En} {k : List UInt8} {d : Nat} : kL (bO m d (bI k d)) k = kL m k := by unfold kL; rw [BF]
theorem CF {m : List En} {k : List UInt8} (h : kL m k = false) : fJ m k = m := by
 unfold fJ
 rw [List.filter_eq_self]
 intro e he
 simp
 intro hk
 unfold kL getM at h
 have : (m.find? fun e => e.k == k) = none := by simpa using h
 rw [List.find?_eq_none] at this
 exact this e he (by simpa using hk)
theorem aAu {X : Nat → Prop} {w : World} {bh bc : Nat} {bits c0 : Int} {M : List En} {k : List UInt8} {d : Nat}  (hX : c6 X w) (fA : aN w bc 213 ([.int .i64 c0])) (bT : aH (fun c_ => X c_ ∨ c_ = bc) (fO bh bc bits) w) (dJ : aH (fun c_ => X c_ ∨ c_ = bc) (aZ) w) (bU : 0 ≤ bits ∧ bits ≤ 256) (hk : k.length = 32) (hT : Tr.nil.er = grow d M) (nL : Pm d M) :
  bC prog 91 [.pointer (some ⟨bh, 0, none⟩), Tr.nil.ptr, .agg (kc k).toArray, .int .i64 (d : Int)].toArray w fun v w' => ∃ (T : Tr) (c : Int) (f : Bool), v = .tuple [T.ptr, .bool f].toArray ∧ T.er = grow d (fJ M k) ∧ f = kL M k ∧ (f = false → T = Tr.nil ∧ c = c0) ∧ Out (· = bc) w w' ∧ aN w' bc 213 [.int .i64 c] ∧ aH (fun c => X c ∨ c = bc) (cV bits T) w' := by
 refine bC.s8 (N := 57) func91 rfl rfl (by simp) ?_
 have H := ((St.dK (b := bc) (t := 213) (l := [.int .i64 c0]) hX fA).add (cC dJ)).add (cC bT)
 obtain rfl : M = [] := (by have h_ := nL.gC; rw [← hT] at h_; exact List.eq_nil_of_length_eq_zero h_.symm)
 refine WE.aA ?_
 refine WL.box (l := [Tr.nil.ptr]) H rfl (rfl) rfl ?_
 intro b5 w1 H
 refine WL.box (l := kc k) H rfl rfl rfl ?_
 intro b6 w2 H
 refine WL.alloc H rfl M6 rfl ?_
 intro b8 w3 H
 refine WL.alloc H rfl ze4 rfl ?_
 intro b9 w4 H
 refine WL.nil (WE.aA (WL.pv (PV.makeFunc rfl) rfl ?_))
 refine WL.defer rfl rfl rfl rfl rfl ?_
 refine WL.nil (WE.seq (WE.aA (WL.aX rfl iQ rfl rfl (aN.aF (H.l 3 rfl) (aK.all _) rfl) ?_)))
 refine WL.call mE rfl (e8 (T := .nil) (bits := bits) H.aR (by exact fun _ _ => trivial) ) ?_
 rintro _ w5 ⟨rfl, hO⟩
 replace H := H.out hO
 refine WL.nil (WE.block (WE.aA (WL.pv (PV.eql rfl rfl rfl) rfl (WL.as rfl rfl (WL.nil ?_)))))
 refine WE.bD rfl rfl ?_
 refine WE.aA (WL.pv (PV.eql rfl rfl rfl) rfl (WL.as rfl rfl (WL.nil ?_)))
 refine WE.bD rfl rfl ?_
 refine WE.skip ?_
 refine WE.bG (.take 0 (.take 1 (.aG 2 (.aG 3 .done)))) mixed (by kernel_rfl) ?_
 replace H := H.out (Out.drew _)
 refine WP.aM rfl rfl (RV.aV rfl iQ rfl) (aN.aF (H.l 1 rfl) (aK.all _) rfl) (WP.aM rfl rfl (RV.aV rfl vE rfl) (aN.aF (H.l 0 rfl) (aK.all _) rfl) (WP.aG rfl ?_))
 refine WL.aW H 1 rfl rfl rfl (new := _) rfl (by exact mI) (bB _ rfl) (Laid.at (Laid.all (by simp only [aS, aY, aB])) rfl) rfl ?_
 intro w6 H
 refine WL.nil ⟨(fa (fun _ _ => (aN.aF (H.l 0 rfl) (aK.all _) rfl)) (fa (nw 2 0) c8)), ?_⟩
 refine WP.aG rfl ?_
 refine WL.aW H 0 rfl rfl rfl (new := _) rfl (by exact XP) (bB _ rfl) (Laid.at (Laid.all (by simp only [aS, aY, aB])) rfl) rfl ?_
 intro w7 H
 refine WL.nil ⟨(fa (nw 3 1) (fa (nw 3 0) c8)), ?_⟩
 refine WP.done (WE.ret ?_)
 refine Or.inr ⟨_, _, _, _, rfl, yR, (by exact sU (X := Nil) (oD _) (H.l 1 rfl) (((H.mK 1 0 rfl rfl (by decide)).imp fun _ h => aN.rd h).HK) (((H.mK 1 3 rfl rfl (by decide)).imp fun _ h => aN.rd h).HK) rfl), ?_⟩
 rintro w8 ⟨hO, hB⟩
 replace H := H.called 1 rfl hO hB
 refine ⟨[_, _], ⟨⟨_, rfl, cY iQ (aN.aF (H.l 1 rfl) (aK.all _) rfl)⟩, ⟨_, rfl, cY vE (aN.aF (H.l 0 rfl) (aK.all _) rfl)⟩, trivial⟩, ?_⟩
 refine ⟨.nil, c0, false, rfl, ?_, ?_, ?_, H.cT, H.o 0 rfl, ?_⟩
 ·
  exact (eM d).symm
 ·
  rfl
 ·
  exact fun _ => ⟨rfl, rfl⟩
 ·
  exact fun _ _ => trivial
theorem KH {X : Nat → Prop} {w : World} {bh bc : Nat} {bits c0 : Int} {M : List En} {k : List UInt8} {d : Nat} {a : Nat} {q u : List UInt8} {s : Value} (hX : c6 X w) (fA : aN w bc 213 ([.int .i64 c0])) (bT : aH (fun c_ => X c_ ∨ c_ = bc) (fO bh bc bits) w) (dJ : aH (fun c_ => X c_ ∨ c_ = bc) (cV bits (Tr.leaf a q u s)) w) (fQ : aH (fun c_ => X c_ ∨ c_ = bc) (aZ) w) (bU : 0 ≤ bits ∧ bits ≤ 256) (hk : k.length = 32) (hT : (Tr.leaf a q u s).er = grow d M) (nL : Pm d M) (WZ : q = k) :
  bC prog 91 [.pointer (some ⟨bh, 0, none⟩), (Tr.leaf a q u s).ptr, .agg (kc k).toArray, .int .i64 (d : Int)].toArray w fun v w' => ∃ (T : Tr) (c : Int) (f : Bool), v = .tuple [T.ptr, .bool f].toArray ∧ T.er = grow d (fJ M k) ∧ f = kL M k ∧ (f = false → T = (Tr.leaf a q u s) ∧ c = c0) ∧ Out (· = bc) w w' ∧ aN w' bc 213 [.int .i64 c] ∧ aH (fun c => X c ∨ c = bc) (cV bits T) w' := by
 refine bC.s8 (N := 57) func91 rfl rfl (by simp) ?_
 have H := (((St.dK (b := bc) (t := 213) (l := [.int .i64 c0]) hX fA).add (cC fQ)).add (cC dJ)).add (cC bT)
 obtain ⟨e, rfl⟩ : ∃ e, M = [e] := by have h_ := nL.gC; rw [← hT] at h_; exact List.length_eq_one_iff.1 h_.symm
 rw [dR] at hT
 have hqe : q = e.k := by injection hT
 have hvu := fY bits u
 have hq : q.length = 32 := by rw [hqe]; exact nL.kl e (by simp)
 refine WE.aA ?_
 refine WL.box (l := [(Tr.leaf a q u s).ptr]) H rfl (rfl) rfl ?_
 intro b5 w1 H
 refine WL.box (l := kc k) H rfl rfl rfl ?_
 intro b6 w2 H
 refine WL.alloc H rfl M6 rfl ?_
 intro b8 w3 H
 refine WL.alloc H rfl ze4 rfl ?_
 intro b9 w4 H
 refine WL.nil (WE.aA (WL.pv (PV.makeFunc rfl) rfl ?_))
 refine WL.defer rfl rfl rfl rfl rfl ?_
 refine WL.nil (WE.seq (WE.aA (WL.aX rfl iQ rfl rfl (aN.aF (H.l 3 rfl) (aK.all _) rfl) ?_)))
 refine WL.call mE rfl (e8 (T := (Tr.leaf a q u s)) (bits := bits) H.aR (by exact H.bJ 1 rfl) ) ?_
 rintro _ w5 ⟨rfl, hO⟩
 replace H := H.out hO
 refine WL.nil (WE.block (WE.aA (WL.pv (PV.eql rfl rfl rfl) rfl (WL.as rfl rfl (WL.nil ?_)))))
 refine WE.cR rfl rfl ?_
 refine WE.bG (.take 0 (.take 3 (.aG 1 (.take 2 (.take 4 (.aG 5 (.aG 6 .done))))))) mixed (by kernel_rfl) ?_
 replace H := H.out (Out.drew _)
 refine WP.aM rfl rfl (RV.aV rfl iQ rfl) (aN.aF (H.l 3 rfl) (aK.all _) rfl) ?_
 refine WP.dO rfl rfl rfl c7 rfl (aN.aF (H.l 2 rfl) (aK.all _) rfl) (cI cM (by simp only [aS, aY, aB]; omega)) ?_
 refine WP.aG rfl ?_
 refine WL.call F5 rfl (show bC _ _ _ _ (fun v w' => v = .agg (kc q ++ kc (nI bits u)).toArray ∧ Out Nil _ w') from nH (T := (Tr.leaf a q u s)) (bits := bits) H.aR (H.bJ 1 rfl)) ?_
 rintro _ w6 ⟨rfl, hO⟩
 replace H := H.out hO
 refine WL.nil ⟨(fa (rk hO) (fa (nw 1 0) c8)), ?_⟩
 refine WP.aC rfl rfl (PV.lV rfl kK rfl (eG.agg c7 (cI cM (by simp only [aS, aY, aB]; omega)) (aK.l (aK.all _)))) ?_
 refine WP.aC rfl rfl (PV.eq (v' := .bool true) (PV.DM rfl gW mM gO (by kernel_rfl) rfl rfl hq hk) (by simp [WZ])) ?_
 refine WP.aG rfl ?_
 refine WL.aW H 1 rfl rfl rfl (new := _) rfl (by exact mI) (bB _ rfl) (Laid.at (Laid.all (by simp only [aS, aY, aB])) rfl) rfl ?_
 intro w7 H
 refine WL.nil ⟨(fa (fun _ _ => (aN.aF (H.l 2 rfl) (aK.all _) rfl)) (fa (nw 5 0) c8)), ?_⟩
 refine WP.aG rfl ?_
 refine WL.aW H 0 rfl rfl rfl (new := _) rfl (by exact XP) (bB _ rfl) (Laid.at (Laid.all (by simp only [aS, aY, aB])) rfl) rfl ?_
 intro w8 H
 refine WL.nil ⟨(fa (nw 6 3) (fa (nw 6 0) c8)), ?_⟩
 refine WP.done (WE.ret ?_)
 refine Or.inr ⟨_, _, _, _, rfl, yR, (by exact xP (X := Nil) (oD _) (H.l 1 rfl) (((H.mK 1 0 rfl rfl (by decide)).imp fun _ h => aN.rd h).HK) (((H.mK 1 3 rfl rfl (by decide)).imp fun _ h => aN.rd h).HK)), ?_⟩
 rintro w9 ⟨hO, hB⟩
 replace H := H.called 1 rfl hO hB
 refine ⟨[_, _], ⟨⟨_, rfl, cY iQ (aN.aF (H.l 1 rfl) (aK.all _) rfl)⟩, ⟨_, rfl, cY vE (aN.aF (H.l 0 rfl) (aK.all _) rfl)⟩, trivial⟩, ?_⟩
 refine ⟨.nil, c0, true, rfl, ?_, ?_, ?_, H.cT, H.o 0 rfl, ?_⟩
 ·
  rw [show fJ [e] k = [] by simp [fJ, ← hqe, WZ], eM]; rfl
 ·
  simp [kL, getM, ← hqe, WZ]
 ·
  exact fun h => by cases h
 ·
  exact fun _ _ => trivial
theorem KG {X : Nat → Prop} {w : World} {bh bc : Nat} {bits c0 : Int} {M : List En} {k : List UInt8} {d : Nat} {a : Nat} {q u : List UInt8} {s : Value} (hX : c6 X w) (fA : aN w bc 213 ([.int .i64 c0])) (bT : aH (fun c_ => X c_ ∨ c_ = bc) (fO bh bc bits) w) (dJ : aH (fun c_ => X c_ ∨ c_ = bc) (cV bits (Tr.leaf a q u s)) w) (fQ : aH (fun c_ => X c_ ∨ c_ = bc) (aZ) w) (bU : 0 ≤ bits ∧ bits ≤ 256) (hk : k.length = 32) (hT : (Tr.leaf a q u s).er = grow d M) (nL : Pm d M) (WZ : q ≠ k) :
  bC prog 91 [.pointer (some ⟨bh, 0, none⟩), (Tr.leaf a q u s).ptr, .agg (kc k).toArray, .int .i64 (d : Int)].toArray w fun v w' => ∃ (T : Tr) (c : Int) (f : Bool), v = .tuple [T.ptr, .bool f].toArray ∧ T.er = grow d (fJ M k) ∧ f = kL M k ∧ (f = false → T = (Tr.leaf a q u s) ∧ c = c0) ∧ Out (· = bc) w w' ∧ aN w' bc 213 [.int .i64 c] ∧ aH (fun c => X c ∨ c = bc) (cV bits T) w' := by
 refine bC.s8 (N := 57) func91 rfl rfl (by simp) ?_
 have H := (((St.dK (b := bc) (t := 213) (l := [.int .i64 c0]) hX fA).add (cC fQ)).add (cC dJ)).add (cC bT)
 obtain ⟨e, rfl⟩ : ∃ e, M = [e] := by have h_ := nL.gC; rw [← hT] at h_; exact List.length_eq_one_iff.1 h_.symm
 rw [dR] at hT
 have hqe : q = e.k := by injection hT
 have hvu := fY bits u
 have hq : q.length = 32 := by rw [hqe]; exact nL.kl e (by simp)
 refine WE.aA ?_
 refine WL.box (l := [(Tr.leaf a q u s).ptr]) H rfl (rfl) rfl ?_
 intro b5 w1 H
 refine WL.box (l := kc k) H rfl rfl rfl ?_
 intro b6 w2 H
 refine WL.alloc H rfl M6 rfl ?_
 intro b8 w3 H
 refine WL.alloc H rfl ze4 rfl ?_
 intro b9 w4 H
 refine WL.nil (WE.aA (WL.pv (PV.makeFunc rfl) rfl ?_))
 refine WL.defer rfl rfl rfl rfl rfl ?_
 refine WL.nil (WE.seq (WE.aA (WL.aX rfl iQ rfl rfl (aN.aF (H.l 3 rfl) (aK.all _) rfl) ?_)))
 refine WL.call mE rfl (e8 (T := (Tr.leaf a q u s)) (bits := bits) H.aR (by exact H.bJ 1 rfl) ) ?_
 rintro _ w5 ⟨rfl, hO⟩
 replace H := H.out hO
 refine WL.nil (WE.block (WE.aA (WL.pv (PV.eql rfl rfl rfl) rfl (WL.as rfl rfl (WL.nil ?_)))))
 refine WE.cR rfl rfl ?_
 refine WE.bG (.take 0 (.take 3 (.aG 1 (.take 2 (.take 4 (.aG 5 (.aG 6 .done))))))) mixed (by kernel_rfl) ?_
 replace H := H.out (Out.drew _)
 refine WP.aM rfl rfl (RV.aV rfl iQ rfl) (aN.aF (H.l 3 rfl) (aK.all _) rfl) ?_
 refine WP.dO rfl rfl rfl c7 rfl (aN.aF (H.l 2 rfl) (aK.all _) rfl) (cI cM (by simp only [aS, aY, aB]; omega)) ?_
 refine WP.aG rfl ?_
 refine WL.call F5 rfl (show bC _ _ _ _ (fun v w' => v = .agg (kc q ++ kc (nI bits u)).toArray ∧ Out Nil _ w') from nH (T := (Tr.leaf a q u s)) (bits := bits) H.aR (H.bJ 1 rfl)) ?_
 rintro _ w6 ⟨rfl, hO⟩
 replace H := H.out hO
 refine WL.nil ⟨(fa (rk hO) (fa (nw 1 0) c8)), ?_⟩
 refine WP.aC rfl rfl (PV.lV rfl kK rfl (eG.agg c7 (cI cM (by simp only [aS, aY, aB]; omega)) (aK.l (aK.all _)))) ?_
 refine WP.aC rfl rfl (PV.eq (v' := .bool false) (PV.DM rfl gW mM gO (by kernel_rfl) rfl rfl hq hk) (by simp [WZ])) ?_
 refine WP.aG rfl ?_
 refine WL.aW H 1 rfl rfl rfl (new := _) rfl (by exact mI) (bB _ rfl) (Laid.at (Laid.all (by simp only [aS, aY, aB])) rfl) rfl ?_
 intro w7 H
 refine WL.nil ⟨(fa (fun _ _ => (aN.aF (H.l 2 rfl) (aK.all _) rfl)) (fa (nw 5 0) c8)), ?_⟩
 refine WP.aG rfl ?_
 refine WL.aW H 0 rfl rfl rfl (new := _) rfl (by exact XP) (bB _ rfl) (Laid.at (Laid.all (by simp only [aS, aY, aB])) rfl) rfl ?_
 intro w8 H
 refine WL.nil ⟨(fa (nw 6 3) (fa (nw 6 0) c8)), ?_⟩
 refine WP.done (WE.ret ?_)
 refine Or.inr ⟨_, _, _, _, rfl, yR, (by exact sU (X := Nil) (oD _) (H.l 1 rfl) (((H.mK 1 0 rfl rfl (by decide)).imp fun _ h => aN.rd h).HK) (((H.mK 1 3 rfl rfl (by decide)).imp fun _ h => aN.rd h).HK) rfl), ?_⟩
 rintro w9 ⟨hO, hB⟩
 replace H := H.called 1 rfl hO hB
 refine ⟨[_, _], ⟨⟨_, rfl, cY iQ (aN.aF (H.l 1 rfl) (aK.all _) rfl)⟩, ⟨_, rfl, cY vE (aN.aF (H.l 0 rfl) (aK.all _) rfl)⟩, trivial⟩, ?_⟩
 refine ⟨(Tr.leaf a q u s), c0, false, rfl, ?_, ?_, ?_, H.cT, H.o 0 rfl, ?_⟩
 ·
  rw [show fJ [e] k = [e] by simp [fJ, ← hqe, WZ], dR]; exact hT
 ·
  simp [kL, getM, ← hqe, WZ]
 ·
  exact fun _ => ⟨rfl, rfl⟩
 ·
  exact H.gA (H.bJ 1 rfl)
theorem X3 {m : List En} {k : List UInt8} {d : Nat} (h : Pm d m) (hd : d < 256) : (bI k d = 0 → kO (grow (d + 1) (fJ (bO m d 0) k)) (grow (d + 1) (bO m d 1)) = grow d (fJ m k)) ∧ (bI k d ≠ 0 → kO (grow (d + 1) (bO m d 0)) (grow (d + 1) (fJ (bO m d 1) k)) = grow d (fJ m k)) := by
 have e := pC (Q8 (k := k) h) hd
 rw [sV, sV] at e
 have hb := eA k d
 constructor
 ·
  intro h0
  rw [uL (b := 1) (by omega)] at e
  exact e
 ·
  intro h0
  rw [uL (b := 0) (by omega)] at e
  exact e
def aDE (T : Tr) : Prop := ∀ {X : Nat → Prop} {w : World} {bh bc : Nat} {bits c0 : Int} {M : List En} {k : List UInt8} {d : Nat}, (∀ b, X b → b < w.heap.size) → aN w bc 213 [.int .i64 c0] → aH (fun c => X c ∨ c = bc) (fO bh bc bits) w → aH (fun c => X c ∨ c = bc) (cV bits T) w → aH (fun c => X c ∨ c = bc) aZ w →
 0 ≤ bits ∧ bits ≤ 256 → k.length = 32 → T.er = grow d M → Pm d M → M.length ≤ 1000000000 →
 bC prog 91 [.pointer (some ⟨bh, 0, none⟩), T.ptr, .agg (kc k).toArray, .int .i64 (d : Int)].toArray w fun v w' => ∃ (T' : Tr) (c : Int) (f : Bool), v = .tuple [T'.ptr, .bool f].toArray ∧ T'.er = grow d (fJ M k) ∧ f = kL M k ∧ (f = false → T' = T ∧ c = c0) ∧ Out (· = bc) w w' ∧ aN w' bc 213 [.int .i64 c] ∧ aH (fun c => X c ∨ c = bc) (cV bits T') w'
theorem PJ {X : Nat → Prop} {w : World} {bh bc : Nat} {bits c0 : Int} {M : List En} {k : List UInt8} {d : Nat} {a : Nat} {l r : Tr} (hX : c6 X w) (fA : aN w bc 213 ([.int .i64 c0])) (bT : aH (fun c_ => X c_ ∨ c_ = bc) (fO bh bc bits) w) (dJ : aH (fun c_ => X c_ ∨ c_ = bc) (cV bits (Tr.inner a l r)) w) (fQ : aH (fun c_ => X c_ ∨ c_ = bc) (aZ) w) (bU : 0 ≤ bits ∧ bits ≤ 256) (hk : k.length = 32) (hT : (Tr.inner a l r).er = grow d M) (nL : Pm d M) (hlen : M.length ≤ 1000000000) (ihl : aDE l) (ihr : aDE r) :
  bC prog 91 [.pointer (some ⟨bh, 0, none⟩), (Tr.inner a l r).ptr, .agg (kc k).toArray, .int .i64 (d : Int)].toArray w fun v w' => ∃ (T : Tr) (c : Int) (f : Bool), v = .tuple [T.ptr, .bool f].toArray ∧ T.er = grow d (fJ M k) ∧ f = kL M k ∧ (f = false → T = (Tr.inner a l r) ∧ c = c0) ∧ Out (· = bc) w w' ∧ aN w' bc 213 [.int .i64 c] ∧ aH (fun c => X c ∨ c = bc) (cV bits T) w' := by
 refine bC.s8 (N := 57) func91 rfl rfl (by simp) ?_
 have H := (((St.dK (b := bc) (t := 213) (l := [.int .i64 c0]) hX fA).add (cC fQ)).add (cC dJ)).add (cC bT)
 have h2m : 2 ≤ M.length := (oI nL).1 (by rw [← hT]; rfl)
 have hd := nL.lt h2m
 have HT := hT
 rw [iU d M hd h2m] at HT
 have SS : l.er = grow (d + 1) (bO M d 0) := by injection HT
 have JG : r.er = grow (d + 1) (bO M d 1) := by injection HT
 have hb2 := eA k d
 have hrj := X3 (k := k) nL hd
 have hhp := OD (m := M) (k := k) (d := d)
 refine WE.aA ?_
 refine WL.box (l := [(Tr.inner a l r).ptr]) H rfl (rfl) rfl ?_
 intro b5 w1 H
 refine WL.box (l := kc k) H rfl rfl rfl ?_
 intro b6 w2 H
 refine WL.alloc H rfl M6 rfl ?_
 intro b8 w3 H
 refine WL.alloc H rfl ze4 rfl ?_
 intro b9 w4 H
 refine WL.nil (WE.aA (WL.pv (PV.makeFunc rfl) rfl ?_))
 refine WL.defer rfl rfl rfl rfl rfl ?_
 refine WL.nil (WE.seq (WE.aA (WL.aX rfl iQ rfl rfl (aN.aF (H.l 3 rfl) (aK.all _) rfl) ?_)))
 refine WL.call mE rfl (e8 (T := (Tr.inner a l r)) (bits := bits) H.aR (by exact H.bJ 1 rfl) ) ?_
 rintro _ w5 ⟨rfl, hO⟩
 replace H := H.out hO
 refine WL.nil (WE.block (WE.aA (WL.pv (PV.eql rfl rfl rfl) rfl (WL.as rfl rfl (WL.nil ?_)))))
 refine WE.bD rfl rfl ?_
 refine WE.aA (WL.pv (PV.eql rfl rfl rfl) rfl (WL.as rfl rfl (WL.nil ?_)))
 refine WE.cR rfl rfl ?_
 refine WE.bG (.take 0 (.take 2 (.aG 1 (.aG 3 (.take 4 (.take 5 .done)))))) mixed (by kernel_rfl) ?_
 replace H := H.out (Out.drew _)
 refine WP.aM rfl rfl (RV.aV rfl iQ rfl) (aN.aF (H.l 3 rfl) (aK.all _) rfl) (WP.aM rfl rfl (RV.aV rfl iQ rfl) (aN.aF (H.l 3 rfl) (aK.all _) rfl) (WP.aG rfl ?_))
 refine WL.call UE rfl (KM (T := (Tr.inner a l r)) (bits := bits) H.aR (by exact H.bJ 1 rfl) ) ?_
 rintro _ w6 ⟨rfl, hO⟩
 replace H := H.out hO
 refine WL.nil ⟨(fa (rk hO) (fa (nw 1 0) c8)), ?_⟩
 refine WP.aG rfl ?_
 refine WL.call UD rfl (zH (T := (Tr.inner a l r)) (bits := bits) H.aR (by exact H.bJ 1 rfl) ) ?_
 rintro _ w7 ⟨rfl, hO⟩
 replace H := H.out hO
 refine WL.nil ⟨(fa (nw 3 2) (fa (nw 3 0) c8)), ?_⟩
 refine WP.as rfl rfl rfl (WP.as rfl rfl rfl (WP.done (WE.seq (WE.aA ?_))))
 refine WL.bE rfl c7 rfl rfl (aN.aF (H.l 2 rfl) (aK.all _) rfl) (cI cM (by simp only [aS, aY, aB]; omega)) ?_
 refine WL.mv rfl rfl ?_
 refine WL.call F4 rfl (j7 (k := k) (d := d) H.aR  (by assumption) (by assumption)) ?_
 rintro _ w8 ⟨rfl, hO⟩
 replace H := H.out hO
 refine WL.pv (PV.eql rfl rfl rfl) rfl (WL.nil ?_)
 refine WE.cond rfl (fun kW => ?_) (fun kW => ?_)
 ·
  try simp only [bP] at kW
  have zR : bI k d = 0 := by omega
  refine WE.dW (WL.mv rfl rfl (WL.mv rfl rfl ?_))
  refine WL.bE rfl c7 rfl rfl (aN.aF (H.l 2 rfl) (aK.all _) rfl) (cI cM (by simp only [aS, aY, aB]; omega)) ?_
  refine WL.mv rfl rfl (WL.pv (PV.eq (v' := .int .i64 ((d + 1 : Nat) : Int)) (PV.bV rfl rfl rfl (by omega) (by omega)) rfl) rfl ?_)
  refine WL.call aC7 rfl (ihl (M := bO M d 0) (k := k) (d := d + 1) (bits := bits) H.aR (H.o 0 rfl) (by exact H.aO 0 rfl 0 rfl) (by exact (H.aO 0 rfl 1 rfl : aH _ (cV bits (Tr.inner a l r)) _).imp fun _ h => cV.left h) (by exact H.aO 0 rfl 2 rfl) bU hk SS (nL.part hd 0) (Nat.le_trans (sZ _ _ _) hlen)) ?_
  rintro _ w9 ⟨T38, c38, f38, rfl, aFX, aFz, aJn, hO, hB, hR⟩
  replace H := H.dP 0 rfl hO hB hR
  refine WL.mv rfl rfl (WL.pv (PV.extract rfl rfl rfl) rfl (WL.pv (PV.extract rfl rfl rfl) rfl (WL.as rfl rfl ?_)))
  refine WL.aW H 0 rfl rfl rfl (new := _) rfl (by exact XP) (bB _ rfl) (Laid.at (Laid.all (by simp only [aS, aY, aB])) rfl) rfl ?_
  intro tX H
  refine WL.nil (WE.aA (WL.aX rfl vE rfl rfl (aN.aF (H.l 0 rfl) (aK.all _) rfl) (WL.nil ?_)))
  refine WE.cond rfl (fun nN => ?_) (fun nN => ?_)
  ·
   try simp only [bP] at nN
   (obtain rfl : f38 = true := nN)
   refine WE.dW (WL.mv rfl rfl (WL.mv rfl rfl (WL.mv rfl rfl ?_)))
   refine WL.call F7 rfl ((by exact zK (l := T38) (r := r) (bits := bits) H.aR (H.o 0 rfl) (by exact H.aO 0 rfl 1 rfl) (by exact H.aO 0 rfl 0 rfl) (by exact (H.aO 0 rfl 2 rfl : aH _ (cV bits (Tr.inner a l r)) _).imp fun _ h => cV.right h) (by exact H.aO 0 rfl 3 rfl) bU (by rw [aFX, JG, (Q8 (nL.part hd 0)).gC, (nL.part hd 1).gC]; have h1 := wO (bO M d 0) k; have h2 := n9 M d; omega))) ?_
   rintro _ xG ⟨aDy, aIT, rfl, TS, hO, hB, hR⟩
   replace H := H.dP 0 rfl hO hB hR
   refine WL.aW H 1 rfl rfl rfl (new := _) rfl (by exact mI) (bB _ rfl) (Laid.at (Laid.all (by simp only [aS, aY, aB])) rfl) rfl ?_
   intro HL H
   refine WL.nil ?_
   refine WE.bG (.take 0 (.take 1 (.aG 2 (.aG 3 .done)))) mixed (by kernel_rfl) ?_
   replace H := H.out (Out.drew _)
   refine WP.aM rfl rfl (RV.aV rfl iQ rfl) (aN.aF (H.l 1 rfl) (aK.all _) rfl) (WP.aM rfl rfl (RV.aV rfl vE rfl) (aN.aF (H.l 0 rfl) (aK.all _) rfl) (WP.aG rfl ?_))
   refine WL.aW H 1 rfl rfl rfl (new := _) rfl (by exact mI) (bB _ rfl) (Laid.at (Laid.all (by simp only [aS, aY, aB])) rfl) rfl ?_
   intro DW H
   refine WL.nil ⟨(fa (fun _ _ => (aN.aF (H.l 0 rfl) (aK.all _) rfl)) (fa (nw 2 0) c8)), ?_⟩
   refine WP.aG rfl ?_
   refine WL.aW H 0 rfl rfl rfl (new := _) rfl (by exact XP) (bB _ rfl) (Laid.at (Laid.all (by simp only [aS, aY, aB])) rfl) rfl ?_
   intro H9 H
   refine WL.nil ⟨(fa (nw 3 1) (fa (nw 3 0) c8)), ?_⟩
   refine WP.done (WE.ret ?_)
   refine Or.inr ⟨_, _, _, _, rfl, yR, (by exact xP (X := Nil) (oD _) (H.l 1 rfl) (((H.mK 1 0 rfl rfl (by decide)).imp fun _ h => aN.rd h).HK) (((H.mK 1 3 rfl rfl (by decide)).imp fun _ h => aN.rd h).HK)), ?_⟩
   rintro ND ⟨hO, hB⟩
   replace H := H.called 1 rfl hO hB
   refine ⟨[_, _], ⟨⟨_, rfl, cY iQ (aN.aF (H.l 1 rfl) (aK.all _) rfl)⟩, ⟨_, rfl, cY vE (aN.aF (H.l 0 rfl) (aK.all _) rfl)⟩, trivial⟩, ?_⟩
   (refine ⟨aDy, _, true, rfl, ?_, ?_, fun h => (by cases h), H.cT, H.o 0 rfl, H.gA (H.bJ 0 rfl)⟩; (rw [TS, aFX, JG]; exact hrj.1 zR); (rw [aFz, ← hhp, zR]))
  ·
   try simp only [bP] at nN
   (obtain rfl : f38 = false := nN)
   refine WE.skip ?_
   refine WE.bG (.take 0 (.take 1 (.aG 2 (.aG 3 .done)))) mixed (by kernel_rfl) ?_
   replace H := H.out (Out.drew _)
   refine WP.aM rfl rfl (RV.aV rfl iQ rfl) (aN.aF (H.l 1 rfl) (aK.all _) rfl) (WP.aM rfl rfl (RV.aV rfl vE rfl) (aN.aF (H.l 0 rfl) (aK.all _) rfl) (WP.aG rfl ?_))
   refine WL.aW H 1 rfl rfl rfl (new := _) rfl (by exact mI) (bB _ rfl) (Laid.at (Laid.all (by simp only [aS, aY, aB])) rfl) rfl ?_
   intro QL H
   refine WL.nil ⟨(fa (fun _ _ => (aN.aF (H.l 0 rfl) (aK.all _) rfl)) (fa (nw 2 0) c8)), ?_⟩
   refine WP.aG rfl ?_
   refine WL.aW H 0 rfl rfl rfl (new := _) rfl (by exact XP) (bB _ rfl) (Laid.at (Laid.all (by simp only [aS, aY, aB])) rfl) rfl ?_
   intro QK H
   refine WL.nil ⟨(fa (nw 3 1) (fa (nw 3 0) c8)), ?_⟩
   refine WP.done (WE.ret ?_)
   refine Or.inr ⟨_, _, _, _, rfl, yR, (by exact sU (X := Nil) (oD _) (H.l 1 rfl) (((H.mK 1 0 rfl rfl (by decide)).imp fun _ h => aN.rd h).HK) (((H.mK 1 3 rfl rfl (by decide)).imp fun _ h => aN.rd h).HK) rfl), ?_⟩
   rintro QJ ⟨hO, hB⟩
   replace H := H.called 1 rfl hO hB
   refine ⟨[_, _], ⟨⟨_, rfl, cY iQ (aN.aF (H.l 1 rfl) (aK.all _) rfl)⟩, ⟨_, rfl, cY vE (aN.aF (H.l 0 rfl) (aK.all _) rfl)⟩, trivial⟩, ?_⟩
   (have hh : kL M k = false := (by rw [← hhp, zR, ← aFz]); refine ⟨Tr.inner a l r, _, false, rfl, ?_, hh.symm, fun _ => ⟨rfl, (aJn rfl).2⟩, H.cT, H.o 0 rfl, H.gA (by exact H.bJ 2 rfl)⟩; (rw [CF hh]; exact hT))
 ·
  try simp only [bP] at kW
  have zR : bI k d = 1 := by omega
  refine WE.dW (WL.mv rfl rfl (WL.mv rfl rfl ?_))
  refine WL.bE rfl c7 rfl rfl (aN.aF (H.l 2 rfl) (aK.all _) rfl) (cI cM (by simp only [aS, aY, aB]; omega)) ?_
  refine WL.mv rfl rfl (WL.pv (PV.eq (v' := .int .i64 ((d + 1 : Nat) : Int)) (PV.bV rfl rfl rfl (by omega) (by omega)) rfl) rfl ?_)
  refine WL.call aC7 rfl (ihr (M := bO M d 1) (k := k) (d := d + 1) (bits := bits) H.aR (H.o 0 rfl) (by exact H.aO 0 rfl 0 rfl) (by exact (H.aO 0 rfl 1 rfl : aH _ (cV bits (Tr.inner a l r)) _).imp fun _ h => cV.right h) (by exact H.aO 0 rfl 2 rfl) bU hk JG (nL.part hd 1) (Nat.le_trans (sZ _ _ _) hlen)) ?_
  rintro _ w19 ⟨T47, c47, f47, rfl, aFV, aFy, aJm, hO, hB, hR⟩
  replace H := H.dP 0 rfl hO hB hR
  refine WL.mv rfl rfl (WL.pv (PV.extract rfl rfl rfl) rfl (WL.pv (PV.extract rfl rfl rfl) rfl (WL.as rfl rfl ?_)))
  refine WL.aW H 0 rfl rfl rfl (new := _) rfl (by exact XP) (bB _ rfl) (Laid.at (Laid.all (by simp only [aS, aY, aB])) rfl) rfl ?_
  intro w20 H
  refine WL.nil (WE.aA (WL.aX rfl vE rfl rfl (aN.aF (H.l 0 rfl) (aK.all _) rfl) (WL.nil ?_)))
  refine WE.cond rfl (fun nN => ?_) (fun nN => ?_)
  ·
   try simp only [bP] at nN
   (obtain rfl : f47 = true := nN)
   refine WE.dW (WL.mv rfl rfl (WL.mv rfl rfl (WL.mv rfl rfl ?_)))
   refine WL.call F7 rfl ((by exact zK (l := l) (r := T47) (bits := bits) H.aR (H.o 0 rfl) (by exact H.aO 0 rfl 1 rfl) (by exact (H.aO 0 rfl 2 rfl : aH _ (cV bits (Tr.inner a l r)) _).imp fun _ h => cV.left h) (by exact H.aO 0 rfl 0 rfl) (by exact H.aO 0 rfl 3 rfl) bU (by rw [aFV, SS, (Q8 (nL.part hd 1)).gC, (nL.part hd 0).gC]; have h1 := wO (bO M d 1) k; have h2 := n9 M d; omega))) ?_
   rintro _ w21 ⟨aDy, aIT, rfl, TS, hO, hB, hR⟩
   replace H := H.dP 0 rfl hO hB hR
   refine WL.aW H 1 rfl rfl rfl (new := _) rfl (by exact mI) (bB _ rfl) (Laid.at (Laid.all (by simp only [aS, aY, aB])) rfl) rfl ?_
   intro w22 H
   refine WL.nil ?_
   refine WE.bG (.take 0 (.take 1 (.aG 2 (.aG 3 .done)))) mixed (by kernel_rfl) ?_
   replace H := H.out (Out.drew _)
   refine WP.aM rfl rfl (RV.aV rfl iQ rfl) (aN.aF (H.l 1 rfl) (aK.all _) rfl) (WP.aM rfl rfl (RV.aV rfl vE rfl) (aN.aF (H.l 0 rfl) (aK.all _) rfl) (WP.aG rfl ?_))
   refine WL.aW H 1 rfl rfl rfl (new := _) rfl (by exact mI) (bB _ rfl) (Laid.at (Laid.all (by simp only [aS, aY, aB])) rfl) rfl ?_
   intro w23 H
   refine WL.nil ⟨(fa (fun _ _ => (aN.aF (H.l 0 rfl) (aK.all _) rfl)) (fa (nw 2 0) c8)), ?_⟩
   refine WP.aG rfl ?_
   refine WL.aW H 0 rfl rfl rfl (new := _) rfl (by exact XP) (bB _ rfl) (Laid.at (Laid.all (by simp only [aS, aY, aB])) rfl) rfl ?_
   intro w24 H
   refine WL.nil ⟨(fa (nw 3 1) (fa (nw 3 0) c8)), ?_⟩
   refine WP.done (WE.ret ?_)
   refine Or.inr ⟨_, _, _, _, rfl, yR, (by exact xP (X := Nil) (oD _) (H.l 1 rfl) (((H.mK 1 0 rfl rfl (by decide)).imp fun _ h => aN.rd h).HK) (((H.mK 1 3 rfl rfl (by decide)).imp fun _ h => aN.rd h).HK)), ?_⟩
   rintro w25 ⟨hO, hB⟩
   replace H := H.called 1 rfl hO hB
   refine ⟨[_, _], ⟨⟨_, rfl, cY iQ (aN.aF (H.l 1 rfl) (aK.all _) rfl)⟩, ⟨_, rfl, cY vE (aN.aF (H.l 0 rfl) (aK.all _) rfl)⟩, trivial⟩, ?_⟩
   (refine ⟨aDy, _, true, rfl, ?_, ?_, fun h => (by cases h), H.cT, H.o 0 rfl, H.gA (H.bJ 0 rfl)⟩; (rw [TS, aFV, SS]; exact hrj.2 (by omega)); (rw [aFy, ← hhp, zR]))
  ·
   try simp only [bP] at nN
   (obtain rfl : f47 = false := nN)
   refine WE.skip ?_
   refine WE.bG (.take 0 (.take 1 (.aG 2 (.aG 3 .done)))) mixed (by kernel_rfl) ?_
   replace H := H.out (Out.drew _)
   refine WP.aM rfl rfl (RV.aV rfl iQ rfl) (aN.aF (H.l 1 rfl) (aK.all _) rfl) (WP.aM rfl rfl (RV.aV rfl vE rfl) (aN.aF (H.l 0 rfl) (aK.all _) rfl) (WP.aG rfl ?_))
   refine WL.aW H 1 rfl rfl rfl (new := _) rfl (by exact mI) (bB _ rfl) (Laid.at (Laid.all (by simp only [aS, aY, aB])) rfl) rfl ?_
   intro w26 H
   refine WL.nil ⟨(fa (fun _ _ => (aN.aF (H.l 0 rfl) (aK.all _) rfl)) (fa (nw 2 0) c8)), ?_⟩
   refine WP.aG rfl ?_
   refine WL.aW H 0 rfl rfl rfl (new := _) rfl (by exact XP) (bB _ rfl) (Laid.at (Laid.all (by simp only [aS, aY, aB])) rfl) rfl ?_
   intro w27 H
   refine WL.nil ⟨(fa (nw 3 1) (fa (nw 3 0) c8)), ?_⟩
   refine WP.done (WE.ret ?_)
   refine Or.inr ⟨_, _, _, _, rfl, yR, (by exact sU (X := Nil) (oD _) (H.l 1 rfl) (((H.mK 1 0 rfl rfl (by decide)).imp fun _ h => aN.rd h).HK) (((H.mK 1 3 rfl rfl (by decide)).imp fun _ h => aN.rd h).HK) rfl), ?_⟩
   rintro w28 ⟨hO, hB⟩
   replace H := H.called 1 rfl hO hB
   refine ⟨[_, _], ⟨⟨_, rfl, cY iQ (aN.aF (H.l 1 rfl) (aK.all _) rfl)⟩, ⟨_, rfl, cY vE (aN.aF (H.l 0 rfl) (aK.all _) rfl)⟩, trivial⟩, ?_⟩
   (have hh : kL M k = false := (by rw [← hhp, zR, ← aFy]); refine ⟨Tr.inner a l r, _, false, rfl, ?_, hh.symm, fun _ => ⟨rfl, (aJm rfl).2⟩, H.cT, H.o 0 rfl, H.gA (by exact H.bJ 2 rfl)⟩; (rw [CF hh]; exact hT))
theorem V2 : ∀ T : Tr, aDE T
 | .nil => fun hX h0 h1 _ h3 hb hk hT hp _ => aAu hX h0 h1 h3 hb hk hT hp
 | .leaf a q u s => fun hX h0 h1 h2 h3 hb hk hT hp _ => by
  rename_i k _ _
  by_cases hq : q = k
  ·
   refine (KH hX h0 h1 h2 h3 hb hk hT hp hq).mono ?_
   rintro v w' ⟨T', c, f, h⟩
   exact ⟨T', c, f, h⟩
  ·
   refine (KG hX h0 h1 h2 h3 hb hk hT hp hq).mono ?_
   rintro v w' ⟨T', c, f, h⟩
   exact ⟨T', c, f, h⟩
 | .inner a l r => fun hX h0 h1 h2 h3 hb hk hT hp hl => PJ hX h0 h1 h2 h3 hb hk hT hp hl (V2 l) (V2 r)
theorem aCk {X : Nat → Prop} {w : World} {bh bc : Nat} {bits c0 : Int} {T : Tr} {M : List En} {k : List UInt8} {d : Nat} (hX : c6 X w) (ho : aN w bc 213 [.int .i64 c0]) (bT : aH (fun c => X c ∨ c = bc) (fO bh bc bits) w) (dJ : aH (fun c => X c ∨ c = bc) (cV bits T) w) (fQ : aH (fun c => X c ∨ c = bc) aZ w)
  (hb : 0 ≤ bits ∧ bits ≤ 256) (hk : k.length = 32) (hT : T.er = grow d M) (hp : Pm d M) (hl : M.length ≤ 1000000000) :
  bC prog 91 [.pointer (some ⟨bh, 0, none⟩), T.ptr, .agg (kc k).toArray, .int .i64 (d : Int)].toArray w fun v w' => ∃ (T' : Tr) (c : Int) (f : Bool), v = .tuple [T'.ptr, .bool f].toArray ∧ T'.er = grow d (fJ M k) ∧ f = kL M k ∧ (f = false → T' = T ∧ c = c0) ∧ Out (· = bc) w w' ∧ aN w' bc 213 [.int .i64 c] ∧ aH (fun c => X c ∨ c = bc) (cV bits T') w' :=
 V2 T hX ho bT dJ fQ hb hk hT hp hl
theorem PK {X : Nat → Prop} {w : World} {bh bc : Nat} {bits c0 : Int} {T : Tr} {M : List En} {k : List UInt8} (hX : c6 X w) (fA : aN w bc 213 ([.int .i64 c0])) (bT : aH (fun c_ => X c_ ∨ c_ = bc) (fO bh bc bits) w) (dJ : aH (fun c_ => X c_ ∨ c_ = bc) (cV bits T) w) (fQ : aH (fun c_ => X c_ ∨ c_ = bc) (aZ) w) (bU : 0 ≤ bits ∧ bits ≤ 256) (hk : k.length = 32) (hT : T.er = grow 0 M) (nL : Pm 0 M) (hlen : M.length ≤ 1000000000) :
  bC prog 52 [.pointer (some ⟨bh, 0, none⟩), T.ptr, .agg (kc k).toArray].toArray w fun v w' => ∃ (T' : Tr) (c : Int) (f : Bool), v = .tuple [T'.ptr, .bool f].toArray ∧ T'.er = grow 0 (fJ M k) ∧ f = kL M k ∧ (f = false → T' = T ∧ c = c0) ∧ Out (· = bc) w w' ∧ aN w' bc 213 [.int .i64 c] ∧ aH (fun c => X c ∨ c = bc) (cV bits T') w' := by
 refine bC.aI (N := 14) func52 rfl rfl (by simp) ?_
 have H := (((St.dK (b := bc) (t := 213) (l := [.int .i64 c0]) hX fA).add (cC fQ)).add (cC dJ)).add (cC bT)
 refine WE.aA ?_
 refine WL.box (l := kc k) H rfl rfl rfl ?_
 intro b5 w1 H
 refine WL.as rfl rfl (WL.as rfl rfl (WL.nil (WE.aA (WL.mv rfl rfl (WL.mv rfl rfl ?_)))))
 refine WL.bE rfl c7 rfl rfl (aN.aF (H.l 0 rfl) (aK.all _) rfl) (cI cM (by simp only [aS, aY, aB]; omega)) ?_
 refine WL.call aC7 rfl (aCk (T := T) (M := M) (k := k) (d := 0) (bits := bits) H.aR (H.o 0 rfl) (by exact H.aO 0 rfl 0 rfl) (by exact H.aO 0 rfl 1 rfl) (by exact H.aO 0 rfl 2 rfl) (by assumption) (by assumption) (by assumption) (by assumption) (by assumption)) ?_
 rintro _ w2 ⟨aKP, aKx, aJQ, rfl, aFT, aFx, aFg, hO, hB, hR⟩
 replace H := H.dP 0 rfl hO hB hR
 refine WL.pv (PV.extract rfl rfl rfl) rfl (WL.pv (PV.extract rfl rfl rfl) rfl (WL.as rfl rfl (WL.as rfl rfl (WL.nil (WE.ret ⟨[_, _], _, .nil _, ⟨rfl, rfl, trivial⟩, ?_⟩)))))
 exact ⟨aKP, aKx, aJQ, rfl, aFT, aFx, aFg, H.cT, H.o 0 rfl, H.gA (H.bJ 0 rfl)⟩
def fE (v : Value) (ks : List (List UInt8)) (w : World) : Prop := cO w v 32 ks.length (ks.flatMap kc)
def K32 (ks : List (List UInt8)) : Prop := ∀ k ∈ ks, k.length = 32
theorem aCA : ∀ (ks : List (List UInt8)) (hk : K32 ks) (i : Nat) (hi : i < ks.length), ((ks.flatMap kc).drop (i * 32)).take 32 = kc ks[i] := by
 intro ks
 induction ks with
 | nil => intro _ i hi; simp at hi
 | cons x ks ih =>
  intro hk i hi
  have hx := hk x (by simp)
  have hl : (kc x).length = 32 := by rw [aJ, hx]
  cases i with
  | zero =>
   rw [List.flatMap_cons, Nat.zero_mul, List.drop_zero, List.take_left' hl]; rfl
  | succ i =>
   rw [List.flatMap_cons, show (i + 1) * 32 = 32 + i * 32 by omega, ← List.drop_drop, List.drop_left' hl]
   exact ih (fun k h => hk k (List.mem_cons_of_mem _ h)) i (by simpa using hi)
theorem fE.rd {v : Value} {ks : List (List UInt8)} {w : World} (h : fE v ks w) (hk : K32 ks) (i : Nat) (hi : i < ks.length) : dD w (jS v (i * 32)) (kc ks[i]) := by
 have := cO.rd h i hi
 rwa [aCA ks hk i hi] at this
section
variable {α : Type} {C : α → List Value} {sz : Nat}
theorem dL : ∀ (l : List α), (∀ x ∈ l, (C x).length = sz) → (l.flatMap C).length = l.length * sz
 | [], _ => by simp
 | x :: l, h => by
  rw [List.flatMap_cons, List.length_append, h x (by simp), dL l (fun y hy => h y (List.mem_cons_of_mem _ hy)), List.length_cons, Nat.succ_mul]; omega
theorem BI (l : List α) (h : ∀ x ∈ l, (C x).length = sz) (i : Nat) (hi : i < l.length) : l.flatMap C = (l.take i).flatMap C ++ (C l[i] ++ (l.drop (i + 1)).flatMap C) ∧ ((l.take i).flatMap C).length = i * sz := by
 refine ⟨?_, ?_⟩
 ·
  have e : l = l.take i ++ l[i] :: l.drop (i + 1) := by rw [← List.drop_eq_getElem_cons hi, List.take_append_drop]
  conv => lhs; rw [e]
  rw [List.flatMap_append, List.flatMap_cons]
 ·
  rw [dL _ (fun x hx => h x (List.mem_of_mem_take hx)), List.length_take]; congr 1; omega
theorem tM (l : List α) (h : ∀ x ∈ l, (C x).length = sz) (i : Nat) (hi : i < l.length) : ((l.flatMap C).drop (i * sz)).take sz = C l[i] := by
 obtain ⟨e, e2⟩ := BI l h i hi
 rw [e, List.drop_left' e2, List.take_left' (h _ (List.getElem_mem hi))]
theorem L5 (l : List α) (h : ∀ x ∈ l, (C x).length = sz) (rest : List Value) (lo : Nat) (hlo : lo ≤ l.length) : aK (l.flatMap C ++ rest) (lo * sz) ((l.drop lo).flatMap C) := by
 refine ⟨(l.take lo).flatMap C, rest, ?_, ?_⟩
 ·
  rw [← List.append_assoc, ← List.flatMap_append, List.take_append_drop]
 ·
  rw [dL _ (fun x hx => h x (List.mem_of_mem_take hx)), List.length_take]; congr 1; omega
theorem qI (l : List α) (h : ∀ x ∈ l, (C x).length = sz) (rest : List Value) {i oo : Nat} (hi : i < l.length) {x : α} (hx : (C x).length = sz) (ho : oo = i * sz) : Laid (l.flatMap C ++ rest) oo (C x) ((l.set i x).flatMap C ++ rest) := by
 subst ho
 refine Laid.left ?_
 obtain ⟨e, e2⟩ := BI l h i hi
 have e3 : (l.set i x).flatMap C = (l.take i).flatMap C ++ (C x ++ (l.drop (i + 1)).flatMap C) := by
  rw [List.set_eq_take_append_cons_drop, if_pos hi, List.flatMap_append, List.flatMap_cons]
 rw [e, e3]
 exact Laid.right (o := 0) (Laid.left (Laid.all (by rw [h _ (List.getElem_mem hi), hx]))) (by rw [e2]; omega)
theorem F3 (l : List α) (h : ∀ x ∈ l, (C x).length = sz) (t : Nat) (ht : t ≤ l.length) (rest : List Value) : (l.flatMap C ++ rest).take (t * sz) = (l.take t).flatMap C := by
 have h1 : ((l.take t).flatMap C).length = t * sz := by rw [dL _ (fun x hx => h x (List.mem_of_mem_take hx)), List.length_take]; congr 1; omega
 have h2 : l.flatMap C = (l.take t).flatMap C ++ (l.drop t).flatMap C := by rw [← List.flatMap_append, List.take_append_drop]
 rw [h2, List.append_assoc, List.take_left' h1]
theorem L2 (l : List α) (h : ∀ x ∈ l, (C x).length = sz) (lo n : Nat) (hlo : lo + n ≤ l.length) : ((l.flatMap C).drop (lo * sz)).take (n * sz) = ((l.drop lo).take n).flatMap C := by
 have h2 : l.flatMap C = (l.take lo).flatMap C ++ (l.drop lo).flatMap C := by rw [← List.flatMap_append, List.take_append_drop]
 have h1 : ((l.take lo).flatMap C).length = lo * sz := by rw [dL _ (fun x hx => h x (List.mem_of_mem_take hx)), List.length_take]; congr 1; omega
 rw [h2, List.drop_left' h1]
 have := F3 (C := C) (l.drop lo) (fun x hx => h x (List.mem_of_mem_drop hx)) n (by rw [List.length_drop]; omega) []
 rwa [List.append_nil] at this
end
structure Ch where
 k : List UInt8
 s : Value
 v : List UInt8
 d : Bool
def eL (c : Ch) : List Value := kc c.k ++ ([c.s] ++ [.bool c.d])
def XL (l : List Ch) : Prop := ∀ c ∈ l, c.k.length = 32
def gN (v : Value) (l : List Ch) (w : World) : Prop := cO w v 34 l.length (l.flatMap eL)
def iA (l : List Ch) (w : World) : Prop := ∀ c ∈ l, bL c.s c.v w
def sL (l : List Ch) : Prop := l.Pairwise fun a b => num a.k < num b.k
def pP (l : List Ch) : Prop := ∀ c ∈ l, c.v.length ≤ 1000000
theorem jN {c : Ch} (h : c.k.length = 32) : (eL c).length = 34 := by simp [eL, aJ, h]
theorem XL.len {l : List Ch} (h : XL l) : ∀ c ∈ l, (eL c).length = 34 := fun c hc => jN (h c hc)
theorem XL.take {l : List Ch} (h : XL l) (i : Nat) : XL (l.take i) := fun c hc => h c (List.mem_of_mem_take hc)
theorem XL.drop {l : List Ch} (h : XL l) (i : Nat) : XL (l.drop i) := fun c hc => h c (List.mem_of_mem_drop hc)
theorem XL.sub {l m : List Ch} (h : XL l) (hs : ∀ c ∈ m, c ∈ l) : XL m := fun c hc => h c (hs c hc)
theorem iA.sub {l m : List Ch} {w : World} (h : iA l w) (hs : ∀ c ∈ m, c ∈ l) : iA m w := fun c hc => h c (hs c hc)
theorem mC {c : Ch} (h : c.s.oneCell' = true) : eO (eL c) := bN (bH _) (bN (eF h) (bB _ rfl))
theorem gN.rd {v : Value} {l : List Ch} {w : World} (h : gN v l w) (hk : XL l) (i : Nat) (hi : i < l.length) : dD w (jS v (i * 34)) (eL l[i]) := by
 have := cO.rd h i hi
 rwa [tM l hk.len i hi] at this
theorem gN.sub {v : Value} {l : List Ch} {w : World} (h : gN v l w) (hk : XL l) {lo hi : Nat} (h1 : lo ≤ hi) (h2 : hi ≤ l.length) : gN (jO v 34 lo hi) ((l.drop lo).take (hi - lo)) w := by
 have := cO.sub h h1 h2
 rw [L2 l hk.len lo (hi - lo) (by omega)] at this
 unfold gN
 rwa [show ((l.drop lo).take (hi - lo)).length = hi - lo by simp; omega]
theorem gN.NJ {v : Value} {l : List Ch} {w : World} (h : gN v l w) (hk : XL l) {lo hi : Nat} (h1 : lo ≤ hi) (h2 : hi ≤ l.length) : gN (nK v 34 lo hi) ((l.drop lo).take (hi - lo)) w := by
 have := cO.NJ h h1 h2
 rw [L2 l hk.len lo (hi - lo) (by omega)] at this
 unfold gN
 rwa [show ((l.drop lo).take (hi - lo)).length = hi - lo by simp; omega]
def Ch.en (c : Ch) : En := ⟨c.k, c.s, c.v⟩
def zB (m : List En) (c : Ch) : List En := if c.d then fJ m c.k else iC m c.en
def mG (m : List En) (l : List Ch) : List En := l.foldl zB m
theorem aAm {m : List En} {c : Ch} (h : k9 m) (hk : KL m) (hc : c.k.length = 32) : k9 (zB m c) ∧ KL (zB m c) := by
 unfold zB
 split
 ·
  exact ⟨h.filter _, fun e he => hk e (jK.1 he).1⟩
 ·
  exact ⟨xW h hk hc, CI hk hc⟩
theorem LK {m : List En} {c : Ch} {e : En} : e ∈ zB m c ↔ (c.d = false ∧ e = c.en) ∨ (e ∈ m ∧ e.k ≠ c.k) := by
 unfold zB
 split
 ·
  rename_i h
  rw [jK, h]; simp
 ·
  rename_i h
  have h2 : c.d = false := by simpa using h
  rw [oE, h2]; simp [Ch.en]
theorem k5 : ∀ (l : List Ch) (m : List En), k9 m → KL m → XL l → k9 (mG m l) ∧ KL (mG m l)
 | [], _, h, hk, _ => ⟨h, hk⟩
 | c :: l, m, h, hk, hx => by
  have h1 := aAm h hk (hx c (by simp))
  exact k5 l (zB m c) h1.1 h1.2 fun d hd => hx d (List.mem_cons_of_mem _ hd)
theorem k6 : ∀ (l : List Ch) (m : List En) (e : En), sL l → (e ∈ mG m l ↔ (∃ c ∈ l, c.d = false ∧ e = c.en) ∨ (e ∈ m ∧ ∀ c ∈ l, e.k ≠ c.k))
 | [], m, e, _ => by simp [mG]
 | c :: l, m, e, hl => by
  have h1 := List.pairwise_cons.1 hl
  have ih := k6 l (zB m c) e h1.2
  show e ∈ mG (zB m c) l ↔ _
  rw [ih, LK]
  constructor
  ·
   rintro (⟨x, hx, h2, h3⟩ | ⟨⟨h2, h3⟩ | ⟨h2, h3⟩, h4⟩)
   ·
    exact .inl ⟨x, List.mem_cons_of_mem _ hx, h2, h3⟩
   ·
    exact .inl ⟨c, by simp, h2, h3⟩
   ·
    refine .inr ⟨h2, fun x hx => ?_⟩
    rcases List.mem_cons.1 hx with rfl | hx
    ·
     exact h3
    ·
     exact h4 x hx
  ·
   rintro (⟨x, hx, h2, h3⟩ | ⟨h2, h3⟩)
   ·
    rcases List.mem_cons.1 hx with rfl | hx
    ·
     refine .inr ⟨.inl ⟨h2, h3⟩, fun y hy => ?_⟩
     have := h1.1 y hy
     rw [h3]
     intro hh
     have : num x.k = num y.k := congrArg num hh
     omega
    ·
     exact .inl ⟨x, hx, h2, h3⟩
   ·
    exact .inr ⟨.inr ⟨h2, h3 c (by simp)⟩, fun y hy => h3 y (List.mem_cons_of_mem _ hy)⟩
theorem sL.sub {l m : List Ch} (h : sL l) (hs : m.Sublist l) : sL m := List.Pairwise.sublist hs h
def l5 (l : List Ch) (d b : Nat) : List Ch := l.filter fun c => bI c.k d == b
theorem A1 (l : List Ch) (d b : Nat) : (l5 l d b).Sublist l := List.filter_sublist
theorem iI {l : List Ch} {d b : Nat} {c : Ch} : c ∈ l5 l d b ↔ c ∈ l ∧ bI c.k d = b := by simp [l5]
theorem GZ {m : List En} {l : List Ch} {d b : Nat} (hs : k9 m) (hk : KL m) (hx : XL l) (hl : sL l) : bO (mG m l) d b = mG (bO m d b) (l5 l d b) := by
 have h1 := k5 l m hs hk hx
 have h2 := k5 (l5 l d b) (bO m d b) hs.part (fun e he => hk e (iJ.1 he).1) (hx.sub fun c hc => (iI.1 hc).1)
 refine k9.ext h1.1.part h2.1 fun e => ?_
 rw [iJ, k6 _ _ _ hl, k6 _ _ _ (hl.sub (A1 l d b))]
 constructor
 ·
  rintro ⟨⟨c, hc, h3, rfl⟩ | ⟨h3, h4⟩, h5⟩
  ·
   exact .inl ⟨c, iI.2 ⟨hc, h5⟩, h3, rfl⟩
  ·
   exact .inr ⟨iJ.2 ⟨h3, h5⟩, fun c hc => h4 c (iI.1 hc).1⟩
 ·
  rintro (⟨c, hc, h3, rfl⟩ | ⟨h3, h4⟩)
  ·
   exact ⟨.inl ⟨c, (iI.1 hc).1, h3, rfl⟩, (iI.1 hc).2⟩
  ·
   have h5 := iJ.1 h3
   refine ⟨.inr ⟨h5.1, fun c hc hh => ?_⟩, h5.2⟩
   exact h4 c (iI.2 ⟨hc, by rw [← hh]; exact h5.2⟩) hh
def pW (d : Nat) (m : List En) (l : List Ch) : Prop := ∃ p, (∀ e ∈ m, pre d e.k = p) ∧ ∀ c ∈ l, pre d c.k = p
theorem pW.part {d b : Nat} {m : List En} {l : List Ch} (h : pW d m l) (hd : d < 256) (hk : KL m) (hx : XL l) : pW (d + 1) (bO m d b) (l5 l d b) := by
 obtain ⟨p, h1, h2⟩ := h
 refine ⟨2 * p + b, fun e he => ?_, fun c hc => ?_⟩
 ·
  have := iJ.1 he
  rw [lI _ (hk e this.1) d hd, h1 e this.1, this.2]
 ·
  have := iI.1 hc
  rw [lI _ (hx c this.1) d hd, h2 c this.1, this.2]
theorem pW.zero {m : List En} {l : List Ch} (hk : KL m) (hx : XL l) : pW 0 m l := ⟨0, fun e he => n5 _ (hk e he), fun c hc => n5 _ (hx c hc)⟩
theorem aDu {d : Nat} {m : List En} {l : List Ch} (hd : d ≤ 256) (hs : k9 m) (hk : KL m) (hx : XL l) (hl : sL l) (hn : pW d m l) : Pm d (mG m l) where
 le := hd
 kl := (k5 l m hs hk hx).2
 OR := (k5 l m hs hk hx).1.OR
 com := by
  obtain ⟨p, h1, h2⟩ := hn
  have h : ∀ e ∈ mG m l, pre d e.k = p := fun e he => by
   rcases (k6 _ _ _ hl).1 he with ⟨c, hc, _, rfl⟩ | ⟨he, _⟩
   ·
    exact h2 c hc
   ·
    exact h1 e he
  exact fun a ha b hb => (h a ha).trans (h b hb).symm
theorem pW.one {m : List En} {l : List Ch} (h : pW 256 m l) (hx : XL l) (hl : sL l) : l.length ≤ 1 := by
 obtain ⟨p, _, h2⟩ := h
 match l, hx, hl, h2 with
 | [], _, _, _ => simp
 | [a], _, _, _ => simp
 | a :: b :: l, _, hl, h2 =>
  exfalso
  have h3 := (List.pairwise_cons.1 hl).1 b (by simp)
  have h4 := h2 a (by simp)
  have h5 := h2 b (by simp)
  rw [qD] at h4 h5
  omega
def eQ (l : List Ch) : List Ch := l.filter fun c => !c.d
theorem A6 (l : List Ch) : (eQ l).Sublist l := List.filter_sublist
theorem jL {l : List Ch} {c : Ch} : c ∈ eQ l ↔ c ∈ l ∧ c.d = false := by simp [eQ]
theorem VJ {l : List Ch} (hx : XL l) (hl : sL l) : mG [] (eQ l) = mG [] l := by
 have h0 : k9 ([] : List En) := List.Pairwise.nil
 have h1 : KL ([] : List En) := fun _ h => by cases h
 refine k9.ext (k5 _ _ h0 h1 (hx.sub fun c hc => (jL.1 hc).1)).1 (k5 _ _ h0 h1 hx).1 fun e => ?_
 rw [k6 _ _ _ (hl.sub (A6 l)), k6 _ _ _ hl]
 constructor
 ·
  rintro (⟨c, hc, h2, h3⟩ | ⟨h, _⟩)
  ·
   exact .inl ⟨c, (jL.1 hc).1, h2, h3⟩
  ·
   cases h
 ·
  rintro (⟨c, hc, h2, h3⟩ | ⟨h, _⟩)
  ·
   exact .inl ⟨c, jL.2 ⟨hc, h2⟩, h2, h3⟩
  ·
   cases h
theorem O9 {l : List Ch} {e : En} (hx : XL l) (hl : sL l) (he : e.k.length = 32) (h : ∃ c ∈ l, c.k = e.k) : mG [e] l = mG [] l := by
 have h0 : k9 ([] : List En) := List.Pairwise.nil
 have h1 : KL ([] : List En) := fun _ h => by cases h
 have h2 : k9 [e] := List.pairwise_cons.2 ⟨(fun _ h => by cases h), .nil⟩
 have h3 : KL [e] := fun x hx => by rw [List.mem_singleton.1 hx]; exact he
 refine k9.ext (k5 _ _ h2 h3 hx).1 (k5 _ _ h0 h1 hx).1 fun x => ?_
 rw [k6 _ _ _ hl, k6 _ _ _ hl]
 obtain ⟨c, hc, hk⟩ := h
 constructor
 ·
  rintro (h | ⟨h4, h5⟩)
  ·
   exact .inl h
  ·
   rw [List.mem_singleton.1 h4] at h5
   exact absurd hk.symm (h5 c hc)
 ·
  rintro (h | ⟨h4, _⟩)
  ·
   exact .inl h
  ·
   cases h4
theorem MU {l l' : List Ch} {e : En} (hx : XL l) (hl : sL l) (SU : sL l') (he : e.k.length = 32) (hn : ∀ c ∈ l, c.k ≠ e.k) (hm : ∀ c, c ∈ l' ↔ c = ⟨e.k, e.s, e.v, false⟩ ∨ c ∈ l) : mG [] l' = mG [e] l := by
 have h0 : k9 ([] : List En) := List.Pairwise.nil
 have h1 : KL ([] : List En) := fun _ h => by cases h
 have h2 : k9 [e] := List.pairwise_cons.2 ⟨(fun _ h => by cases h), .nil⟩
 have h3 : KL [e] := fun x hx => by rw [List.mem_singleton.1 hx]; exact he
 have hx' : XL l' := fun c hc => by
  rcases (hm c).1 hc with rfl | h
  ·
   exact he
  ·
   exact hx c h
 refine k9.ext (k5 _ _ h0 h1 hx').1 (k5 _ _ h2 h3 hx).1 fun x => ?_
 rw [k6 _ _ _ SU, k6 _ _ _ hl]
 constructor
 ·
  rintro (⟨c, hc, h4, h5⟩ | ⟨h, _⟩)
  ·
   rcases (hm c).1 hc with rfl | hc
   ·
    exact .inr ⟨by rw [h5]; exact List.mem_singleton.2 rfl, fun c hc hh => hn c hc (by rw [← hh, h5]; rfl)⟩
   ·
    exact .inl ⟨c, hc, h4, h5⟩
  ·
   cases h
 ·
  rintro (⟨c, hc, h4, h5⟩ | ⟨h4, h5⟩)
  ·
   exact .inl ⟨c, (hm c).2 (.inr hc), h4, h5⟩
  ·
   exact .inl ⟨_, (hm _).2 (.inl rfl), rfl, List.mem_singleton.1 h4⟩
theorem aAl (l : List Ch) : ∀ m : List En, (mG m l).length ≤ m.length + l.length := by
 induction l with
 | nil => intro m; simp [mG]
 | cons c l ih =>
  intro m
  have h := ih (zB m c)
  have h1 : (zB m c).length ≤ m.length + 1 := by
   unfold zB
   split
   ·
    have := List.length_filter_le (fun x => decide (x.k ≠ c.k)) m; show (fJ m c.k).length ≤ _; unfold fJ; omega
   ·
    exact EV m c.en
  show (mG (zB m c) l).length ≤ _
  rw [List.length_cons]; omega
theorem EZ {l : List Ch} {d : Nat} {m : List En} (hx : XL l) (hl : sL l) (hn : pW d m l) (hd : d < 256) {r : Nat} (hr : r ≤ l.length) (hlo : ∀ i (h : i < l.length), i + 1 = r → bI l[i].k d ≠ 1) (hhi : ∀ h : r < l.length, bI l[r].k d = 1) : l.take r = l5 l d 0 ∧ l.drop r = l5 l d 1 := by
 obtain ⟨p, _, hp⟩ := hn
 have aBi : ∀ i j (hij : i < j) (hj : j < l.length), bI (l[i]'(by omega)).k d = 1 → bI l[j].k d = 1 := fun i j hij hj h1 => by
  have hi : i < l.length := by omega
  have hb := eA l[j].k d
  have hn' := List.pairwise_iff_getElem.1 hl i j hi hj hij
  rcases (show bI l[j].k d = 0 ∨ bI l[j].k d = 1 by omega) with h0 | h0
  ·
   have := A5 (hx _ (List.getElem_mem hj)) (hx _ (List.getElem_mem hi)) hd ((hp _ (List.getElem_mem hj)).trans (hp _ (List.getElem_mem hi)).symm) h0 h1
   omega
  ·
   exact h0
 have h0 : ∀ c ∈ l.take r, bI c.k d = 0 := fun c hc => by
  obtain ⟨i, hi, rfl⟩ := List.getElem_of_mem hc
  rw [List.length_take] at hi
  rw [List.getElem_take]
  have hb := eA (l[i]'(by omega)).k d
  rcases (show bI (l[i]'(by omega)).k d = 0 ∨ bI (l[i]'(by omega)).k d = 1 by omega) with h | h
  ·
   exact h
  ·
   exfalso
   have h2 := hlo (r - 1) (by omega) (by omega)
   apply h2
   rcases Nat.lt_or_ge i (r - 1) with h3 | h3
   ·
    exact aBi i (r - 1) h3 (by omega) h
   ·
    have : i = r - 1 := by omega
    subst this; exact h
 have h1 : ∀ c ∈ l.drop r, bI c.k d = 1 := fun c hc => by
  obtain ⟨i, hi, rfl⟩ := List.getElem_of_mem hc
  rw [List.length_drop] at hi
  rw [List.getElem_drop]
  rcases Nat.eq_zero_or_pos i with h | h
  ·
   subst h; exact hhi (by omega)
  ·
   exact aBi r (r + i) (by omega) (by omega) (hhi (by omega))
 have e : l = l.take r ++ l.drop r := (List.take_append_drop r l).symm
 constructor
 ·
  unfold l5
  conv => rhs; rw [e]
  rw [List.filter_append, List.filter_eq_self.2 (fun c hc => by rw [h0 c hc]; rfl), List.filter_eq_nil_iff.2 (fun c hc => by rw [h1 c hc]; simp), List.append_nil]
 ·
  unfold l5
  conv => rhs; rw [e]
  rw [List.filter_append, List.filter_eq_nil_iff.2 (fun c hc => by rw [h0 c hc]; simp), List.filter_eq_self.2 (fun c hc => by rw [h1 c hc]; rfl), List.nil_append]
theorem aGb {α : Type} {l : List α} {z : α} {i m : Nat} (h : i < l.length) : (l.take i ++ List.replicate (m + 1) z).set i l[i] = l.take (i + 1) ++ List.replicate m z := by
 have h1 : (l.take i).length = i := by rw [List.length_take]; omega
 rw [List.set_append_right (h := by omega), h1, Nat.sub_self, List.replicate_succ, List.set_cons_zero, List.take_succ_eq_append_getElem h, List.append_assoc]
 rfl
def KS (l : List Ch) (i : Nat) : List (List UInt8) := (l.map Ch.k).take i ++ List.replicate (l.length - i) (List.replicate 32 0)
theorem WD {l : List Ch} (h : XL l) (i : Nat) : ∀ k ∈ KS l i, (kc k).length = 32 := fun k hk => by
 rcases List.mem_append.1 hk with hk | hk
 ·
  obtain ⟨c, hc, rfl⟩ := List.mem_map.1 (List.mem_of_mem_take hk)
  rw [aJ]; exact h c hc
 ·
  rw [(List.mem_replicate.1 hk).2]; simp [aJ]
theorem aDO (l : List Ch) {i : Nat} (hi : i ≤ l.length) : (KS l i).length = l.length := by simp [KS]; omega
theorem aDN {l : List Ch} {i : Nat} (hi : i < l.length) : (KS l i).set i l[i].k = KS l (i + 1) := by
 have h := aGb (l := l.map Ch.k) (z := List.replicate 32 (0 : UInt8)) (i := i) (m := l.length - (i + 1)) (by rw [List.length_map]; exact hi)
 rw [List.getElem_map] at h
 unfold KS
 rw [show l.length - i = l.length - (i + 1) + 1 by omega]
 exact h
theorem WG (l : List Ch) : KS l l.length = l.map Ch.k := by
 unfold KS
 rw [List.take_of_length_le (by simp), Nat.sub_self]; simp
theorem xC (n m : Nat) (z : Value) (hm : 0 < m) : jY n (List.replicate m z) = List.replicate (n * m) z := by
 unfold jY
 simp only [List.length_replicate]
 refine List.ext_getElem (by simp) fun i h1 h2 => ?_
 rw [List.getElem_replicate, List.getElem_map, getElem!_pos (List.replicate m z) _ (by rw [List.length_replicate]; exact Nat.mod_lt _ hm), List.getElem_replicate]
theorem aAB (l : List Ch) : (KS l 0).flatMap kc = jY l.length (kc (List.replicate 32 0)) := by
 have e : kc (List.replicate 32 0) = List.replicate 32 (.int .u8 0) := by rfl
 have h1 : (KS l 0).flatMap kc = List.replicate (l.length * 32) (.int .u8 0) := by
  unfold KS
  rw [List.take_zero, List.nil_append, Nat.sub_zero, List.flatMap_replicate, e, List.flatten_replicate_replicate]
 rw [h1, e, xC _ _ _ (by decide)]
theorem G7 {l : List Ch} (h : XL l) : K32 (l.map Ch.k) := fun k hk => by
 obtain ⟨c, hc, rfl⟩ := List.mem_map.1 hk
 exact h c hc
theorem U1 {X : Nat → Prop} {w : World} {k : List UInt8} {s : Value} {d : Bool} (hX : c6 X w) (hk : k.length = 32) :
  bC prog 146 [.agg (kc k ++ ([s] ++ [Value.bool d])).toArray].toArray w fun v w' => v = .agg (kc k).toArray ∧ Out Nil w w' := by
 refine bC.aI (N := 5) func146 rfl rfl (by simp) ?_
 have H := St.begin hX
 refine WE.aA ?_
 refine WL.box (l := kc k ++ ([s] ++ [Value.bool d])) H rfl (rfl) rfl ?_
 intro b1 w1 H
 refine WL.alloc H rfl q7 rfl ?_
 intro b2 w2 H
 refine WL.nil (WE.aA (WL.pv (PV.fieldAddr rfl qV rfl) rfl ?_))
 refine WL.bE rfl c7 rfl rfl (aN.aF (H.l 1 rfl) (aK.l (aK.all _)) rfl) (cI cM (by simp only [aS]; omega)) ?_
 refine WL.aW H 0 rfl rfl rfl (new := _) rfl (cI cM (by simp only [aS]; omega)) (bH _) (Laid.at (Laid.all (by simp only [aS]; omega)) rfl) rfl ?_
 intro w3 H
 refine WL.nil (WE.ret ⟨[_], _, .nil _, ⟨⟨_, rfl, aU c7 (aN.aF (H.l 0 rfl) (aK.all _) rfl) (cI cM (by simp only [aS]; omega))⟩, trivial⟩, ?_⟩)
 exact ⟨rfl, H.aL⟩
theorem VF {X : Nat → Prop} {w : World} {k : List UInt8} {s : Value} {d : Bool} (hX : c6 X w) (hk : k.length = 32) :
  bC prog 152 [.agg (kc k ++ ([s] ++ [Value.bool d])).toArray].toArray w fun v w' => v = .agg (kc k).toArray ∧ Out Nil w w' := by
 refine bC.aI (N := 5) func152 rfl rfl (by simp) ?_
 have H := St.begin hX
 refine WE.aA ?_
 refine WL.box (l := kc k ++ ([s] ++ [Value.bool d])) H rfl (rfl) rfl ?_
 intro b1 w1 H
 refine WL.alloc H rfl q7 rfl ?_
 intro b2 w2 H
 refine WL.nil (WE.aA (WL.pv (PV.fieldAddr rfl qV rfl) rfl ?_))
 refine WL.bE rfl c7 rfl rfl (aN.aF (H.l 1 rfl) (aK.l (aK.all _)) rfl) (cI cM (by simp only [aS]; omega)) ?_
 refine WL.aW H 0 rfl rfl rfl (new := _) rfl (cI cM (by simp only [aS]; omega)) (bH _) (Laid.at (Laid.all (by simp only [aS]; omega)) rfl) rfl ?_
 intro w3 H
 refine WL.nil (WE.ret ⟨[_], _, .nil _, ⟨⟨_, rfl, aU c7 (aN.aF (H.l 0 rfl) (aK.all _) rfl) (cI cM (by simp only [aS]; omega))⟩, trivial⟩, ?_⟩)
 exact ⟨rfl, H.aL⟩
theorem VG {X : Nat → Prop} {w : World} {k : List UInt8} {s : Value} {d : Bool} (hX : c6 X w) (hk : k.length = 32) :
  bC prog 150 [.agg (kc k ++ ([s] ++ [Value.bool d])).toArray].toArray w fun v w' => v = .bool d ∧ Out Nil w w' := by
 refine bC.aI (N := 5) func150 rfl rfl (by simp) ?_
 have H := St.begin hX
 refine WE.aA ?_
 refine WL.box (l := kc k ++ ([s] ++ [Value.bool d])) H rfl (rfl) rfl ?_
 intro b1 w1 H
 refine WL.as rfl rfl (WL.nil (WE.aA (WL.pv (PV.fieldAddr rfl ZZ rfl) rfl ?_)))
 refine WL.aX rfl vE rfl rfl (aN.aF (H.l 0 rfl) (aK.r (aK.r (aK.all _) rfl) rfl) (by simp [aJ, aQ, *])) ?_
 refine WL.as rfl rfl (WL.nil (WE.ret ⟨[_], _, .nil _, ⟨rfl, trivial⟩, ?_⟩))
 exact ⟨rfl, H.aL⟩
theorem SE {X : Nat → Prop} {w : World} {s f : Value} {l : List Ch} (hX : c6 X w) (bT : aH X (gN s l) w) (hx : XL l) (hlen : l.length ≤ 1000000) (iD : ∀ c ∈ l, c.s.oneCell' = true) (hf : ∀ (c : Ch) (W : World), c.k.length = 32 → eR prog f [.agg (eL c).toArray] W fun v W' => v = .agg (kc c.k).toArray ∧ Out Nil W W') :
  bC prog 145 [s, f].toArray w fun v w' => Out Nil w w' ∧ aH X (fE v (l.map Ch.k)) w' := by
 refine bC.aI (N := 26) func145 rfl rfl (by simp) ?_
 have H := (St.begin hX).add (cE bT)
 refine WE.aA (WL.as rfl rfl (WL.nil (WE.aA (WL.mv rfl rfl ?_))))
 refine WL.pv (PV.dS (by exact (H.p 0 rfl : gN s l _)) eE rfl) rfl ?_
 refine WL.makeSlice (n := l.length) H rfl aEv rfl (by omega) (by omega) rfl ?_
 intro vB w2 H
 replace H := H.conv (L' := [aP.blk vB 24 ((KS l 0).flatMap kc)]) (by rw [aAB])
 refine WL.as rfl rfl (WL.nil (WE.seq (WE.aA (WL.mv rfl rfl ?_))))
 refine WL.pv (PV.dS (by exact (H.p 0 rfl : gN s l _)) eE rfl) rfl ?_
 refine WL.mv rfl rfl (WL.nil (WE.block ?_))
 refine WE.loop (α := Nat) (rg [(6, 2), (13, 12)]) (fun i => [(13, .int .i64 (i : Int))]) (fun i wl => i ≤ l.length ∧ St X w wl [] [aP.blk vB 24 ((KS l i).flatMap kc)] [gN s l]) (fun i => l.length - i) 0 ⟨rfl, trivial⟩ ⟨Nat.zero_le _, H⟩ ?_
 intro i γ0 w4 hI
 try dsimp only at hI
 obtain ⟨hi, H⟩ := hI
 refine WE.aA (WL.pv (PV.lss rfl rfl rfl) rfl (WL.nil (WE.seq ?_)))
 refine WE.cond rfl (fun pG => ?_) (fun pG => ?_)
 ·
  try simp only [bP] at pG
  have hlt : i < l.length := by omega
  have hki := hx _ (List.getElem_mem hlt)
  have TL := jN hki
  have hks := aDN hlt
  refine WE.skip (WE.seq (WE.block (WE.aA (WL.mv rfl rfl ?_))))
  refine WL.pv (PV.dX rfl (by exact (H.p 0 rfl : gN s l _)) eE eU rfl rfl (by omega) (by omega)) rfl ?_
  refine WL.bE rfl tT rfl rfl (gN.rd (by exact (H.p 0 rfl : gN s l _)) hx i hlt) (by (rw [eU]; refine congrArg some ?_; (simp [aJ, aQ, *]; done))) ?_
  refine WL.alloc H rfl AL rfl ?_
  intro b7 w5 H
  refine WL.as rfl rfl ?_
  refine WL.aW H 0 rfl rfl rfl (new := eL l[i]) rfl (by (rw [eU]; refine congrArg some ?_; (simp [aJ, aQ, *]; done))) (mC (iD _ (List.getElem_mem hlt))) (Laid.at (Laid.all (by simp only [aS]; omega)) rfl) rfl ?_
  intro w6 H
  refine WL.nil (WE.dW (WL.mv rfl rfl (WL.mv rfl rfl (WL.mv rfl rfl ?_))))
  refine WL.bE rfl tT rfl rfl (aN.aF (H.l 0 rfl) (aK.all _) rfl) (by (rw [eU]; refine congrArg some ?_; (simp [aJ, aQ, *]; done))) ?_
  refine WL.iZ rfl rfl (hf l[i] _ hki) ?_
  rintro _ w8 ⟨rfl, hO⟩
  replace H := H.out hO
  refine WL.pv (PV.eq (v' := .pointer (some ⟨vB, i * 32, none⟩)) (PV.wQ rfl xL cM rfl rfl (by omega) (by omega)) (by simp)) rfl ?_
  refine WL.aW H 1 rfl rfl rfl (new := kc l[i].k) rfl (cI cM (by simp only [aS]; omega)) (bH _) (by have h_ := qI (C := kc) (KS l i) (WD hx i) [] (i := i) (x := l[i].k) (by rw [aDO _ (by omega)]; exact hlt) (by rw [aJ]; exact hki) rfl; rw [List.append_nil, List.append_nil] at h_; exact h_) rfl ?_
  intro tX H
  refine WL.nil (WE.dW (WL.pv (PV.eq (v' := .int .i64 ((i + 1 : Nat) : Int)) (PV.bV rfl rfl rfl (by omega) (by omega)) rfl) rfl (WL.mv rfl rfl (WL.nil ?_))))
  replace H := H.forget 0
  exact ⟨i + 1, (by repeat (first | with_reducible exact bK.refl _ _ | refine bK.dG rfl ?_ | refine bK.bZ rfl ?_ | refine bK.bX rfl ?_)), ⟨rfl, trivial⟩, rfl, ⟨by omega, H.conv (by rw [← hks]; rfl)⟩, (by omega)⟩
 ·
  try simp only [bP] at pG
  have vR : i = l.length := by omega
  refine WE.exit (WE.aA (WL.mv rfl rfl (WL.as rfl rfl (WL.nil (WE.ret ⟨[_], _, .nil _, ⟨rfl, trivial⟩, ?_⟩)))))
  subst vR
  rw [WG] at H
  replace H := H.freeze (i := 0) rfl
  exact ⟨H.aL, H.fX ((H.bJ 0 rfl).imp fun _ h => by have h_ := cO.cA (n := l.length) h (by rw [dL _ (WD hx l.length |> fun q => by rw [WG] at q; exact q), List.length_map]); unfold fE; rw [List.length_map]; exact h_)⟩
def wU (g : FuncId) : Value := .func (.func g) ([] : List Value).toArray ([] : List Value).toArray
theorem GJ (c : Ch) (W : World) (h : c.k.length = 32) : eR prog (wU 146) [.agg (eL c).toArray] W fun v W' => v = .agg (kc c.k).toArray ∧ Out Nil W W' :=
 eR.jQ (fs := []) (cs := []) aHb (U1 (X := Nil) (fun _ h => h.elim) h)
theorem GW (c : Ch) (W : World) (h : c.k.length = 32) : eR prog (wU 152) [.agg (eL c).toArray] W fun v W' => v = .agg (kc c.k).toArray ∧ Out Nil W W' :=
 eR.jQ (fs := []) (cs := []) aG6 (VF (X := Nil) (fun _ h => h.elim) h)
theorem GX (c : Ch) (W : World) (h : c.k.length = 32) : eR prog (wU 150) [.agg (eL c).toArray] W fun v W' => v = .bool c.d ∧ Out Nil W W' :=
 eR.jQ (fs := []) (cs := []) aG8 (VG (X := Nil) (fun _ h => h.elim) h)
open Go.ChangeShapes Go.WideShapes Go.ChangeAt
instance : Inhabited En := ⟨⟨[], .slice none 0 0, []⟩⟩
open Go.ChangeShapes Go.WideShapes Go.ChangeAt
end Go.Sp.Tryz
