/- Part of the proof of this claim: walks through the program's functions and the plain laws that they need, printed by a program of this session. -/
import Derived.Test.YthkombhebdjamaaGreatDoorP3
import Derived.Test.YthkombhebdjamaaGreatDoorP4
import Derived.Test.YthkombhebdjamaaGreatDoorShf
import Derived.Maps.OwnSet
import Derived.WideKeyArr
import Derived.Test.YthkombhebdjamaaGreatDoorP2
import Derived.Test.YthkombhebdjamaaGreatDoorOpen2
set_option maxRecDepth 100000
set_option maxHeartbeats 1000000
set_option linter.unusedVariables false
set_option linter.unusedSimpArgs false
namespace Go.Sp.Tryz
open Go.Proofs Go.RowKit Go.Sp Go.Sp.TryzT Go.Proofs.Tryz
variable {X : Nat → Prop} {w : World}
theorem P9 {w : World} {a : Addr} {u : Up} (h : dA w a (QC u)) : dA w (a.add 0) [u.sk] := h.sub (aK.l (aK.all _))
theorem WN {w : World} {a : Addr} {u : Up} (h : dA w a (QC u)) : dA w (a.add 1) [u.sv] := h.sub (aK.r (o := 0) (aK.l (aK.all _)) rfl)
theorem aDU {w : World} {a : Addr} {u : Up} (h : dA w a (QC u)) : dA w (a.add 2) [.bool u.d] := h.sub (aK.r (o := 1) (aK.r (o := 0) (aK.all _) rfl) rfl)
theorem dU.k {l : List Up} {w : World} (h : dU l w) {i : Nat} (hi : i < l.length) : bJ l[i].sk l[i].k w := (h _ (List.getElem_mem hi)).1
theorem dU.v {l : List Up} {w : World} (h : dU l w) {i : Nat} (hi : i < l.length) : bJ l[i].sv l[i].v w := (h _ (List.getElem_mem hi)).2
theorem dU.uv {l : List Up} {w : World} (h : dU l w) {i : Nat} (hi : i < l.length) : bJ (if l[i].d then .slice none 0 0 else l[i].sv) l[i].uv w := by
 unfold Up.uv
 cases hd : l[i].d
 ·
  exact h.v hi
 ·
  exact bJ.nil w
theorem K0 {o : rI} {w : World} (h : OV o w) : eN (AR o) := bN (bA _ rfl) (bN (eE (cN.fX h.1)) (bN (eE (cN.fX h.2.1)) (eE (cN.fX h.2.2.1))))
theorem XN {u : Up} {w : World} (h : bJ u.sk u.k w ∧ bJ u.sv u.v w) : eN (QC u) := bN (eE (cN.fX h.1)) (bN (eE (cN.fX h.2)) (bA _ rfl))
theorem NF {l : List Up} {i : Nat} {u : Up} (h : u ∈ l.take i) : ∃ j, ∃ hj : j < l.length, j < i ∧ l[j] = u := by
 obtain ⟨j, hj, rfl⟩ := List.getElem_of_mem h
 rw [List.length_take] at hj
 exact ⟨j, by omega, by omega, by rw [List.getElem_take]⟩
theorem oZ {X : Nat → Prop} {w : World} {s sv : Value} {lb vv : List UInt8} (hX : cY X w) (bU : aJ X (bJ s lb) w) (dI : aJ X (bJ sv vv) w) :
  bC prog 42 [s, sv].toArray w fun v w' => v = .int .i64 (cD lb vv) ∧ Out Nil w w' := by
 refine bC.aH (N := 11) func42 rfl rfl (by simp) ?_
 have H := ((St.begin hX).add (cE dI)).add (cE bU)
 refine WE.aA (WL.as rfl rfl (WL.nil (WE.seq (WE.aA (WL.mv rfl rfl ?_)))))
 refine WL.pv (PV.dR (by exact (H.p 0 rfl : (bJ s lb) _)) eM rfl) rfl ?_
 refine WL.pv (PV.neq rfl rfl rfl) rfl (WL.nil ?_)
 refine WE.cond rfl (fun vU => ?_) (fun vU => ?_)
 ·
  try simp only [bW] at vU
  have h7 : lb.length ≠ 32 := by omega
  refine WE.aA (WL.as rfl rfl (WL.nil (WE.ret ⟨[_], _, .nil _, ⟨rfl, trivial⟩, ?_⟩)))
  refine ⟨?_, H.aL⟩
  show Value.int .i64 2 = _
  rw [show cD lb vv = 2 from if_pos h7]
 ·
  try simp only [bW] at vU
  have h7 : lb.length = 32 := by omega
  refine WE.skip (WE.seq (WE.aA (WL.mv rfl rfl ?_)))
  refine WL.pv (PV.dR (by exact (H.p 1 rfl : (bJ sv vv) _)) eM rfl) rfl ?_
  refine WL.pv (PV.gtr rfl rfl rfl) rfl (WL.nil ?_)
  refine WE.cond rfl (fun j5 => ?_) (fun j5 => ?_)
  ·
   try simp only [bW] at j5
   have h10 : 65535 < vv.length := by omega
   refine WE.aA (WL.as rfl rfl (WL.nil (WE.ret ⟨[_], _, .nil _, ⟨rfl, trivial⟩, ?_⟩)))
   refine ⟨?_, H.aL⟩
   show Value.int .i64 3 = _
   rw [show cD lb vv = 3 by unfold cD; rw [if_neg (by omega), if_pos h10]]
  ·
   try simp only [bW] at j5
   have h10 : ¬ 65535 < vv.length := by omega
   refine WE.skip (WE.aA (WL.as rfl rfl (WL.nil (WE.ret ⟨[_], _, .nil _, ⟨rfl, trivial⟩, ?_⟩))))
   refine ⟨?_, H.aL⟩
   show Value.int .i64 0 = _
   rw [show cD lb vv = 0 by unfold cD; rw [if_neg (by omega), if_neg h10]]
theorem LM {X : Nat → Prop} {w : World} {s : Value} {l : List Up} (hX : cY X w) (bU : aJ X (j8 s l) w) (dI : aJ X (dU l) w) (hlen : l.length ≤ 9223372036854775807) (LC : ∀ u ∈ l, u.k.length ≤ 9223372036854775807 ∧ u.v.length ≤ 9223372036854775807) :
  bC prog 41 [s].toArray w fun v w' => ∃ b : Bool, v = .bool b ∧ (b = true → DJ l) ∧ Out Nil w w' := by
 refine bC.aH (N := 41) func41 rfl rfl (by simp) ?_
 have H := ((St.begin hX).add (cE dI)).add (cE bU)
 refine WE.aA (WL.as rfl rfl (WL.nil (WE.seq (WE.aA (WL.mv rfl rfl ?_)))))
 refine WL.pv (PV.dR (by exact (H.p 0 rfl : (j8 s l) _)) oT rfl) rfl ?_
 refine WL.pv (PV.gtr rfl rfl rfl) rfl (WL.nil ?_)
 refine WE.cond rfl (fun vU => ?_) (fun vU => ?_)
 ·
  try simp only [bW] at vU
  refine WE.aA (WL.as rfl rfl (WL.nil (WE.ret ⟨[_], _, .nil _, ⟨rfl, trivial⟩, ?_⟩)))
  exact ⟨false, rfl, (fun h => by cases h), H.aL⟩
 ·
  try simp only [bW] at vU
  have aI7 : l.length ≤ 20 := by omega
  refine WE.skip (WE.aA (WL.as rfl rfl (WL.nil (WE.seq (WE.aA (WL.as rfl rfl (WL.nil ?_)))))))
  refine WE.block ?_
  refine WE.loop (α := Nat × Nat) (rg [(2, 3), (8, 31)]) (fun p => [(4, .int .i64 (p.1 : Int)), (3, .int .i64 (p.2 : Int))]) (fun p wl => (p.1 ≤ l.length ∧ p.2 ≤ p.1 ∧ ∀ j (h : j < l.length), j < p.1 → l[j].k.length ≤ 100 ∧ l[j].v.length ≤ 70000) ∧ St X w wl [] [] [j8 s l, dU l]) (fun p => l.length - p.1) (0, 0) ⟨rfl, rfl, trivial⟩ ⟨⟨Nat.zero_le _, Nat.le_refl _, fun j _ h => absurd h (Nat.not_lt_zero _)⟩, H⟩ ?_
  intro ⟨i, n⟩ γ0 w1 hI
  try dsimp only at hI
  obtain ⟨⟨hi, hni, hall⟩, H⟩ := hI
  try dsimp only at hi hni hall
  refine WE.seq (WE.aA (WL.mv rfl rfl (WL.mv rfl rfl ?_)))
  refine WL.pv (PV.dR (by exact (H.p 0 rfl : (j8 s l) _)) oT rfl) rfl ?_
  refine WL.pv (PV.lss rfl rfl rfl) rfl (WL.nil ?_)
  refine WE.cond rfl (fun jU => ?_) (fun jU => ?_)
  ·
   try simp only [bW] at jU
   have hlt : i < l.length := by omega
   refine WE.skip (WE.seq (WE.block (WE.seq (WE.aA (WL.mv rfl rfl (WL.mv rfl rfl ?_))))))
   refine WL.pv (PV.eA rfl (by exact (H.p 0 rfl : (j8 s l) _)) oT l8 rfl rfl (by omega) (by omega)) rfl ?_
   refine WL.pv (PV.dQ rfl qR rfl) rfl ?_
   refine WL.aY rfl eU rfl rfl ((P9 (j8.rd (by exact (H.p 0 rfl : (j8 s l) _)) i hlt))) ?_
   refine WL.pv (PV.dR (((by exact (H.p 1 rfl : (dU l) _)) : dU l _).k hlt) eM rfl) rfl ?_
   refine WL.pv (PV.gtr rfl rfl rfl) rfl (WL.mv rfl rfl ?_)
   refine WL.split (t := 21) rfl (fun SM => ?_) (fun SM => ?_)
   ·
    refine WL.known (t := 20) (c := true) rfl SM ?_
    try simp only [bW] at SM
    refine WL.off rfl (WL.off rfl (WL.off rfl (WL.off rfl (WL.off rfl (WL.off rfl (WL.off rfl (WL.pv (PV.dP rfl rfl rfl) rfl ?_)))))))
    refine WL.nil (WE.lN rfl (WE.aA (WL.as rfl rfl (WL.nil (WE.ret ⟨[_], _, .nil _, ⟨rfl, trivial⟩, ?_⟩)))))
    exact ⟨false, rfl, (fun h => by cases h), H.aL⟩
   ·
    refine WL.known (t := 20) (c := false) rfl SM ?_
    try simp only [bW] at SM
    have aAU : l[i].k.length ≤ 100 := by omega
    refine WL.mv rfl rfl (WL.mv rfl rfl ?_)
    refine WL.pv (PV.eA rfl (by exact (H.p 0 rfl : (j8 s l) _)) oT l8 rfl rfl (by omega) (by omega)) rfl ?_
    refine WL.pv (PV.dQ rfl qQ rfl) rfl ?_
    refine WL.aY rfl eU rfl rfl ((WN (j8.rd (by exact (H.p 0 rfl : (j8 s l) _)) i hlt))) ?_
    refine WL.pv (PV.dR (((by exact (H.p 1 rfl : (dU l) _)) : dU l _).v hlt) eM rfl) rfl ?_
    refine WL.pv (PV.gtr rfl rfl rfl) rfl (WL.pv (PV.dF rfl rfl rfl) rfl (WL.nil ?_))
    refine WE.cond rfl (fun CU => ?_) (fun CU => ?_)
    ·
     try simp only [bW] at CU
     refine WE.aA (WL.as rfl rfl (WL.nil (WE.ret ⟨[_], _, .nil _, ⟨rfl, trivial⟩, ?_⟩)))
     exact ⟨false, rfl, (fun h => by cases h), H.aL⟩
    ·
     try simp only [bW] at CU
     have hv7 : l[i].v.length ≤ 70000 := by omega
     refine WE.skip (WE.aA (WL.mv rfl rfl (WL.mv rfl rfl ?_)))
     refine WL.pv (PV.eA rfl (by exact (H.p 0 rfl : (j8 s l) _)) oT l8 rfl rfl (by omega) (by omega)) rfl ?_
     refine WL.pv (PV.dQ rfl qQ rfl) rfl ?_
     refine WL.aY rfl eU rfl rfl ((WN (j8.rd (by exact (H.p 0 rfl : (j8 s l) _)) i hlt))) ?_
     refine WL.pv (PV.dR (((by exact (H.p 1 rfl : (dU l) _)) : dU l _).v hlt) eM rfl) rfl ?_
     refine WL.pv (PV.gtr rfl rfl rfl) rfl (WL.nil ?_)
     refine WE.cond rfl (fun pA => ?_) (fun pA => ?_)
     ·
      try simp only [bW] at pA
      let n2 := n + 1
      have hn2 : n2 ≤ i + 1 := by omega
      refine WE.dY (WL.mv rfl rfl (WL.pv (PV.eq (v' := .int .i64 ((n + 1 : Nat) : Int)) (PV.bT rfl rfl rfl (by omega) (by omega)) rfl) rfl (WL.as rfl rfl (WL.nil (WE.dY (WL.mv rfl rfl (WL.pv (PV.eq (v' := .int .i64 ((i + 1 : Nat) : Int)) (PV.bT rfl rfl rfl (by omega) (by omega)) rfl) rfl ?_)))))))
      refine WL.as rfl rfl (WL.nil ?_)
      exact ⟨(i + 1, n2), (by repeat (first | with_reducible exact bM.refl _ _ | refine bM.dD rfl ?_ | refine bM.bY rfl ?_ | refine bM.bV rfl ?_)), ⟨rfl, rfl, trivial⟩, rfl, ⟨⟨by dsimp only; omega, by dsimp only; omega, fun j hj hji => by rcases Nat.lt_or_ge j i with h_ | h_; exact hall j hj h_; (have e_ : j = i := (by dsimp only at hji; omega)); subst e_; exact ⟨aAU, hv7⟩⟩, H⟩, (by dsimp only; omega)⟩
     ·
      try simp only [bW] at pA
      let n2 := n
      have hn2 : n2 ≤ i + 1 := by omega
      refine WE.skip (WE.dY (WL.mv rfl rfl (WL.pv (PV.eq (v' := .int .i64 ((i + 1 : Nat) : Int)) (PV.bT rfl rfl rfl (by omega) (by omega)) rfl) rfl (WL.as rfl rfl (WL.nil ?_)))))
      exact ⟨(i + 1, n2), (by repeat (first | with_reducible exact bM.refl _ _ | refine bM.dD rfl ?_ | refine bM.bY rfl ?_ | refine bM.bV rfl ?_)), ⟨rfl, rfl, trivial⟩, rfl, ⟨⟨by dsimp only; omega, by dsimp only; omega, fun j hj hji => by rcases Nat.lt_or_ge j i with h_ | h_; exact hall j hj h_; (have e_ : j = i := (by dsimp only at hji; omega)); subst e_; exact ⟨aAU, hv7⟩⟩, H⟩, (by dsimp only; omega)⟩
  ·
   try simp only [bW] at jU
   have tO : i = l.length := by omega
   refine WE.exit (WE.aA (WL.mv rfl rfl (WL.pv (PV.leq rfl rfl rfl) rfl (WL.as rfl rfl (WL.nil (WE.ret ⟨[_], _, .nil _, ⟨rfl, trivial⟩, ?_⟩))))))
   exact ⟨_, rfl, (fun _ => ⟨aI7, fun u hu => by obtain ⟨j, hj, rfl⟩ := List.getElem_of_mem hu; exact hall j hj (by omega)⟩), H.aL⟩
theorem RY {X : Nat → Prop} {w : World} {s : Value} {l : List rI} (hX : cY X w) (bU : aJ X (DI s l) w) (dI : aJ X (mK l) w) (hlen : l.length ≤ 9223372036854775807) (LC : ∀ o ∈ l, o.k.length ≤ 9223372036854775807 ∧ o.v.length ≤ 9223372036854775807 ∧ o.b.length ≤ 9223372036854775807 ∧ ∀ u ∈ o.b, u.k.length ≤ 9223372036854775807 ∧ u.v.length ≤ 9223372036854775807) :
  bC prog 16 [s].toArray w fun v w' => ∃ n : Int, v = .int .i64 n ∧ (n ≠ 0 → O6 l) ∧ Out Nil w w' := by
 refine bC.aH (N := 29) func16 rfl rfl (by simp) ?_
 have H := ((St.begin hX).add (cE dI)).add (cE bU)
 refine WE.aA (WL.as rfl rfl (WL.nil (WE.seq (WE.aA (WL.mv rfl rfl ?_)))))
 refine WL.pv (PV.dR (by exact (H.p 0 rfl : (DI s l) _)) M0 rfl) rfl ?_
 refine WL.pv (PV.gtr rfl rfl rfl) rfl (WL.nil ?_)
 refine WE.cond rfl (fun vU => ?_) (fun vU => ?_)
 ·
  try simp only [bW] at vU
  refine WE.aA (WL.as rfl rfl (WL.nil (WE.ret ⟨[_], _, .nil _, ⟨rfl, trivial⟩, ?_⟩)))
  exact ⟨0, rfl, (fun h => absurd rfl h), H.aL⟩
 ·
  try simp only [bW] at vU
  have aEY : l.length ≤ 12 := by omega
  refine WE.skip (WE.seq (WE.aA (WL.mv rfl rfl ?_)))
  refine WL.pv (PV.dR (by exact (H.p 0 rfl : (DI s l) _)) M0 rfl) rfl ?_
  refine WL.mv rfl rfl (WL.nil (WE.block ?_))
  refine WE.loop (α := Nat) (rg [(2, 1), (4, 1), (10, 19)]) (fun i => [(10, .int .i64 (i : Int))]) (fun i wl => (i ≤ l.length ∧ ∀ j (h : j < l.length), j < i → l[j].k.length ≤ 100 ∧ l[j].v.length ≤ 70000 ∧ DJ l[j].b) ∧ St X w wl [] [] [DI s l, mK l]) (fun i => l.length - i) 0 ⟨rfl, trivial⟩ ⟨⟨Nat.zero_le _, fun j _ h => absurd h (Nat.not_lt_zero _)⟩, H⟩ ?_
  intro i γ0 w1 hI
  try dsimp only at hI
  obtain ⟨⟨hi, hall⟩, H⟩ := hI
  refine WE.aA (WL.pv (PV.lss rfl rfl rfl) rfl (WL.nil (WE.seq ?_)))
  refine WE.cond rfl (fun jU => ?_) (fun jU => ?_)
  ·
   try simp only [bW] at jU
   have hlt : i < l.length := by omega
   have wE := LC _ (List.getElem_mem hlt)
   have hoi : OV l[i] _ := (by exact (H.p 1 rfl : mK l _) _ (List.getElem_mem hlt))
   have aIV : l[i].sk.oneCell' = true := cN.fX hoi.1
   have aIU : l[i].sv.oneCell' = true := cN.fX hoi.2.1
   refine WE.skip (WE.seq (WE.block (WE.aA ?_)))
   refine WL.pv (PV.eA rfl (by exact (H.p 0 rfl : (DI s l) _)) M0 HN rfl rfl (by omega) (by omega)) rfl ?_
   refine WL.bE rfl aC7 rfl rfl ((DI.rd (by exact (H.p 0 rfl : (DI s l) _)) i hlt)) (by exact HN) ?_
   refine WL.alloc H rfl aDG rfl ?_
   intro b4 w2 H
   refine WL.aW H 0 rfl rfl rfl (new := AR l[i]) rfl (by exact HN) (K0 (by exact (H.p 1 rfl : mK l _) _ (List.getElem_mem hlt))) (Laid.at (Laid.all rfl) rfl) rfl ?_
   intro w3 H
   refine WL.nil (WE.aA (WL.pv (PV.fieldAddr rfl mE rfl) rfl (WL.aY rfl eU rfl rfl (aN.aF (H.l 0 rfl) (aK.tl aK.hd rfl) rfl) (WL.pv (PV.fieldAddr rfl C4 rfl) rfl (WL.aY rfl eU rfl rfl (aN.aF (H.l 0 rfl) (aK.tl (aK.tl aK.hd rfl) rfl) rfl) ?_)))))
   refine WL.pv (PV.dM rfl aEx PR (Fl.cons rfl ((cells_one aIV)) (by simp only [aS]) Laid.head (Fl.cons rfl ((cells_one aIU)) (by simp only [aS]) (Laid.tail Laid.head rfl) Fl.nil))) rfl ?_
   refine WL.bB (l0 := ([.slice none 0 0, .slice none 0 0, .bool false])) H rfl aIk (by decide) rfl (Fl.cons rfl rfl (by simp only [aS]) (Laid.all (by simp only [aS])) Fl.nil) rfl ?_
   intro b19 w4 H
   replace H := H.freeze (i := 0) rfl
   replace H := H.add (show aJ _ (j8 (.slice (some ⟨b19, 0, none⟩) 1 1) [(⟨l[i].sk, l[i].k, l[i].sv, l[i].v, false⟩ : Up)]) _ from (H.bK 0 rfl).imp fun _ h => (cN.bZ (n := 1) h rfl : cN _ (.slice (some ⟨b19, 0, none⟩) 1 1) 3 1 _))
   replace H := H.add (show aJ _ (dU [(⟨l[i].sk, l[i].k, l[i].sv, l[i].v, false⟩ : Up)]) _ from (by exact (H.bK 3 rfl : aJ _ (mK l) _).imp fun _ h => (show dU _ _ from fun u hu => by rw [List.mem_singleton.1 hu]; exact ⟨(h _ (List.getElem_mem hlt)).1, (h _ (List.getElem_mem hlt)).2.1⟩)))
   refine WL.call aF2 rfl (LM (s := (.slice (some ⟨b19, 0, none⟩) 1 1)) (l := [(⟨l[i].sk, l[i].k, l[i].sv, l[i].v, false⟩ : Up)]) H.aR (by exact (H.bK 1 rfl : aJ _ (j8 (.slice (some ⟨b19, 0, none⟩) 1 1) [(⟨l[i].sk, l[i].k, l[i].sv, l[i].v, false⟩ : Up)]) _)) (by exact (H.bK 0 rfl : aJ _ (dU [(⟨l[i].sk, l[i].k, l[i].sv, l[i].v, false⟩ : Up)]) _)) (by simp) (fun u hu => by rw [List.mem_singleton.1 hu]; exact ⟨wE.1, wE.2.1⟩)) ?_
   rintro _ w5 ⟨bf1, rfl, hF1, hO⟩
   replace H := H.out hO
   refine WL.pv (PV.not rfl rfl) rfl (WL.mv rfl rfl ?_)
   refine WL.split (t := 22) rfl (fun s6 => ?_) (fun s6 => ?_)
   ·
    refine WL.known (t := 21) (c := true) rfl s6 ?_
    try simp only [bW] at s6
    refine WL.off rfl (WL.off rfl (WL.off rfl (WL.off rfl (WL.pv (PV.dP rfl rfl rfl) rfl (WL.nil (WE.lN rfl (WE.aA ?_)))))))
    refine WL.as rfl rfl (WL.nil (WE.ret ⟨[_], _, .nil _, ⟨rfl, trivial⟩, ?_⟩))
    exact ⟨0, rfl, (fun h => absurd rfl h), H.aL⟩
   ·
    refine WL.known (t := 21) (c := false) rfl s6 ?_
    try simp only [bW] at s6
    have aJh := hF1 (by exact s6)
    refine WL.pv (PV.fieldAddr rfl C3 rfl) rfl (WL.aY rfl ZV rfl rfl (aN.aF (H.l 0 rfl) (aK.tl (aK.tl (aK.tl aK.hd rfl) rfl) rfl) rfl) ?_)
    refine WL.call aF2 rfl (LM (s := l[i].sb) (l := l[i].b) H.aR (by exact (H.bK 4 rfl : aJ _ (mK l) _).imp fun _ h => (h _ (List.getElem_mem hlt)).2.2.1) (by exact (H.bK 4 rfl : aJ _ (mK l) _).imp fun _ h => (h _ (List.getElem_mem hlt)).2.2.2) wE.2.2.1 wE.2.2.2) ?_
    rintro _ w6 ⟨bf2, rfl, hF2, hO⟩
    replace H := H.out hO
    refine WL.pv (PV.not rfl rfl) rfl (WL.pv (PV.dF rfl rfl rfl) rfl (WL.nil ?_))
    refine WE.cond rfl (fun YO => ?_) (fun YO => ?_)
    ·
     try simp only [bW] at YO
     refine WE.aA (WL.as rfl rfl (WL.nil (WE.ret ⟨[_], _, .nil _, ⟨rfl, trivial⟩, ?_⟩)))
     exact ⟨0, rfl, (fun h => absurd rfl h), H.aL⟩
    ·
     try simp only [bW] at YO
     have aJg := hF2 (by exact YO)
     have G7 := aJh.2 _ (List.mem_singleton.2 rfl)
     refine WE.skip (WE.dY (WL.pv (PV.eq (v' := .int .i64 ((i + 1 : Nat) : Int)) (PV.bT rfl rfl rfl (by omega) (by omega)) rfl) rfl (WL.mv rfl rfl (WL.nil ?_))))
     replace H := H.forget 0
     exact ⟨i + 1, (by repeat (first | with_reducible exact bM.refl _ _ | refine bM.dD rfl ?_ | refine bM.bY rfl ?_ | refine bM.bV rfl ?_)), ⟨rfl, trivial⟩, rfl, ⟨⟨by omega, fun j hj hji => by rcases Nat.lt_or_ge j i with h_ | h_; exact hall j hj h_; (have e_ : j = i := by omega); subst e_; exact ⟨G7.1, G7.2, aJg⟩⟩, (by exact H.uB [3, 4])⟩, (by omega)⟩
  ·
   try simp only [bW] at jU
   have tO : i = l.length := by omega
   refine WE.exit (WE.aA (WL.as rfl rfl (WL.nil (WE.ret ⟨[_], _, .nil _, ⟨rfl, trivial⟩, ?_⟩))))
   exact ⟨1, rfl, (fun _ => ⟨aEY, fun o ho => by obtain ⟨j, hj, rfl⟩ := List.getElem_of_mem ho; exact hall j hj (by omega)⟩), H.aL⟩
theorem ZJ {X : Nat → Prop} {w : World} {s : Value} {l : List Up} (hX : cY X w) (bU : aJ X (j8 s l) w) (dI : aJ X (dU l) w) (hlen : l.length ≤ 1000000) (LC : ∀ u ∈ l, u.k.length ≤ 9223372036854775807 ∧ u.v.length ≤ 9223372036854775807) :
  bC prog 22 [s].toArray w fun v w' => v = .tuple [.int .i64 (((j6 l).1 : Nat) : Int), .int .i64 (j6 l).2].toArray ∧ Out Nil w w' := by
 refine bC.aH (N := 52) func22 rfl rfl (by simp) ?_
 have H := ((St.begin hX).add (cE dI)).add (cE bU)
 refine WE.aA (WL.as rfl rfl (WL.as rfl rfl (WL.nil (WE.seq (WE.aA (WL.as rfl rfl (WL.nil ?_)))))))
 refine WE.block ?_
 refine WE.loop (α := Nat) (rg [(2, 50)]) (fun i => [(4, .int .i64 (i : Int))]) (fun i wl => (i ≤ l.length ∧ yN i (l.take i) (l.drop i) = j6 l) ∧ St X w wl [] [] [j8 s l, dU l]) (fun i => l.length - i) 0 ⟨rfl, trivial⟩ ⟨⟨Nat.zero_le _, by rw [List.take_zero, List.drop_zero]; rfl⟩, H⟩ ?_
 intro i γ0 w1 hI
 try dsimp only at hI
 obtain ⟨⟨hi, pT⟩, H⟩ := hI
 refine WE.seq (WE.aA (WL.mv rfl rfl (WL.mv rfl rfl ?_)))
 refine WL.pv (PV.dR (by exact (H.p 0 rfl : (j8 s l) _)) oT rfl) rfl ?_
 refine WL.pv (PV.lss rfl rfl rfl) rfl (WL.nil ?_)
 refine WE.cond rfl (fun jU => ?_) (fun jU => ?_)
 ·
  try simp only [bW] at jU
  have hlt : i < l.length := by omega
  have hvi := LC _ (List.getElem_mem hlt)
  have E7 := BM l (l.length - i) i (by omega)
  rw [dif_pos hlt] at E7
  rw [E7] at pT
  refine WE.skip (WE.seq (WE.block (WE.aA (WL.mv rfl rfl (WL.mv rfl rfl ?_)))))
  refine WL.pv (PV.eA rfl (by exact (H.p 0 rfl : (j8 s l) _)) oT l8 rfl rfl (by omega) (by omega)) rfl ?_
  refine WL.pv (PV.dQ rfl qQ rfl) rfl ?_
  refine WL.aY rfl eU rfl rfl ((WN (j8.rd (by exact (H.p 0 rfl : (j8 s l) _)) i hlt))) ?_
  refine WL.as rfl rfl (WL.nil ?_)
  refine WE.cut (α := Value) (rg [(5, 1), (19, 5)]) (fun oD => [(5, oD)]) (fun oD wl => St X w wl [] [] [bJ oD l[i].uv, j8 s l, dU l]) ?_ ?_
  ·
   refine WE.aA (WL.mv rfl rfl (WL.mv rfl rfl ?_))
   refine WL.pv (PV.eA rfl (by exact (H.p 0 rfl : (j8 s l) _)) oT l8 rfl rfl (by omega) (by omega)) rfl ?_
   refine WL.pv (PV.dQ rfl wL rfl) rfl ?_
   refine WL.aY rfl u4 rfl rfl ((aDU (j8.rd (by exact (H.p 0 rfl : (j8 s l) _)) i hlt))) ?_
   refine WL.nil ?_
   refine WE.cond rfl (fun kV => ?_) (fun kV => ?_)
   ·
    try simp only [bW] at kV
    have hd : l[i].d = true := (by exact kV)
    have huv : l[i].uv = [] := if_pos hd
    refine WE.dY (WL.as rfl rfl (WL.nil ?_))
    exact ⟨(.slice none 0 0), (by repeat (first | with_reducible exact bM.refl _ _ | refine bM.dD rfl ?_)), ⟨rfl, trivial⟩, rfl, H.add (show aJ _ (bJ (.slice none 0 0) l[i].uv) _ from fun w_ _ => by rw [huv]; exact bJ.nil w_)⟩
   ·
    try simp only [bW] at kV
    have hd : l[i].d = false := (by exact kV)
    have huv : l[i].uv = l[i].v := if_neg (by rw [hd]; decide)
    refine WE.skip ?_
    exact ⟨l[i].sv, (by repeat (first | with_reducible exact bM.refl _ _ | refine bM.dD rfl ?_)), ⟨rfl, trivial⟩, rfl, H.add (show aJ _ (bJ l[i].sv l[i].uv) _ from ((by exact (H.bK 1 rfl : aJ _ (dU l) _)) : aJ _ (dU l) _).imp fun _ h => by rw [huv]; exact h.v hlt)⟩
  ·
   intro oD γ w2 hI
   try dsimp only at hI
   replace H := hI
   refine WE.aA (WL.mv rfl rfl (WL.mv rfl rfl ?_))
   refine WL.pv (PV.eA rfl (by exact (H.p 1 rfl : (j8 s l) _)) oT l8 rfl rfl (by omega) (by omega)) rfl ?_
   refine WL.pv (PV.dQ rfl qR rfl) rfl ?_
   refine WL.aY rfl eU rfl rfl ((P9 (j8.rd (by exact (H.p 1 rfl : (j8 s l) _)) i hlt))) ?_
   refine WL.mv rfl rfl ?_
   refine WL.call Y9 rfl (oZ (lb := l[i].k) (vv := l[i].uv) H.aR (show aJ _ (bJ l[i].sk l[i].k) _ from ((by exact (H.bK 2 rfl : aJ _ (dU l) _)) : aJ _ (dU l) _).imp fun _ h => h.k hlt) (by exact (H.bK 0 rfl : aJ _ (bJ oD l[i].uv) _))) ?_
   rintro _ w3 ⟨rfl, hO⟩
   replace H := H.out hO
   refine WL.as rfl rfl (WL.nil (WE.seq (WE.aA (WL.mv rfl rfl (WL.pv (PV.neq rfl rfl rfl) rfl (WL.nil ?_))))))
   refine WE.cond rfl (fun SU => ?_) (fun SU => ?_)
   ·
    try simp only [bW] at SU
    have hr : cD l[i].k l[i].uv ≠ 0 := (by exact SU)
    have s9 : mI (l.take i) l[i] = cD l[i].k l[i].uv := if_pos hr
    rw [if_pos (by rw [s9]; exact hr), s9] at pT
    refine WE.aA (WL.mv rfl rfl (WL.mv rfl rfl (WL.as rfl rfl (WL.as rfl rfl (WL.nil (WE.ret ⟨[_, _], _, .nil _, ⟨rfl, rfl, trivial⟩, ?_⟩))))))
    refine ⟨?_, H.aL⟩
    show Value.tuple [.int .i64 ((i : Nat) : Int), .int .i64 (cD l[i].k l[i].uv)].toArray = _
    rw [← pT]
   ·
    try simp only [bW] at SU
    have hr : cD l[i].k l[i].uv = 0 := (by exact SU)
    refine WE.skip (WE.aA (WL.as rfl rfl (WL.nil (WE.block ?_))))
    refine WE.loop (α := Nat) (rg [(2, 2), (7, 1), (35, 17)]) (fun j => [(7, .int .i64 (j : Int))]) (fun j wl => (j ≤ i ∧ ∀ q (h : q < l.length), q < j → ¬ l[i].k = l[q].k) ∧ St X w wl [] [] [bJ oD l[i].uv, j8 s l, dU l]) (fun j => i - j) 0 ⟨rfl, trivial⟩ ⟨⟨Nat.zero_le _, fun q _ h => absurd h (Nat.not_lt_zero _)⟩, H⟩ ?_
    intro j γ1 w4 hI
    try dsimp only at hI
    obtain ⟨⟨hj, LG⟩, H⟩ := hI
    refine WE.seq (WE.aA (WL.mv rfl rfl (WL.mv rfl rfl (WL.pv (PV.lss rfl rfl rfl) rfl (WL.nil ?_)))))
    refine WE.cond rfl (fun I7 => ?_) (fun I7 => ?_)
    ·
     try simp only [bW] at I7
     have aCq : j < i := by omega
     refine WE.skip (WE.seq (WE.block ?_))
     refine WE.bH (.take 0 (.take 1 (.take 2 (.take 3 (.take 4 (.take 5 (.take 6 (.take 7 (.take 8 (.take 9 (.aG 10 .done))))))))))) mixed (by kernel_rfl) ?_
     replace H := H.out (Out.drew _)
     refine WP.mv rfl rfl rfl (WP.mv rfl rfl rfl ?_)
     refine WP.aC rfl rfl (PV.eA rfl (by exact (H.p 1 rfl : (j8 s l) _)) oT l8 rfl rfl (by omega) (by omega)) ?_
     refine WP.aC rfl rfl (PV.dQ rfl qR rfl) ?_
     refine WP.aM rfl rfl (RV.aV rfl eU rfl) ((P9 (j8.rd (by exact (H.p 1 rfl : (j8 s l) _)) i hlt))) ?_
     refine WP.mv rfl rfl rfl (WP.mv rfl rfl rfl ?_)
     refine WP.aC rfl rfl (PV.eA rfl (by exact (H.p 1 rfl : (j8 s l) _)) oT l8 rfl rfl (by omega) (by omega)) ?_
     refine WP.aC rfl rfl (PV.dQ rfl qR rfl) ?_
     refine WP.aM rfl rfl (RV.aV rfl eU rfl) ((P9 (j8.rd (by exact (H.p 1 rfl : (j8 s l) _)) j (by omega)))) ?_
     refine WP.aG rfl ?_
     refine WL.call aF0 rfl (VC (la := l[i].k) (lb := l[j].k) H.aR (show aJ _ (bJ l[i].sk l[i].k) _ from ((by exact (H.bK 2 rfl : aJ _ (dU l) _)) : aJ _ (dU l) _).imp fun _ h => h.k hlt) (show aJ _ (bJ l[j].sk l[j].k) _ from ((by exact (H.bK 2 rfl : aJ _ (dU l) _)) : aJ _ (dU l) _).imp fun _ h => h.k (by omega)) hvi.1) ?_
     rintro _ w5 ⟨rfl, hO⟩
     replace H := H.out hO
     refine WL.nil ⟨(fa (nw 10 9) (fa (nw 10 4) c5)), ?_⟩
     refine WP.done ?_
     refine WE.cond rfl (fun nF => ?_) (fun nF => ?_)
     ·
      try simp only [bW] at nF
      have hsame : l[i].k = l[j].k := (by exact nF)
      have s9 : mI (l.take i) l[i] = 9 := by unfold mI; rw [if_neg (by simp [hr]), if_pos ⟨l[j], List.mem_take_iff_getElem.2 ⟨j, by omega, rfl⟩, hsame.symm⟩]
      rw [if_pos (by rw [s9]; decide), s9] at pT
      refine WE.aA (WL.mv rfl rfl (WL.as rfl rfl (WL.as rfl rfl (WL.nil (WE.ret ⟨[_, _], _, .nil _, ⟨rfl, rfl, trivial⟩, ?_⟩)))))
      refine ⟨?_, H.aL⟩
      show Value.tuple [.int .i64 ((i : Nat) : Int), .int .i64 9].toArray = _
      rw [← pT]
     ·
      try simp only [bW] at nF
      have aFe : ¬ l[i].k = l[j].k := (by exact nF)
      refine WE.skip (WE.dY (WL.mv rfl rfl (WL.pv (PV.eq (v' := .int .i64 ((j + 1 : Nat) : Int)) (PV.bT rfl rfl rfl (by omega) (by omega)) rfl) rfl (WL.as rfl rfl (WL.nil ?_)))))
      exact ⟨j + 1, (by repeat (first | with_reducible exact bM.refl _ _ | refine bM.dD rfl ?_ | refine bM.bY rfl ?_ | refine bM.bV rfl ?_)), ⟨rfl, trivial⟩, rfl, ⟨⟨by omega, fun q hq hqj => by rcases Nat.lt_or_ge q j with h_ | h_; exact LG q hq h_; (have e_ : q = j := by omega); subst e_; exact aFe⟩, H⟩, (by omega)⟩
    ·
     try simp only [bW] at I7
     have hji : j = i := by omega
     refine WE.exit (WE.dY (WL.mv rfl rfl (WL.pv (PV.eq (v' := .int .i64 ((i + 1 : Nat) : Int)) (PV.bT rfl rfl rfl (by omega) (by omega)) rfl) rfl (WL.as rfl rfl (WL.nil ?_)))))
     subst hji
     have s9 : mI (l.take j) l[j] = 0 := uZ.2 ⟨hr, fun x hx => by obtain ⟨q, hq, hqj, rfl⟩ := NF hx; exact fun e_ => LG q hq hqj e_.symm⟩
     rw [if_neg (by simp [s9])] at pT
     exact ⟨j + 1, (by repeat (first | with_reducible exact bM.refl _ _ | refine bM.dD rfl ?_ | refine bM.bY rfl ?_ | refine bM.bV rfl ?_)), ⟨rfl, trivial⟩, rfl, ⟨⟨by omega, pT⟩, H.uB [1, 2]⟩, (by omega)⟩
 ·
  try simp only [bW] at jU
  have tO : l.drop i = [] := List.drop_eq_nil_of_le (by omega)
  rw [tO] at pT
  have aCx : j6 l = (0, 0) := pT.symm
  refine WE.exit (WE.aA (WL.as rfl rfl (WL.as rfl rfl (WL.nil (WE.ret ⟨[_, _], _, .nil _, ⟨rfl, rfl, trivial⟩, ?_⟩)))))
  refine ⟨?_, H.aL⟩
  rw [aCx]; rfl
theorem ZS {X : Nat → Prop} {w : World} {s2 s : Value} {m : List En} {l : List Up} (hX : cY X w) (bU : aJ X (fP s2 m) w) (dI : aJ X (j8 s l) w) (fU : aJ X (dU l) w) (hm : fC 1000 m) (E8 : pS m) (hg : oO l) (hlen : l.length ≤ 1000) :
  bC prog 48 [s2, s].toArray w fun v w' => Out Nil w w' ∧ aJ X (fP v (tX m l) ) w' := by
 refine bC.aH (N := 36) func48 rfl rfl (by simp) ?_
 have H := (((St.begin hX).add (cE fU)).add (cE dI)).add (cE bU)
 have aIT : ∀ u ∈ l, u.sv.oneCell' = true := fun u hu => cN.fX ((fU.here) u hu).2
 refine WE.aA (WL.as rfl rfl (WL.nil (WE.seq (WE.aA (WL.as rfl rfl (WL.nil (WE.block ?_)))))))
 refine WE.loop (α := Nat × Value) (rg [(0, 1), (5, 30)]) (fun p => [(5, .int .i64 (p.1 : Int)), (0, p.2)]) (fun p wl => (p.1 ≤ l.length ∧ pS (tX m (l.take p.1))) ∧ St X w wl [] [] [fP p.2 (tX m (l.take p.1)), j8 s l, dU l]) (fun p => l.length - p.1) (0, s2) ⟨rfl, rfl, trivial⟩ ⟨⟨Nat.zero_le _, E8⟩, H⟩ ?_
 intro ⟨i, v_⟩ γ0 w1 hI
 try dsimp only at hI
 obtain ⟨⟨hi, hoo⟩, H⟩ := hI
 try dsimp only at hi hoo
 refine WE.seq (WE.aA (WL.mv rfl rfl (WL.mv rfl rfl ?_)))
 refine WL.pv (PV.dR (by exact (H.p 1 rfl : (j8 s l) _)) oT rfl) rfl ?_
 refine WL.pv (PV.lss rfl rfl rfl) rfl (WL.nil ?_)
 refine WE.cond rfl (fun j5 => ?_) (fun j5 => ?_)
 ·
  try simp only [bW] at j5
  have hlt : i < l.length := by omega
  have hgi := dL.1 (hg.1 _ (List.getElem_mem hlt))
  have hki := hgi.1
  have hmi := fC.dD (l.take i) hm (fun u hu => hg.1 u (List.mem_of_mem_take hu))
  have zS := hmi.l
  have htl : (l.take i).length ≤ l.length := by rw [List.length_take]; omega
  have DO := QB (m := m) hlt
  refine WE.skip ?_
  refine WE.cut (α := Value) (rg [(0, 1), (6, 1), (13, 22)]) (fun oD => [(0, oD)]) (fun oD wl => pS (tX m (l.take (i + 1))) ∧ St X w wl [] [] [fP oD (tX m (l.take (i + 1))), j8 s l, dU l]) ?_ ?_
  ·
   refine WE.block (WE.aA (WL.mv rfl rfl (WL.mv rfl rfl ?_)))
   refine WL.pv (PV.eA rfl (by exact (H.p 1 rfl : (j8 s l) _)) oT l8 rfl rfl (by omega) (by omega)) rfl ?_
   refine WL.pv (PV.dQ rfl qR rfl) rfl ?_
   refine WL.aY rfl eU rfl rfl ((P9 (j8.rd (by exact (H.p 1 rfl : (j8 s l) _)) i hlt))) ?_
   refine WL.call TH rfl (sL (lb := l[i].k) H.aR (show aJ _ (bJ l[i].sk l[i].k) _ from ((by exact (H.bK 2 rfl : aJ _ (dU l) _)) : aJ _ (dU l) _).imp fun _ h => h.k hlt) hki) ?_
   rintro _ w2 ⟨rfl, hO⟩
   replace H := H.out hO
   refine WL.alloc H rfl qY rfl ?_
   intro b6 w3 H
   refine WL.aW H 0 rfl rfl rfl (new := kc l[i].k) rfl (cK cL (by simp only [aS]; omega)) (bG _) (Laid.at (Laid.all (by simp only [aS]; omega)) rfl) rfl ?_
   intro w4 H
   refine WL.nil (WE.aA (WL.mv rfl rfl (WL.mv rfl rfl ?_)))
   refine WL.pv (PV.eA rfl (by exact (H.p 1 rfl : (j8 s l) _)) oT l8 rfl rfl (by omega) (by omega)) rfl ?_
   refine WL.pv (PV.dQ rfl wL rfl) rfl ?_
   refine WL.aY rfl u4 rfl rfl ((aDU (j8.rd (by exact (H.p 1 rfl : (j8 s l) _)) i hlt))) ?_
   refine WL.nil ?_
   refine WE.cond rfl (fun kV => ?_) (fun kV => ?_)
   ·
    try simp only [bW] at kV
    have hd : l[i].d = true := (by exact kV)
    have hau : UT (tX m (l.take i)) l[i] = fG (tX m (l.take i)) l[i].k := if_pos hd
    refine WE.dY (WL.mv rfl rfl ?_)
    refine WL.bE rfl cZ rfl rfl (aN.aF (H.l 0 rfl) (aK.all _) rfl) (cK cL (by simp only [aS]; omega)) ?_
    refine WL.call aCO rfl (y6 (m := (tX m (l.take i))) (q := l[i].k) H.aR (by exact (H.bK 0 rfl : aJ _ (fP v_ (tX m (l.take i))) _)) hmi.k hoo (by omega) hki) ?_
    rintro v26 w5 ⟨hO, hR⟩
    replace H := (H.out hO).add hR
    refine WL.as rfl rfl (WL.nil ?_)
    replace H := H.forget 0
    exact ⟨v26, (by repeat (first | with_reducible exact bM.refl _ _ | refine bM.dD rfl ?_)), ⟨rfl, trivial⟩, rfl, ⟨by rw [DO, hau]; exact fun e he => hoo e (jG.1 he).1, show St X w _ [] [] _ by rw [DO, hau]; exact H.uB [0, 2, 3]⟩⟩
   ·
    try simp only [bW] at kV
    have hd : l[i].d = false := (by exact kV)
    have hau : UT (tX m (l.take i)) l[i] = fS (tX m (l.take i)) ⟨l[i].k, l[i].sv, l[i].v⟩ := if_neg (by rw [hd]; decide)
    refine WE.draw (.take 0 (.take 1 (.take 2 (.take 3 (.take 4 (.take 5 (.take 6 (.aG 7 (.take 8 .done))))))))) mixed (by kernel_rfl) ?_
    replace H := H.out (Out.drew _)
    refine WP.mv rfl rfl rfl ?_
    refine WP.dN rfl rfl rfl cZ rfl (aN.aF (H.l 0 rfl) (aK.all _) rfl) (cK cL (by simp only [aS]; omega)) ?_
    refine WP.mv rfl rfl rfl (WP.mv rfl rfl rfl ?_)
    refine WP.aC rfl rfl (PV.eA rfl (by exact (H.p 1 rfl : (j8 s l) _)) oT l8 rfl rfl (by omega) (by omega)) ?_
    refine WP.aC rfl rfl (PV.dQ rfl qQ rfl) ?_
    refine WP.aM rfl rfl (RV.aV rfl eU rfl) ((WN (j8.rd (by exact (H.p 1 rfl : (j8 s l) _)) i hlt))) ?_
    refine WP.aG rfl ?_
    refine WL.call aF1 rfl (aBu (m := (tX m (l.take i))) (q := l[i].k) (vv := l[i].v) H.aR (by exact (H.bK 0 rfl : aJ _ (fP v_ (tX m (l.take i))) _)) (show aJ _ (bJ l[i].sv l[i].v) _ from ((by exact (H.bK 2 rfl : aJ _ (dU l) _)) : aJ _ (dU l) _).imp fun _ h => h.v hlt) hmi.k hoo (by omega) hki) ?_
    rintro v34 w6 ⟨hO, hR⟩
    replace H := (H.out hO).add hR
    refine WL.nil ⟨(fa (nw 7 6) (fa (nw 7 1) c5)), ?_⟩
    refine WP.as rfl rfl rfl (WP.done ?_)
    replace H := H.forget 0
    exact ⟨v34, (by repeat (first | with_reducible exact bM.refl _ _ | refine bM.dD rfl ?_)), ⟨rfl, trivial⟩, rfl, ⟨by rw [DO, hau]; exact fun e he => by rcases mB.1 he with rfl | he; exact aIT _ (List.getElem_mem hlt); exact hoo e he.1, show St X w _ [] [] _ by rw [DO, hau]; exact H.uB [0, 2, 3]⟩⟩
  ·
   intro oD γ w7 hI
   try dsimp only at hI
   obtain ⟨aIS, H⟩ := hI
   refine WE.dY (WL.mv rfl rfl (WL.pv (PV.eq (v' := .int .i64 ((i + 1 : Nat) : Int)) (PV.bT rfl rfl rfl (by omega) (by omega)) rfl) rfl (WL.as rfl rfl (WL.nil ?_))))
   exact ⟨(i + 1, oD), (by repeat (first | with_reducible exact bM.refl _ _ | refine bM.dD rfl ?_ | refine bM.bY rfl ?_ | refine bM.bV rfl ?_)), ⟨rfl, rfl, trivial⟩, rfl, ⟨⟨by dsimp only; omega, aIS⟩, H⟩, (by dsimp only; omega)⟩
 ·
  try simp only [bW] at j5
  have tO : l.take i = l := List.take_of_length_le (by omega)
  refine WE.exit (WE.aA (WL.mv rfl rfl (WL.as rfl rfl (WL.nil (WE.ret ⟨[_], _, .nil _, ⟨rfl, trivial⟩, ?_⟩)))))
  rw [tO] at H
  exact ⟨H.aL, H.gF (H.bK 0 rfl)⟩
theorem yO {X : Nat → Prop} {w : World} {a b : Value} {la lb : List UInt8} (hX : cY X w) (bU : aJ X (bJ a la) w) (dI : aJ X (bJ b lb) w) :
  bC prog 143 [a, b].toArray w fun v w' => v = .int .i64 (Lib.compareBytes la lb) ∧ w' = w := by
 refine bC.aH (N := 8) func143 rfl rfl (by simp) ?_
 have H := ((St.begin hX).add (cE dI)).add (cE bU)
 refine WE.aA (WL.as rfl rfl (WL.nil (WE.aA (WL.mv rfl rfl (WL.mv rfl rfl ?_)))))
 refine WL.extern (e := Extern.BytealgCompare.compare) (v := .int .i64 (Lib.compareBytes la lb)) func184 (by kernel_rfl) (by kernel_rfl) (by kernel_rfl) (by kernel_rfl) rfl (sI (H.p 0 rfl) (H.p 1 rfl)) ?_
 refine WL.as rfl rfl (WL.nil (WE.ret ⟨[_], _, .nil _, ⟨rfl, trivial⟩, ?_⟩))
 exact ⟨rfl, rfl⟩
section
variable {r : Option Nat} {P : Program} {N : Nat} {σ : Env} {ds : List Deferred} {w : World} {ops : Array Oper} {o : Oper} {rest : List Oper} {K : Env → List Deferred → World → Prop}
theorem WL.ZN {t : TypeId} {x : Operand} {l : List Value} (h : o.op = .box t x) (hx : (ev σ x).cells = l.toArray) (hw : cH ops σ o = true)
  (k : WL r P N ops rest K (dD N σ o.dst (.pointer (some ⟨w.heap.size, 0, none⟩))) ds (w.alloc (.cells l.toArray t))) : WL r P N ops (o :: rest) K σ ds w :=
 WL.val (v := .pointer (some ⟨w.heap.size, 0, none⟩)) (w' := w.alloc (.cells l.toArray t)) hw (by unfold eW; rw [h]) (by
  obtain ⟨v, hv⟩ : ∃ v, v = ev σ x := ⟨_, rfl⟩
  rw [← hv] at hx
  simp [execOp, h, Instr.box, ← hv, rM (t := t) hx w]) k
theorem GC {w : World} {b : Nat} {t : TypeId} {l : List Value} (h : aN w b t l) : aJ Nil (fun w => aN w b t l) w := fun w' hw => h.of_eq (hw b h.lt id)
end
theorem zY {X : Nat → Prop} {w : World} {k l : List UInt8} (hX : cY X w) (hk : k.length = 32) (hl : l.length = 32) :
  bC prog 94 [.agg (kc k).toArray, .agg (kc l).toArray].toArray w fun v w' => v = .int .i64 (iI k l) ∧ ∃ q os, w' = Go.Sort.grow (w.drewN q) os := by
 refine bC.aH (N := 8) func94 rfl rfl (by simp) ?_
 have H := St.begin hX
 refine WE.aA ?_
 refine WL.ZN (l := kc k) rfl rfl rfl ?_
 refine WL.ZN (l := kc l) rfl rfl rfl ?_
 refine WL.as rfl rfl (WL.nil ?_)
 refine WE.bH (.take 0 (.take 1 (.aG 2 (.take 3 .done)))) mixed (by kernel_rfl) ?_
 replace H := H.out (Out.drew _)
 have zU : aN ((w.alloc (.cells (kc k).toArray 24)).alloc (.cells (kc l).toArray 24)).drew w.heap.size 24 (kc k) := (Below.heap_alloc _ _ _ (by simp)).trans (World.alloc_heap_new w _)
 have tT : aN ((w.alloc (.cells (kc k).toArray 24)).alloc (.cells (kc l).toArray 24)).drew (w.heap.size + 1) 24 (kc l) := by have h_ := World.alloc_heap_new (w.alloc (.cells (kc k).toArray 24)) (.cells (kc l).toArray 24); rw [World.size_alloc] at h_; exact h_
 refine WP.aC rfl rfl (PV.iE rfl gZ (by rw [gO]; rfl) rfl) ?_
 refine WP.aC rfl rfl (PV.iE rfl gZ (by rw [gO]; rfl) rfl) ?_
 refine WP.aG rfl ?_
 refine WL.call aBc rfl (yO (X := Nil) (la := k) (lb := l) (nZ _) ((GC zU).imp fun _ h => bJ.bZ h hk) ((GC tT).imp fun _ h => (by rw [World.size_alloc]; exact bJ.bZ h hl))) ?_
 rintro _ w3 ⟨rfl, rfl⟩
 rw [kW k l (by rw [hk, hl])]
 refine WL.nil ⟨c5, ?_⟩
 refine WP.as rfl rfl rfl (WP.done (WE.ret ⟨[_], _, .nil _, ⟨rfl, trivial⟩, ?_⟩))
 exact ⟨rfl, 1, #[.cells (kc k).toArray 24, .cells (kc l).toArray 24], by rw [Go.Sort.alloc_eq_grow, Go.Sort.alloc_eq_grow, Go.Sort.grow_grow]; rfl⟩
theorem aCY {X : Nat → Prop} {w : World} {c d : Ch} (hX : cY X w) (hc : c.k.length = 32) (hd : d.k.length = 32) :
  bC prog 93 [.agg (eC c).toArray, .agg (eC d).toArray].toArray w fun v w' => v = .int .i64 (iI c.k d.k) ∧ ∃ q os, w' = Go.Sort.grow (w.drewN q) os := by
 refine bC.aH (N := 10) func93 rfl rfl (by simp) ?_
 have H := St.begin hX
 refine WE.aA ?_
 refine WL.ZN (l := eC c) rfl rfl rfl ?_
 refine WL.ZN (l := eC d) rfl rfl rfl ?_
 refine WL.as rfl rfl (WL.nil (WE.aA ?_))
 have zU : aN ((w.alloc (.cells (eC c).toArray 127)).alloc (.cells (eC d).toArray 127)) w.heap.size 127 (eC c) := (Below.heap_alloc _ _ _ (by simp)).trans (World.alloc_heap_new w _)
 have tT : aN ((w.alloc (.cells (eC c).toArray 127)).alloc (.cells (eC d).toArray 127)) (w.heap.size + 1) 127 (eC d) := (by have h_ := World.alloc_heap_new (w.alloc (.cells (eC c).toArray 127)) (.cells (eC d).toArray 127); rw [World.size_alloc] at h_; exact h_)
 have NX : dA ((w.alloc (.cells (eC c).toArray 127)).alloc (.cells (eC d).toArray 127)) ⟨w.heap.size, 0 + 0, none⟩ (kc c.k) := aN.aF zU (o := 0) ⟨[], [c.s, .bool c.d], by simp [eC], rfl⟩ rfl
 have G8 : dA ((w.alloc (.cells (eC c).toArray 127)).alloc (.cells (eC d).toArray 127)) ⟨(w.alloc (.cells (eC c).toArray 127)).heap.size, 0 + 0, none⟩ (kc d.k) := by rw [World.size_alloc]; exact aN.aF tT (o := 0) ⟨[], [d.s, .bool d.d], by simp [eC], rfl⟩ rfl
 refine WL.pv (PV.fieldAddr rfl qP rfl) rfl ?_
 refine WL.bE rfl cZ rfl rfl (NX) (cK cL (by simp only [aS, aX, aB]; omega)) ?_
 refine WL.pv (PV.fieldAddr rfl qP rfl) rfl ?_
 refine WL.bE rfl cZ rfl rfl (G8) (cK cL (by simp only [aS, aX, aB]; omega)) ?_
 refine WL.call aCI rfl (zY (X := Nil) (k := c.k) (l := d.k) (nZ _) hc hd) ?_
 rintro _ w3 ⟨rfl, q, os, hw⟩
 refine WL.as rfl rfl (WL.nil (WE.ret ⟨[_], _, .nil _, ⟨rfl, trivial⟩, ?_⟩))
 refine ⟨rfl, q, (#[.cells (eC c).toArray 127] ++ #[.cells (eC d).toArray 127]) ++ os, ?_⟩
 rw [hw, Go.Sort.alloc_eq_grow, Go.Sort.alloc_eq_grow, Go.Sort.grow_grow]
 exact Go.Sort.grow_grow (w.drewN q) _ os
open Go.Sort Go.Lib
abbrev WB := { c : Ch // c.k.length = 32 ∧ c.s.oneCell' = true }
instance : Inhabited WB := ⟨⟨⟨List.replicate 32 0, .slice none 0 0, [], false⟩, by simp, rfl⟩⟩
def mO (x : WB) : List Value := eC x.1
def cfX (x y : WB) : Int := iI x.1.k y.1.k
theorem FY (x : WB) : (mO x).length = 34 := iV x.2.1
theorem K6 (x y : WB) : ltOf cfX x y = decide (num x.1.k < num y.1.k) := by
 unfold ltOf cfX
 by_cases h : num x.1.k < num y.1.k
 ·
  rw [decide_eq_true (mG.2 h), decide_eq_true h]
 ·
  rw [decide_eq_false (fun h2 => h (mG.1 h2)), decide_eq_false h]
theorem aIj : Go.Sort.SWO (ltOf cfX) where
 irrefl x := by rw [K6]; simp
 trans x y z h1 h2 := by rw [K6] at *; simp at *; omega
 ntrans x y z h1 h2 := by rw [K6] at *; simp at *; omega
def KC : (l : List Ch) → (∀ c ∈ l, c.k.length = 32 ∧ c.s.oneCell' = true) → List WB
 | [], _ => []
 | c :: l, h => ⟨c, h c (by simp)⟩ :: KC l (fun x hx => h x (List.mem_cons_of_mem _ hx))
theorem tU : ∀ (l : List Ch) (h : ∀ c ∈ l, c.k.length = 32 ∧ c.s.oneCell' = true), (KC l h).map (·.1) = l
 | [], _ => rfl
 | c :: l, h => congrArg (c :: ·) (tU l fun x hx => h x (List.mem_cons_of_mem _ hx))
theorem MO (l : List Ch) (h : ∀ c ∈ l, c.k.length = 32 ∧ c.s.oneCell' = true) : (KC l h).length = l.length := by
 have := congrArg List.length (tU l h)
 simpa using this
theorem PW (d : List WB) : XL (d.map (·.1)) := fun c hc => by obtain ⟨x, _, rfl⟩ := List.mem_map.1 hc; exact x.2.1
theorem A7 (d : Array WB) (j : Nat) (hj : j < d.size * 34) : some ((flatK mO 34 d)[j]!) = ((d.toList.map (·.1)).flatMap eC)[j]? := by
 have h1 : j / 34 < d.size := by omega
 have h2 : (d.toList.map (·.1)).length = d.size := by simp
 have h3 := tD (d.toList.map (·.1)) (PW d.toList).len (j / 34) (by rw [h2]; exact h1)
 have h4 : ((d.toList.map (·.1)).flatMap eC)[j]? = (eC (d.toList.map (·.1))[j / 34])[j % 34]? := by
  rw [← h3, List.getElem?_take_of_lt (by omega), List.getElem?_drop]
  congr 1
  omega
 have e : (d.toList.map (·.1))[j / 34]'(by rw [h2]; exact h1) = (d[j / 34]!).1 := by
  rw [List.getElem_map, Array.getElem_toList, getElem!_pos d _ h1]
 rw [get_flatK mO 34 d j hj, h4, e]
 show some (mO d[j / 34]!)[j % 34]! = (mO d[j / 34]!)[j % 34]?
 have h5 : j % 34 < (mO d[j / 34]!).length := by rw [FY]; omega
 rw [List.getElem?_eq_getElem h5, getElem!_pos (mO d[j / 34]!) (j % 34) h5]
theorem T8 {blk off size : Nat} {w : World} : CmpLays prog 93 #[] mO 34 cfX blk off size w := fun m os dk _ x y => by
 have h := aCY (X := Nil) (w := sortWorldK mO 34 w blk off m dk os) (c := x.1) (d := y.1) (nZ _) x.2.1 y.2.1
 refine h.calls.mono ?_
 rintro e w' ⟨v, rfl, rfl, q, os', hw⟩
 exact ⟨rfl, q, os', hw⟩
theorem M9 {w : World} {g : Nat} {d : Array Value} {cur : Array Value} {e : TypeId} {p : Nat × Nat} (h : w.heap[g]? = some (.cells cur e p)) : (putRow id w g 0 d).heap[g]? = some (.cells (putCells id 0 d cur) e p) := by
 unfold putRow mapBlock
 show (w.heap.modify g _)[g]? = _
 rw [Array.getElem?_modify, if_pos rfl, h]; rfl
theorem HY {w : World} {g b : Nat} {d : Array Value} (hb : b ≠ g) : (putRow id w g 0 d).heap[b]? = w.heap[b]? := by
 unfold putRow mapBlock
 show (w.heap.modify g _)[b]? = _
 rw [Array.getElem?_modify, if_neg (fun h => hb h.symm)]
theorem zO {d cur : Array Value} (h : d.size ≤ cur.size) : (putCells id 0 d cur).size = cur.size ∧ (putCells id 0 d cur).toList.take d.size = d.toList := by
 have hs : (putCells id 0 d cur).size = cur.size := by simp [putCells]
 refine ⟨hs, List.ext_getElem? fun i => ?_⟩
 rw [List.getElem?_take]
 split
 ·
  rename_i hi
  rw [Array.getElem?_toList, Array.getElem?_toList, Array.getElem?_eq_getElem (by omega), Array.getElem?_eq_getElem hi]
  unfold putCells
  rw [Array.getElem_mapIdx, if_pos ⟨Nat.zero_le _, by omega⟩]
  show some d[i - 0]! = _
  rw [Nat.sub_zero, getElem!_pos d i hi]
 ·
  rename_i hi
  rw [Array.getElem?_toList, Array.getElem?_eq_none (by omega)]
theorem Z0 {w : World} {base : Nat} {v : Value} {l : List Ch} (hown : w.ownsRow base 127 34 v l.length (l.flatMap eC)) (hx : XL l) (gK : ∀ c ∈ l, c.s.oneCell' = true) (hd : O9 l) (hlen : l.length ≤ 1000000) :
  bC prog 92 [v, .func (.func 93) #[] #[]].toArray w fun r w' => ∃ l' : List Ch, r = .tuple #[] ∧ l.Perm l' ∧ r9 l' ∧ Out (fun b => v.ownBlock = some b) w w' ∧ w'.ownsRow base 127 34 v l'.length (l'.flatMap eC) := by
 refine bC.RK ?_
 have hk : ∀ c ∈ l, c.k.length = 32 ∧ c.s.oneCell' = true := fun c hc => ⟨hx c hc, gK c hc⟩
 obtain ⟨h1, ⟨rfl, h2⟩ | ⟨g, cap, cur, rfl, hg, CR, jT, SC, hsz, E6⟩⟩ := hown
 ·
  have h3 : l = [] := List.eq_nil_of_length_eq_zero h2
  subst h3
  refine (AnyF.slices_SortFunc_none (P := prog) (ρ := Tryz.AF) { Tryz.aAy with } none 0 (.func (.func 93) #[] #[]) w).mono ?_
  rintro e w' ⟨rfl, rfl⟩
  exact ⟨_, rfl, [], rfl, List.Perm.refl _, List.Pairwise.nil, Out.refl _ _, by simp, .inl ⟨rfl, rfl⟩⟩
 ·
  obtain ⟨d, hdd⟩ : ∃ d : Array WB, d = (KC l hk).toArray := ⟨_, rfl⟩
  have hds : d.size = l.length := by rw [hdd]; simp [MO]
  have hdv : d.toList.map (·.1) = l := by rw [hdd]; exact tU l hk
  have hgl : g < w.heap.size := by
   rcases Nat.lt_or_ge g w.heap.size with h | h
   ·
    exact h
   ·
    rw [Array.getElem?_eq_none h] at CR; cases CR
  have hH : HoldsK mO 34 w g 0 d := fun j hj => by
   rw [size_flatK] at hj
   have h3 := A7 d j hj
   rw [hdv, ← E6, List.getElem?_take_of_lt (by omega), Array.getElem?_toList] at h3
   refine ⟨?_, ?_⟩
   ·
    show w.cell? ⟨g, 0 + j, none⟩ = some ((flatK mO 34 d)[j]!)
    rw [h3, Nat.zero_add]
    simp [World.cell?, CR]
   ·
    simp [World.frozen?, CR]
  have aFf := AnyQ.slices_SortFunc Tryz.aAy 34 (fun w => kQ tJ w) (fun w => cU eH w) mO FY (fun x v hv => k3 x.2.2 v hv) cfX aIj 93 #[] g 0 cap d w (fun args w => fW aJv args w) T8 hH hgl (by rw [hds]; omega)
  rw [hds] at aFf
  refine aFf.mono ?_
  rintro e w' ⟨rfl, sd, n, os, q9, YG, rfl⟩
  have hss : sd.size = l.length := by rw [q9.1, hds]
  obtain ⟨l', SF⟩ : ∃ l', l' = sd.toList.map (·.1) := ⟨_, rfl⟩
  have G5 : l'.length = l.length := by rw [SF, List.length_map, Array.length_toList, hss]
  have hx' : XL l' := SF ▸ PW sd.toList
  have hp : l.Perm l' := by
   have h3 := q9.2.2
   rw [show d.extract 0 l.length = d by rw [← hds]; simp, show sd.extract 0 l.length = sd by rw [← hss]; simp] at h3
   have h4 := h3.map (fun x : WB => x.1)
   rw [hdv, ← SF] at h4
   exact h4.symm
  have hlt : r9 l' := by
   have YM : O9 l' := hd.perm hp fun h e => h e.symm
   refine List.pairwise_iff_getElem.2 fun i j hi hj hij => ?_
   have hne := List.pairwise_iff_getElem.1 YM i j hi hj hij
   have hj2 : j < sd.size := by rw [hss, ← G5]; exact hj
   have h3 := YG i j (Nat.zero_le _) hij (by rw [← G5]; exact hj)
   rw [K6, decide_eq_false_iff_not, getElem!_pos sd j hj2, getElem!_pos sd i (by omega)] at h3
   have e1 : l'[i] = (sd[i]'(by omega)).1 := by simp [SF]
   have e2 : l'[j] = (sd[j]'hj2).1 := by simp [SF]
   rw [← e1, ← e2] at h3
   have h4 : num l'[i].k ≠ num l'[j].k := fun e => hne (sU _ _ (by rw [hx' _ (List.getElem_mem hi), hx' _ (List.getElem_mem hj)]) e)
   omega
  have FC : (flatK mO 34 sd).toList = l'.flatMap eC := List.ext_getElem? fun j => by
   rcases Nat.lt_or_ge j (sd.size * 34) with hj | hj
   ·
    have h3 := A7 sd j hj
    rw [← SF] at h3
    rw [← h3, Array.getElem?_toList, Array.getElem?_eq_getElem (by rw [size_flatK]; exact hj), getElem!_pos _ j (by rw [size_flatK]; exact hj)]
   ·
    rw [Array.getElem?_toList, Array.getElem?_eq_none (by rw [size_flatK]; exact hj), List.getElem?_eq_none]
    rw [dB _ hx'.len, G5, ← hss]; exact hj
  have hpt := zO (d := flatK mO 34 sd) (cur := cur) (by rw [size_flatK, hss, hsz]; exact Nat.mul_le_mul_right _ jT)
  have hat : (sortWorldK mO 34 w g 0 n sd os).heap[g]? = some (.cells (putCells id 0 (flatK mO 34 sd) cur) 127 (0, 0)) := by
   show ((putRow id (Go.Sort.ahead w n) g 0 (flatK mO 34 sd)).heap ++ os)[g]? = _
   have hc2 : (Go.Sort.ahead w n).heap[g]? = some (.cells cur 127 (0, 0)) := CR
   have h4 := M9 (d := flatK mO 34 sd) hc2
   rw [Array.getElem?_append_left (Array.getElem?_eq_some_iff.1 h4).1, h4]
  refine ⟨_, rfl, l', rfl, hp, hlt, ⟨rfl, rfl, rfl, ?_, fun b hb hn => ?_⟩, ?_⟩
  ·
   show w.heap.size ≤ ((putRow id (Go.Sort.ahead w n) g 0 (flatK mO 34 sd)).heap ++ os).size
   have : (putRow id (Go.Sort.ahead w n) g 0 (flatK mO 34 sd)).heap.size = w.heap.size := by show (w.heap.modify g _).size = _; simp
   rw [Array.size_append, this]; omega
  ·
   have hne : b ≠ g := fun h => hn (by subst h; rfl)
   have : (putRow id (Go.Sort.ahead w n) g 0 (flatK mO 34 sd)).heap.size = w.heap.size := by show (w.heap.modify g _).size = _; simp
   show ((putRow id (Go.Sort.ahead w n) g 0 (flatK mO 34 sd)).heap ++ os)[b]? = _
   rw [Array.getElem?_append_left (by rw [this]; exact hb), HY hne]; rfl
  ·
   rw [← G5]
   refine ⟨?_, .inr ⟨g, cap, _, rfl, hg, hat, by rw [G5]; exact jT, SC, by rw [hpt.1, hsz], ?_⟩⟩
   ·
    rw [dB _ hx'.len]
   ·
    have h5 := hpt.2
    rw [size_flatK, hss, FC] at h5
    rw [G5]; exact h5
theorem CJ : Go.Maps.Keyed prog 24 := Go.Maps.Keyed.of_law (Go.WideMaps.ArrKey.law (P := prog) (k := 24) (e := 5) (n := 32) ⟨eR gZ, by kernel_rfl, by kernel_rfl, by kernel_rfl⟩)
def xV (k : List UInt8) : List Lit := k.map fun x => Lit.int .u8 (x.toNat : Int)
def aAa (k : List UInt8) : Lit := .string (keyBytes (xV k))
theorem EX {α β : Type} (f : α → Option β) (g : α → β) : ∀ l : List α, (∀ x ∈ l, f x = some (g x)) → l.mapM f = some (l.map g)
 | [], _ => rfl
 | x :: l, h => by
  rw [List.mapM_cons, h x (by simp), EX f g l fun y hy => h y (List.mem_cons_of_mem _ hy)]
  rfl
theorem FP {α β : Type} (f : α → β) : ∀ l : List α, (l.map fun i => [f i]).flatten = l.map f
 | [] => rfl
 | x :: l => by
  show [f x] ++ (l.map fun i => [f i]).flatten = f x :: l.map f
  rw [FP f l]; rfl
theorem wf8 (x : UInt8) : (Lit.int .u8 (x.toNat : Int)).wf = true := by
 have h1 : IntKind.u8.min = 0 := by kernel_rfl
 have h2 : IntKind.u8.max = 255 := by kernel_rfl
 have := x.toNat_lt
 show (decide (IntKind.u8.min ≤ (x.toNat : Int)) && decide ((x.toNat : Int) ≤ IntKind.u8.max)) = true
 rw [h1, h2, decide_eq_true (by omega), decide_eq_true (by omega)]; rfl
theorem IQ (d : Nat) {k : List UInt8} (hk : k.length = 32) : (prog).keyLits (d + 2) 24 (kc k) = some (xV k) := by
 have hu := eR gZ
 have h8 := gB mC
 have hc : (prog).cellsOf 24 = 32 := by kernel_rfl
 have h1 : (prog).cellsOf 5 = 1 := by kernel_rfl
 have hl : (kc k).length = 32 := by rw [aI, hk]
 unfold Program.keyLits
 rw [hu]
 simp only []
 rw [if_pos (by rw [hl, hc]), EX _ (fun i => [Lit.int .u8 ((k.getD i 0).toNat : Int)]) _ fun i hi => ?_]
 ·
  rw [Option.map_some]
  rw [FP]
  unfold xV
  congr 1
  refine List.ext_getElem (by simp [hk]) fun i h3 h4 => ?_
  rw [List.length_map] at h4
  rw [List.getElem_map, List.getElem_map, List.getElem_range, List.getD_eq_getElem?_getD, List.getElem?_eq_getElem h4]; rfl
 ·
  have hi' := List.mem_range.1 hi
  unfold Program.keyLits
  rw [h8, h1, Nat.mul_one]
  have e : ((kc k).drop i).take 1 = [.int .u8 ((k.getD i 0).toNat : Int)] := by
   rw [List.drop_eq_getElem_cons (by omega), List.take_succ_cons, List.take_zero]
   unfold kc
   rw [List.getElem_map, List.getD_eq_getElem?_getD, List.getElem?_eq_getElem (by omega)]; rfl
  rw [e]
  simp only []
  rw [if_pos ⟨trivial, wf8 _⟩]
theorem n9 {k : List UInt8} (hk : k.length = 32) : keyOf prog 24 (.agg (kc k).toArray) = some (aAa k) := by
 have hu := eR gZ
 have hc : (prog).cellsOf 24 = 32 := by kernel_rfl
 have hkt : (prog).keyType 24 = true := by kernel_rfl
 have hn : ∃ d, (prog).types.size + 1 = d + 2 := ⟨(prog).types.size - 1, by kernel_rfl⟩
 obtain ⟨d, hd⟩ := hn
 unfold keyOf
 rw [hu]
 simp only []
 have hf : Value.formed prog 24 (.agg (kc k).toArray) = true := by
  unfold Value.formed
  rw [hu]
  simp only []
  rw [hc]
  simp [aI, hk]
 rw [if_pos (by rw [hkt, hf]; rfl), hd]
 have e : (Value.agg (kc k).toArray).cells.toList = kc k := rfl
 rw [e, IQ d hk]; rfl
theorem VR {k k' : List UInt8} (hk : k.length = 32) (hk' : k'.length = 32) (h : aAa k = aAa k') : k = k' := by
 have h1 := n9 hk
 have h2 := n9 hk'
 rw [← h] at h2
 have h3 := CJ.inj h1 h2
 injection h3 with h4
 have h5 := congrArg Array.toList h4
 exact aCe h5
def aDn (b : Nat) (ks : List (List UInt8)) (w : World) : Prop := ∃ D : DataW Unit, w.ownsMap prog 24 (plainElem prog 4) b ks.length D ∧ ∀ k, k.length = 32 → D.atKey (aAa k) (.lit (.bool false)) = .lit (.bool (decide (k ∈ ks)))
theorem IE {b n : Nat} {D : DataW Unit} {w w' : World} (h : w.ownsMap prog 24 (plainElem prog 4) b n D) (he : w'.heap[b]? = w.heap[b]?) : w'.ownsMap prog 24 (plainElem prog 4) b n D := by
 obtain ⟨es, clock, hb, F, hs, hD⟩ := h
 exact ⟨es, clock, he.trans hb, F, hs, hD⟩
def aP.EY (b : Nat) (ks : List (List UInt8)) : aP where
 fp := (· = b)
 ok := aDn b ks
 loc := fun w w' h hb => by
  obtain ⟨D, h1, h2⟩ := hb
  exact ⟨D, IE h1 (h b rfl), h2⟩
 lt := fun w h x hx => by
  subst hx
  obtain ⟨D, h1, _⟩ := h
  exact h1.lt
theorem OL {v : Value} {x : Bool} {ps : List MemPlace} (h : plainElem (H := Unit) prog 4 v = some (.lit (.bool x), ps)) : v = .bool x := by
 unfold plainElem at h
 rw [mR bo4] at h
 cases v <;> simp at h
 rw [h.1]
theorem L5 (x : Bool) : plainElem (H := Unit) prog 4 (.bool x) = some (.lit (.bool x), []) := plainElem_bool (mR bo4) x
theorem KK : (prog).underlying 197 = some (.map 24 4) := by kernel_rfl
section
variable {r : Option Nat} {N : Nat} {σ : Env} {ds : List Deferred} {w w0 : World} {ops : Array Oper} {o : Oper} {rest : List Oper} {K : Env → List Deferred → World → Prop} {X : Nat → Prop} {O L : List aP} {Ps : List (World → Prop)}
theorem WL.RS (H : St X w0 w O L Ps) (h : o.op = .makeMap 197 none) (hw : cH ops σ o = true)
  (k : ∀ b w', St X w0 w' O (aP.EY b [] :: L) Ps → WL r prog N ops rest K (dD N σ o.dst (.map (some b))) ds w') : WL r prog N ops (o :: rest) K σ ds w := by
 refine WL.val (v := .map (some w.heap.size)) (w' := w.alloc (.map #[] 0)) hw (by unfold eW; rw [h]) ?_ (k _ _ ?_)
 ·
  simp [execOp, h, run_makeMap]
 ·
  refine H.push (Out.alloc w _) _ ⟨.map [], World.ownsMap_made w prog 24 (plainElem prog 4), fun k _ => ?_⟩ fun b hb => by (cases hb; exact Nat.le_refl _)
  simp [DataW.atKey]
theorem WL.XX {m x : Operand} {b : Nat} {ks : List (List UInt8)} {k : List UInt8} (H : St X w0 w O L Ps) (i : Nat) (h : o.op = .lookup 197 m x false) (hm : ev σ m = .map (some b)) (hx : ev σ x = .agg (kc k).toArray) (hi : L[i]? = some (aP.EY b ks)) (hk : k.length = 32) (hw : cH ops σ o = true)
  (c : WL r prog N ops rest K (dD N σ o.dst (.bool (decide (k ∈ ks)))) ds w) : WL r prog N ops (o :: rest) K σ ds w := by
 obtain ⟨D, h1, h2⟩ := (H.l i hi : aDn b ks w)
 obtain ⟨v, ps, hrun, hv⟩ := h1.lookup CJ KK (z := .bool false) (uC (P := prog) (t := 4) (by kernel_rfl) w) (L5 false) (n9 hk)
 rw [h2 k hk] at hv
 obtain rfl := OL hv
 exact WL.val hw (by unfold eW; rw [h]) (by simp [execOp, h, hm, hx, hrun]) c
theorem WL.WM {m x y : Operand} {b : Nat} {ks : List (List UInt8)} {k : List UInt8} (H : St X w0 w O L Ps) (i : Nat) (h : o.op = .mapUpdate 197 m x y) (hm : ev σ m = .map (some b)) (hx : ev σ x = .agg (kc k).toArray) (hy : ev σ y = .bool true) (hi : L[i]? = some (aP.EY b ks)) (hk : k.length = 32) (hn : ks.length ≤ 1000000) (hw : cH ops σ o = true)
  (c : ∀ w', St X w0 w' O (L.set i (aP.EY b (ks ++ [k]))) Ps → WL r prog N ops rest K (dD N σ o.dst undef) ds w') : WL r prog N ops (o :: rest) K σ ds w := by
 obtain ⟨D, h1, h2⟩ := (H.l i hi : aDn b ks w)
 obtain ⟨w', hrun, h3, h4⟩ := h1.update CJ KK (by unfold maxLen; omega) (n9 hk) (L5 true)
 refine WL.unit (w' := w') hw (by unfold eW; rw [h]) (by simp [execOp, h, hm, hx, hy, hrun]) (c w' ?_)
 refine H.oX hi ((Out.grown h4).mono fun c _ hc => (Option.some.inj hc).symm) _ ⟨_, by rw [List.length_append]; exact h3, fun k' hk' => ?_⟩ fun _ h => .inl h
 by_cases he : k' = k
 ·
  subst he
  rw [Go.Maps.atKey_put_same h1.isMap (CJ.key (n9 hk))]
  simp
 ·
  rw [Go.Maps.atKey_put_other (fun e => he (VR hk' hk e)), h2 k' hk']
  simp [he]
end
def upW (u : Up) : List Value := [u.sk] ++ ([u.ch.s] ++ [.bool u.d])
theorem Up.aCZ (u : Up) : u.ch.s = if u.d then .slice none 0 0 else u.sv := rfl
theorem aDV {u : Up} (h : u.d = true) : upW u = [u.sk] ++ ([.slice none 0 0] ++ [.bool u.d]) := by unfold upW; rw [Up.aCZ, if_pos h]
theorem aDW {u : Up} (h : u.d = false) : upW u = QC u := by unfold upW QC; rw [Up.aCZ, if_neg (by rw [h]; decide)]
theorem oO.take_one {l : List Up} {i : Nat} (h : i < l.length) (hg : oO (l.take i)) (hb : mI (l.take i) l[i] = 0) : oO (l.take (i + 1)) := by
 rw [List.take_succ_eq_append_getElem h]; exact hg.snoc hb
theorem UM {l : List Up} {u : Up} : mI l u = if cD u.k u.uv ≠ 0 then cD u.k u.uv else if u.k ∈ l.map Up.k then 9 else 0 := by
 unfold mI
 have e : (∃ x ∈ l, x.k = u.k) ↔ u.k ∈ l.map Up.k := by rw [List.mem_map]
 simp only [e]
theorem JI {X : Nat → Prop} {w : World} {s : Value} {l : List Up} (hX : cY X w) (bU : aJ X (j8 s l) w) (dI : aJ X (dU l) w) (hlen : l.length ≤ 1000) (LC : ∀ u ∈ l, u.k.length ≤ 9223372036854775807 ∧ u.v.length ≤ 9223372036854775807) :
  bC prog 54 [s].toArray w fun v w' => ∃ v1 v2, v = .tuple [v1, v2].toArray ∧ Out Nil w w' ∧ aJ X (fI [97, 112, 112, 108, 121] (((j6 l).1 : Nat) : Int) (j6 l).2 v2) w' ∧ ((j6 l).2 = 0 → ∃ cs : List Ch, aJ X (gJ v1 cs) w' ∧ aJ X (gI cs) w' ∧ (l.map Up.ch).Perm cs ∧ r9 cs) := by
 refine bC.aH (N := 59) func54 rfl rfl (by simp) ?_
 have H := ((St.begin hX).add (cE dI)).add (cE bU)
 have gK := fun u (hu : u ∈ l) => XN ((dI.here) u hu)
 have aAK : ∀ u ∈ l, u.ch.s.oneCell' = true := fun u hu => by rw [Up.aCZ]; split; rfl; exact cN.fX ((dI.here) u hu).2
 refine WE.aA (WL.as rfl rfl (WL.as rfl rfl (WL.nil (WE.aA (WL.as rfl rfl (WL.nil (WE.aA ?_)))))))
 refine WL.RS H rfl rfl ?_
 intro u0 w2 H
 refine WL.as rfl rfl (WL.nil (WE.seq (WE.aA (WL.mv rfl rfl ?_))))
 refine WL.pv (PV.dR (by exact (H.p 0 rfl : (j8 s l) _)) oT rfl) rfl ?_
 refine WL.mv rfl rfl (WL.nil (WE.block ?_))
 replace H := H.kS 127 34
 replace H := H.perm (List.Perm.swap _ _ [])
 refine WE.loop (α := Nat × Value) (rg [(2, 3), (6, 4), (13, 43)]) (fun p => [(13, .int .i64 (p.1 : Int)), (4, p.2)]) (fun p wl => (p.1 ≤ l.length ∧ yN p.1 (l.take p.1) (l.drop p.1) = j6 l ∧ oO (l.take p.1)) ∧ St X w wl [] [aP.EY u0 ((l.take p.1).map Up.k), aP.hU w.heap.size p.2 127 34 ((((l.take p.1).map Up.ch)).length) ((((l.take p.1).map Up.ch)).flatMap eC)] [j8 s l, dU l]) (fun p => l.length - p.1) (0, .slice none 0 0) ⟨rfl, rfl, trivial⟩ ⟨⟨Nat.zero_le _, by rw [List.take_zero, List.drop_zero]; rfl, ⟨fun _ h => (by cases h), List.Pairwise.nil⟩⟩, H⟩ ?_
 intro ⟨i, v_⟩ γ0 w3 hI
 try dsimp only at hI
 obtain ⟨⟨hi, pT, hgd⟩, H⟩ := hI
 try dsimp only at hi pT hgd
 refine WE.aA (WL.pv (PV.lss rfl rfl rfl) rfl (WL.nil (WE.seq ?_)))
 refine WE.cond rfl (fun rT => ?_) (fun rT => ?_)
 ·
  try simp only [bW] at rT
  have hlt : i < l.length := by omega
  have hvi := LC _ (List.getElem_mem hlt)
  have E7 := BM l (l.length - i) i (by omega)
  rw [dif_pos hlt] at E7
  rw [E7] at pT
  have PH := n5 l[i].k
  have aK9 := PH
  have hos := aAK _ (List.getElem_mem hlt)
  have htl : (l.take i).length = i := by rw [List.length_take]; omega
  have qC : ((l.take i).map Up.ch).length = i := by rw [List.length_map]; exact htl
  have hbv := UM (l := l.take i) (u := l[i])
  refine WE.skip (WE.seq (WE.block (WE.aA (WL.mv rfl rfl ?_))))
  refine WL.pv (PV.eA rfl (by exact (H.p 0 rfl : (j8 s l) _)) oT l8 rfl rfl (by omega) (by omega)) rfl ?_
  refine WL.bE rfl aHM rfl rfl ((j8.rd (by exact (H.p 0 rfl : (j8 s l) _)) i hlt)) (by exact l8) ?_
  refine WL.alloc H rfl PR rfl ?_
  intro b7 w4 H
  refine WL.as rfl rfl ?_
  refine WL.aW H 0 rfl rfl rfl (new := QC l[i]) rfl (by exact l8) (gK _ (List.getElem_mem hlt)) (Laid.at (Laid.all rfl) rfl) rfl ?_
  intro w5 H
  refine WL.nil ?_
  refine WE.cut (α := Unit) [18, 19, 20] (fun _ => []) (fun _ wl => St X w wl [] [aP.blk b7 102 (upW l[i]), aP.EY u0 ((l.take i).map Up.k), aP.hU w.heap.size v_ 127 34 ((((l.take i).map Up.ch)).length) ((((l.take i).map Up.ch)).flatMap eC)] [j8 s l, dU l]) ?_ ?_
  ·
   refine WE.aA (WL.pv (PV.fieldAddr rfl wL rfl) rfl (WL.aY rfl u4 rfl rfl (aN.aF (H.l 0 rfl) (aK.tl (aK.tl aK.hd rfl) rfl) rfl) (WL.nil ?_)))
   refine WE.cond rfl (fun j4 => ?_) (fun j4 => ?_)
   ·
    try simp only [bW] at j4
    have hd : l[i].d = true := (by exact j4)
    refine WE.dY (WL.pv (PV.fieldAddr rfl qQ rfl) rfl ?_)
    refine WL.aW H 0 rfl rfl rfl (new := [.slice none 0 0]) rfl (by exact B0) (bA _ rfl) (Laid.at (Laid.tail Laid.head rfl) rfl) rfl ?_
    intro w6 H
    refine WL.nil ?_
    exact ⟨(), (by repeat (first | with_reducible exact bM.refl _ _ | refine bM.dD rfl ?_)), trivial, rfl, H.conv (by rw [aDV hd]; rfl)⟩
   ·
    try simp only [bW] at j4
    have hd : l[i].d = false := (by exact j4)
    refine WE.skip ?_
    exact ⟨(), (by repeat (first | with_reducible exact bM.refl _ _ | refine bM.dD rfl ?_)), trivial, rfl, H.conv (by rw [aDW hd]; rfl)⟩
  ·
   intro _ γ w7 hI
   try dsimp only at hI
   replace H := hI
   refine WE.aA (WL.pv (PV.fieldAddr rfl qR rfl) rfl (WL.aY rfl eU rfl rfl (aN.aF (H.l 0 rfl) aK.hd rfl) (WL.pv (PV.fieldAddr rfl qQ rfl) rfl (WL.aY rfl eU rfl rfl (aN.aF (H.l 0 rfl) (aK.tl aK.hd rfl) rfl) ?_))))
   refine WL.call aFQ rfl (LW (s := l[i].sk) (sv := l[i].ch.s) (lb := l[i].k) (vv := l[i].uv) H.aR (show aJ _ (bJ l[i].sk l[i].k) _ from ((by exact (H.bK 1 rfl : aJ _ (dU l) _)) : aJ _ (dU l) _).imp fun _ h => h.k hlt) (show aJ _ (bJ l[i].ch.s l[i].uv) _ from ((by exact (H.bK 1 rfl : aJ _ (dU l) _)) : aJ _ (dU l) _).imp fun _ h => h.uv hlt) hvi.1 (by unfold Up.uv; split; simp; exact hvi.2)) ?_
   rintro _ w8 ⟨rfl, hO⟩
   replace H := H.out hO
   refine WL.mv rfl rfl (WL.pv (PV.extract rfl rfl rfl) rfl (WL.pv (PV.extract rfl rfl rfl) rfl ?_))
   refine WL.alloc H rfl kL rfl ?_
   intro b8 w9 H
   refine WL.aW H 0 rfl rfl rfl (new := kc (kD l[i].k) ++ [l[i].ch.s]) rfl (cK fH (by simp only [aS, aX, aB]; omega)) (bN (bG _) (eE hos)) (Laid.at (Laid.all (by simp only [aS, aX, aB]; omega)) rfl) rfl ?_
   intro tM H
   refine WL.as rfl rfl (WL.nil ?_)
   refine WE.cut (α := Unit) (rg [(9, 1), (29, 8)]) (fun _ => [(9, .int .i64 (mI (l.take i) l[i]))]) (fun _ wl => St X w wl [] [aP.blk b8 111 (kc (kD l[i].k) ++ [l[i].ch.s]), aP.blk b7 102 (upW l[i]), aP.EY u0 ((l.take i).map Up.k), aP.hU w.heap.size v_ 127 34 ((((l.take i).map Up.ch)).length) ((((l.take i).map Up.ch)).flatMap eC)] [j8 s l, dU l]) ?_ ?_
   ·
    refine WE.aA (WL.mv rfl rfl (WL.pv (PV.eql rfl rfl rfl) rfl (WL.mv rfl rfl ?_)))
    refine WL.split (t := 31) rfl (fun I4 => ?_) (fun I4 => ?_)
    ·
     refine WL.known (t := 30) (c := true) rfl I4 ?_
     try simp only [bW] at I4
     have R9 : cD l[i].k l[i].uv = 0 := (by exact I4)
     have vT : kD l[i].k = l[i].k := if_pos (dL.1 R9).1
     refine WL.mv rfl rfl (WL.pv (PV.fieldAddr rfl gW rfl) rfl ?_)
     refine WL.bE rfl cZ rfl rfl (aN.aF (H.l 0 rfl) (aK.l (aK.all _)) rfl) (cK cL (by simp only [aS, aX, aB]; omega)) ?_
     refine WL.XX H 2 rfl rfl rfl rfl PH rfl ?_
     refine WL.pv (PV.dP rfl rfl rfl) rfl (WL.nil ?_)
     refine WE.cond rfl (fun pA => ?_) (fun pA => ?_)
     ·
      try simp only [bW] at pA
      have hin : l[i].k ∈ ((l.take i).map Up.k) := by rw [← vT]; exact (by exact pA)
      have hb9 : (9 : Int) = (mI (l.take i) l[i]) := by rw [hbv, if_neg (by simp [R9]), if_pos hin]
      refine WE.dY (WL.as rfl rfl (WL.nil ?_))
      exact ⟨(), (by repeat (first | with_reducible exact bM.refl _ _ | refine bM.dD rfl ?_)), ⟨(by (show Value.int .i64 _ = _; rw [hb9])), trivial⟩, rfl, H⟩
     ·
      try simp only [bW] at pA
      have hin : ¬ l[i].k ∈ ((l.take i).map Up.k) := by rw [← vT]; exact (by exact pA)
      have hb9 : cD l[i].k l[i].uv = (mI (l.take i) l[i]) := by rw [hbv, if_neg (by simp [R9]), if_neg hin, R9]
      refine WE.skip ?_
      exact ⟨(), (by repeat (first | with_reducible exact bM.refl _ _ | refine bM.dD rfl ?_)), ⟨(by (show Value.int .i64 _ = _; rw [hb9])), trivial⟩, rfl, H⟩
    ·
     refine WL.known (t := 30) (c := false) rfl I4 ?_
     try simp only [bW] at I4
     have R9 : ¬ cD l[i].k l[i].uv = 0 := (by exact I4)
     have hb9 : cD l[i].k l[i].uv = (mI (l.take i) l[i]) := by rw [hbv, if_pos R9]
     refine WL.off rfl (WL.off rfl (WL.off rfl (WL.off rfl (WL.pv (PV.dF rfl rfl rfl) rfl (WL.nil (WE.jB rfl (WE.skip ?_)))))))
     exact ⟨(), (by repeat (first | with_reducible exact bM.refl _ _ | refine bM.dD rfl ?_)), ⟨(by (show Value.int .i64 _ = _; rw [hb9])), trivial⟩, rfl, H⟩
   ·
    intro _ γ G2 hI
    try dsimp only at hI
    replace H := hI
    refine WE.seq (WE.aA (WL.mv rfl rfl (WL.pv (PV.neq rfl rfl rfl) rfl (WL.nil ?_))))
    refine WE.cond rfl (fun yA => ?_) (fun yA => ?_)
    ·
     try simp only [bW] at yA
     have s9 : (mI (l.take i) l[i]) ≠ 0 := (by exact yA)
     rw [if_pos s9] at pT
     refine WE.aA (WL.mv rfl rfl (WL.mv rfl rfl ?_))
     refine WL.call aCM rfl (JF (op := [97, 112, 112, 108, 121]) (ix := (i : Int)) (code := (mI (l.take i) l[i])) H.aR  ) ?_
     rintro v41 D4 ⟨hO, hR⟩
     replace H := (H.out hO).add hR
     refine WL.as rfl rfl (WL.as rfl rfl (WL.nil (WE.ret ⟨[_, _], _, .nil _, ⟨rfl, rfl, trivial⟩, ?_⟩)))
     refine ⟨.slice none 0 0, v41, rfl, H.aL, ?_, fun h => ?_⟩
     ·
      rw [← pT]; exact H.gF (H.bK 0 rfl)
     ·
      rw [← pT] at h; exact absurd h s9
    ·
     try simp only [bW] at yA
     have s9 : (mI (l.take i) l[i]) = 0 := (by exact yA)
     rw [if_neg (by simp [s9])] at pT
     have hz0 := uZ.1 s9
     have uM := (dL.1 hz0.1).1
     have vT : kD l[i].k = l[i].k := if_pos uM
     have hS : ((l.take (i + 1)).map Up.ch) = ((l.take i).map Up.ch) ++ [l[i].ch] := by rw [List.take_succ_eq_append_getElem hlt, List.map_append]; rfl
     have hSk : ((l.take (i + 1)).map Up.k) = ((l.take i).map Up.k) ++ [l[i].k] := by rw [List.take_succ_eq_append_getElem hlt, List.map_append]; rfl
     refine WE.skip (WE.aA (WL.mv rfl rfl (WL.pv (PV.fieldAddr rfl gW rfl) rfl ?_)))
     refine WL.bE rfl cZ rfl rfl (aN.aF (H.l 0 rfl) (aK.l (aK.all _)) rfl) (cK cL (by simp only [aS, aX, aB]; omega)) ?_
     refine WL.WM H 2 rfl rfl rfl rfl rfl PH (by rw [List.length_map]; omega) rfl ?_
     intro PD H
     refine WL.nil (WE.dY (WL.mv rfl rfl (WL.pv (PV.fieldAddr rfl gW rfl) rfl ?_)))
     refine WL.bE rfl cZ rfl rfl (aN.aF (H.l 0 rfl) (aK.l (aK.all _)) rfl) (cK cL (by simp only [aS, aX, aB]; omega)) ?_
     refine WL.pv (PV.fieldAddr rfl mY rfl) rfl ?_
     refine WL.aY rfl eU rfl rfl (aN.aF (H.l 0 rfl) (aK.r (aK.all _) rfl) (by simp [aI, aQ, *])) ?_
     refine WL.pv (PV.fieldAddr rfl wL rfl) rfl (WL.aY rfl u4 rfl rfl (aN.aF (H.l 1 rfl) (aK.tl (aK.tl aK.hd rfl) rfl) rfl) ?_)
     refine WL.pv (PV.dM rfl RG wQ (Fl.cons rfl rfl (by simp only [aS, aX, aB]; omega) (Laid.left (Laid.all (by simp only [aS, aX, aB]; omega))) (Fl.cons rfl (cells_one hos) (by simp only [aS, aX, aB]) (Laid.right (Laid.left (Laid.all (by simp only [aS, aX, aB]))) (by simp only [aS, aX, aB]; omega)) (Fl.cons rfl rfl (by simp only [aS, aX, aB]) (Laid.right (Laid.right (Laid.all (by simp only [aS, aX, aB])) rfl) (by simp only [aS, aX, aB]; omega)) Fl.nil)))) rfl ?_
     refine WL.bB (l0 := ((kc (List.replicate 32 0) ++ ([.slice none 0 0] ++ ([.bool false]))))) H rfl sF (by decide) rfl (Fl.cons rfl rfl (by simp only [aS, aX, aB]; omega) (Laid.all (by simp only [aS, aX, aB]; omega)) Fl.nil) rfl ?_
     intro b53 P7 H
     refine WL.append (m := 1) H 4 sF (by decide) rfl rfl rfl (cN.bZ (n := 1) (H.l 0 rfl) (iV (c := ⟨kD l[i].k, l[i].ch.s, l[i].uv, l[i].d⟩) PH)) (k3 (c := ⟨kD l[i].k, l[i].ch.s, l[i].uv, l[i].d⟩) hos) (by omega) (by decide) rfl ?_
     intro v54 P6 H
     have CX := congrArg List.length hS
     rw [List.length_append, List.length_singleton] at CX
     have FK := congrArg (List.flatMap eC) hS
     rw [List.flatMap_append, List.flatMap_singleton] at FK
     replace H := H.forget 0
     replace H := H.forget 0
     replace H := H.forget 0
     rw [vT] at H
     replace H := H.conv (L' := [aP.EY u0 ((l.take (i + 1)).map Up.k), aP.hU w.heap.size v54 127 34 ((((l.take (i + 1)).map Up.ch)).length) ((((l.take (i + 1)).map Up.ch)).flatMap eC)]) (by rw [CX, FK, hSk]; rfl)
     refine WL.as rfl rfl (WL.nil (WE.dY (WL.pv (PV.eq (v' := .int .i64 ((i + 1 : Nat) : Int)) (PV.bT rfl rfl rfl (by omega) (by omega)) rfl) rfl (WL.mv rfl rfl (WL.nil ?_)))))
     exact ⟨(i + 1, v54), (by repeat (first | with_reducible exact bM.refl _ _ | refine bM.dD rfl ?_ | refine bM.bY rfl ?_ | refine bM.bV rfl ?_)), ⟨rfl, rfl, trivial⟩, rfl, ⟨⟨by dsimp only; omega, pT, hgd.take_one hlt s9⟩, H⟩, (by dsimp only; omega)⟩
 ·
  try simp only [bW] at rT
  have tO : l.take i = l := List.take_of_length_le (by omega)
  have hid : l.drop i = [] := List.drop_eq_nil_of_le (by omega)
  rw [hid] at pT
  have aCx : j6 l = (0, 0) := pT.symm
  rw [tO] at hgd
  rw [tO] at H
  refine WE.exit (WE.aA (WL.mv rfl rfl ?_))
  refine WL.call aJw rfl (Z0 (l := l.map Up.ch) (H.l 1 rfl) hgd.ch.1 (fun c hc => by obtain ⟨u, hu, rfl⟩ := List.mem_map.1 hc; exact aAK u hu) hgd.ch.2.1 (by rw [List.length_map]; omega)) ?_
  rintro _ P5 ⟨cs, rfl, q9, x7, hO, iB⟩
  replace H := H.oX (i := 1) rfl hO (aP.hU w.heap.size v_ 127 34 cs.length (cs.flatMap eC)) iB (fun b hb => .inl hb)
  refine WL.nil (WE.aA (WL.mv rfl rfl (WL.as rfl rfl (WL.as rfl rfl (WL.nil (WE.ret ⟨[_, _], _, .nil _, ⟨rfl, rfl, trivial⟩, ?_⟩))))))
  refine ⟨v_, .nilIface, rfl, H.aL, ?_, fun _ => ⟨cs, ?_, ?_, q9, x7⟩⟩
  ·
   rw [aCx]; exact fun _ _ => .inl ⟨rfl, rfl⟩
  ·
   exact (mT hX (H.l 1 rfl)).imp fun _ h => cN.dJ h
  ·
   exact H.gF ((show aJ _ (dU l) _ from (by exact (H.bK 1 rfl : aJ _ (dU l) _))).imp fun _ h c hc => by obtain ⟨u, hu, rfl⟩ := List.mem_map.1 (q9.mem_iff.2 hc); obtain ⟨q, hq, rfl⟩ := List.getElem_of_mem hu; exact h.uv hq)
theorem U4 {X : Nat → Prop} {w : World} {bt bh bc : Nat} {bits c0 : Int} {T : Tr} {m : List En} {s sv : Value} {lb vv : List UInt8} (hX : cY X w) (eY : aN w bc 213 ([.int .i64 c0])) (zF : aN w bt 90 ([.pointer (some ⟨bh, 0, none⟩), T.ptr])) (bU : aJ (fun c_ => X c_ ∨ c_ = bc ∨ c_ = bt) (fQ bh bc bits) w) (dI : aJ (fun c_ => X c_ ∨ c_ = bc ∨ c_ = bt) (cW bits T) w) (fU : aJ (fun c_ => X c_ ∨ c_ = bc ∨ c_ = bt) (bJ s lb) w) (jY : aJ (fun c_ => X c_ ∨ c_ = bc ∨ c_ = bt) (bJ sv vv) w) (o9 : aJ (fun c_ => X c_ ∨ c_ = bc ∨ c_ = bt) (aZ) w) (hne : bc ≠ bt) (bS : 0 ≤ bits ∧ bits ≤ 256) (hT : T.er = grow 0 m) (hs : j7 m) (tN : KL m) (zS : m.length ≤ 1000000) (FA : lb.length ≤ 9223372036854775807) (hvv : vv.length ≤ 9223372036854775807) :
  bC prog 18 [.pointer (some ⟨bt, 0, none⟩), s, sv].toArray w fun v w' => ∃ (T' : Tr) (c' : Int) , T'.er = grow 0 (if cD lb vv = 0 then fS m ⟨lb, sv, vv⟩ else m) ∧ Out (fun c => c = bc ∨ c = bt) w w' ∧ aN w' bc 213 [.int .i64 c'] ∧ aN w' bt 90 [.pointer (some ⟨bh, 0, none⟩), T'.ptr] ∧ aJ (fun c => X c ∨ c = bc ∨ c = bt) (cW bits T') w' ∧ aJ (fun c => X c ∨ c = bc ∨ c = bt) (fI [112, 117, 116] 0 (cD lb vv) v) w' := by
 refine bC.aH (N := 32) func18 rfl rfl (by simp) ?_
 have H := St.r5 (b1 := bc) (b2 := bt) (t1 := 213) (t2 := 90) (l1 := [.int .i64 c0]) (l2 := [.pointer (some ⟨bh, 0, none⟩), T.ptr]) hX eY zF hne
 replace H := H.add (iA o9)
 replace H := H.add (iA jY)
 replace H := H.add (iA fU)
 replace H := H.add (iA dI)
 replace H := H.add (iA bU)
 have wE : sv.oneCell' = true := cN.fX (jY.here)
 have PH := n5 lb
 refine WE.aA (WL.as rfl rfl (WL.nil (WE.aA (WL.mv rfl rfl (WL.mv rfl rfl (WL.mv rfl rfl ?_))))))
 refine WL.call aCN rfl (wW (bt := bt) (op := [112, 117, 116]) (lb := lb) (vv := vv) H.aR (by exact H.bK 2 rfl) (by exact H.bK 3 rfl) (by assumption) (by assumption)) ?_
 rintro _ w1 ⟨pL, rfl, hO, rA⟩
 have aCt := rA.here.ifv
 have s5 := rA.here.isNil
 have YI := rA.here.one
 replace H := (H.out hO).add rA
 refine WL.mv rfl rfl (WL.pv (PV.extract rfl rfl rfl) rfl (WL.pv (PV.extract rfl rfl rfl) rfl ?_))
 refine WL.alloc H rfl kL rfl ?_
 intro b7 w2 H
 refine WL.aW H 0 rfl rfl rfl (new := kc (kD lb) ++ [sv]) rfl (cK fH (by simp only [aS]; omega)) (bN (bG _) (eE wE)) (Laid.at (Laid.all (by simp only [aS]; omega)) rfl) rfl ?_
 intro w3 H
 refine WL.as rfl rfl (WL.nil (WE.seq (WE.aA (WL.mv rfl rfl (WL.pv (PV.qF rfl (by kernel_rfl) (by assumption)) rfl (WL.nil ?_))))))
 refine WE.cond rfl (fun iR => ?_) (fun iR => ?_)
 ·
  try simp only [bW] at iR
  have hz : cD lb vv = 0 := by have h_ : iS pL = true := iR; rw [s5] at h_; simpa using h_
  have uM := (dL.1 hz).1
  have aKT := (dL.1 hz).2
  have vT : kD lb = lb := if_pos uM
  refine WE.draw (.take 0 (.take 1 (.take 2 (.take 3 (.take 4 (.take 5 (.take 6 (.take 7 (.take 8 (.take 9 (.aG 10 (.take 11 (.take 12 (.aG 13 .done)))))))))))))) mixed (by kernel_rfl) ?_
  replace H := H.out (Out.drew _)
  refine WP.mv rfl rfl rfl (WP.mv rfl rfl rfl (WP.aC rfl rfl (PV.nilCheck rfl rfl) (WP.aC rfl rfl (PV.fieldAddr rfl yF rfl) (WP.aM rfl rfl (RV.aV rfl vX rfl) (aN.aF (H.o 1 rfl) aK.hd rfl) (WP.mv rfl rfl rfl (WP.aC rfl rfl (PV.nilCheck rfl rfl) (WP.aC rfl rfl (PV.fieldAddr rfl pC rfl) ?_)))))))
  refine WP.aM rfl rfl (RV.aV rfl iL rfl) (aN.aF (H.o 1 rfl) (aK.tl aK.hd rfl) rfl) ?_
  refine WP.dN rfl rfl rfl oM rfl (aN.aF (H.l 0 rfl) (aK.all _) rfl) (cK fH (by simp only [aS]; omega)) ?_
  refine WP.aG rfl ?_
  refine WL.call aJO rfl (aDi (T := T) (M := m) (k := kD lb) (lv := vv) (s := sv) (bits := bits) H.aR (H.o 0 rfl) (by exact (H.aO 0 rfl 1 rfl : aJ _ (fQ bh bc bits) _)) (by exact (H.aO 0 rfl 2 rfl : aJ _ (cW bits T) _)) (by exact (H.aO 0 rfl 5 rfl : aJ _ (aZ) _)) bS PH (by omega) (aJ.wk1 (X := YY X _ _) (by exact (H.aO 0 rfl 4 rfl : aJ _ (bJ sv vv) _))) hT tN hs (by omega)) ?_
  rintro _ w4 ⟨aDc, aKL, rfl, aFr, hO, hB, hR⟩
  replace H := H.dH 0 rfl hO hB hR
  refine WL.nil ⟨(fa (nw 10 9) (fa (nw 10 8) (fa (nw 10 4) c5))), ?_⟩
  refine WP.aC rfl rfl (PV.nilCheck rfl rfl) (WP.aC rfl rfl (PV.fieldAddr rfl pC rfl) (WP.aG rfl ?_))
  refine WL.lH H 1 rfl rfl rfl (new := [aDc.ptr]) rfl (by exact l5) (bA _ rfl) (Laid.at (Laid.tail Laid.head rfl) rfl) rfl ?_
  intro w5 H
  refine WL.nil ⟨(fa (nw 13 9) (fa (nw 13 8) (fa (nw 13 4) c5))), ?_⟩
  refine WP.done (WE.aA (WL.mv rfl rfl (WL.as rfl rfl (WL.nil (WE.ret ⟨[_], _, .nil _, ⟨rfl, trivial⟩, ?_⟩)))))
  exact ⟨aDc, _, by rw [aFr, if_pos hz, vT], H.lG, H.o 0 rfl, H.o 1 rfl, H.gE (by exact (H.bK 0 rfl : aJ _ (cW bits aDc) _)), H.gE (by exact (H.bK 1 rfl : aJ _ (fI [112, 117, 116] 0 (cD lb vv) pL) _))⟩
 ·
  try simp only [bW] at iR
  have hz : ¬ cD lb vv = 0 := by have h_ : iS pL = false := iR; rw [s5] at h_; simpa using h_
  refine WE.skip (WE.aA (WL.mv rfl rfl (WL.as rfl rfl (WL.nil (WE.ret ⟨[_], _, .nil _, ⟨rfl, trivial⟩, ?_⟩)))))
  exact ⟨T, _, by rw [hT, if_neg hz], H.lG, H.o 0 rfl, H.o 1 rfl, H.gE (by exact (H.bK 2 rfl : aJ _ (cW bits T) _)), H.gE (by exact (H.bK 0 rfl : aJ _ (fI [112, 117, 116] 0 (cD lb vv) pL) _))⟩
theorem aDd {X : Nat → Prop} {w : World} {bt bh : Nat} {bits : Int} {T : Tr} {m : List En} {s : Value} {lb : List UInt8} (hX : cY X w) (eY : aN w bt 90 ([.pointer (some ⟨bh, 0, none⟩), T.ptr])) (bU : aJ (fun c_ => X c_ ∨ c_ = bt) (cW bits T) w) (dI : aJ (fun c_ => X c_ ∨ c_ = bt) (bJ s lb) w) (hT : T.er = grow 0 m) (hs : j7 m) (tN : KL m) (zS : m.length ≤ 1000000) (FA : lb.length ≤ 9223372036854775807) :
  bC prog 19 [.pointer (some ⟨bt, 0, none⟩), s].toArray w fun v w' => ∃ sv2 ev, v = .tuple [sv2, .bool (decide (lb.length = 32) && kI m lb), ev].toArray ∧ Out Nil w w' ∧ aJ (fun c => X c ∨ c = bt) (bJ sv2 (if lb.length = 32 then gV m lb else [])) w' ∧ aJ (fun c => X c ∨ c = bt) (fI [103, 101, 116] 0 (cD lb []) ev) w' := by
 refine bC.aH (N := 32) func19 rfl rfl (by simp) ?_
 have H := ((St.dG (b := bt) (t := 90) (l := [.pointer (some ⟨bh, 0, none⟩), T.ptr]) hX eY).add (cC dI)).add (cC bU)
 have PH := n5 lb
 have hrz := iK lb
 refine WE.aA (WL.as rfl rfl (WL.as rfl rfl (WL.as rfl rfl (WL.nil (WE.aA (WL.mv rfl rfl (WL.mv rfl rfl ?_)))))))
 refine WL.call aCN rfl (wW (bt := bt) (op := [103, 101, 116]) (lb := lb) (vv := []) H.aR (by exact H.bK 1 rfl) (by exact fun _ _ => bJ.nil _) (by assumption) (by simp_all)) ?_
 rintro _ w1 ⟨yJ, rfl, hO, FL⟩
 have aJa := FL.here.ifv
 have LH := FL.here.isNil
 have aH8 := FL.here.one
 replace H := (H.out hO).add FL
 refine WL.mv rfl rfl (WL.pv (PV.extract rfl rfl rfl) rfl (WL.pv (PV.extract rfl rfl rfl) rfl ?_))
 refine WL.alloc H rfl kL rfl ?_
 intro b7 w2 H
 refine WL.aW H 0 rfl rfl rfl (new := kc (kD lb) ++ [.slice none 0 0]) rfl (cK fH (by simp only [aS]; omega)) (by exact bN (bG _) (bA _ rfl)) (Laid.at (Laid.all (by simp only [aS]; omega)) rfl) rfl ?_
 intro w3 H
 refine WL.as rfl rfl (WL.nil (WE.seq (WE.aA (WL.mv rfl rfl (WL.pv (PV.AW rfl (by kernel_rfl) (by assumption)) rfl (WL.nil ?_))))))
 refine WE.cond rfl (fun oB => ?_) (fun oB => ?_)
 ·
  try simp only [bW] at oB
  have hz : ¬ cD lb [] = 0 := by have h_ : iS yJ = false := oB; rw [LH] at h_; simpa using h_
  have G9 : ¬ lb.length = 32 := fun h => hz (by rw [hrz, if_pos h])
  refine WE.aA (WL.mv rfl rfl (WL.as rfl rfl (WL.as rfl rfl (WL.as rfl rfl (WL.nil (WE.ret ⟨[_, _, _], _, .nil _, ⟨rfl, rfl, rfl, trivial⟩, ?_⟩))))))
  refine ⟨.slice none 0 0, yJ, ?_, (H.KZ eY), (fun w_ _ => by rw [if_neg G9]; exact bJ.nil w_), H.fV (by exact (H.bK 0 rfl : aJ _ (fI [103, 101, 116] 0 (cD lb []) yJ) _))⟩
  rw [decide_eq_false G9]; rfl
 ·
  try simp only [bW] at oB
  have hz : cD lb [] = 0 := by have h_ : iS yJ = true := oB; rw [LH] at h_; simpa using h_
  have G9 := (dL.1 hz).1
  have vT : kD lb = lb := if_pos G9
  refine WE.skip ?_
  refine WE.bH (.take 0 (.take 1 (.take 2 (.take 3 (.take 4 (.take 5 (.aG 6 (.take 7 (.take 8 (.take 9 (.take 10 (.take 11 .done)))))))))))) mixed (by kernel_rfl) ?_
  replace H := H.out (Out.drew _)
  refine WP.mv rfl rfl rfl (WP.aC rfl rfl (PV.nilCheck rfl rfl) (WP.aC rfl rfl (PV.fieldAddr rfl pC rfl) (WP.aM rfl rfl (RV.aV rfl iL rfl) (aN.aF (H.o 0 rfl) (aK.tl aK.hd rfl) rfl) (WP.aC rfl rfl (PV.fieldAddr rfl gW rfl) ?_))))
  refine WP.dN rfl rfl rfl cZ rfl (aN.aF (H.l 0 rfl) (aK.l (aK.all _)) rfl) (cK cL (by simp only [aS]; omega)) ?_
  refine WP.aG rfl ?_
  refine WL.call aJN rfl (aDs (T := T) (m := m) (k := kD lb) (bits := bits) H.aR (by exact (H.bK 1 rfl : aJ _ (cW bits T) _)) PH hT hs tN) ?_
  rintro _ w4 ⟨gv, rfl, hO, hG⟩
  replace H := (H.out hO).add (show aJ _ (bJ gv (gV m (kD lb))) _ from hG)
  refine WL.nil ⟨(fa (nw 6 5) (fa (nw 6 3) c5)), ?_⟩
  refine WP.mv rfl rfl rfl (WP.aC rfl rfl (PV.extract rfl rfl rfl) (WP.aC rfl rfl (PV.extract rfl rfl rfl) (WP.as rfl rfl rfl (WP.as rfl rfl rfl (WP.done (WE.aA (WL.mv rfl rfl ?_)))))))
  refine WL.mv rfl rfl (WL.as rfl rfl (WL.as rfl rfl (WL.as rfl rfl (WL.nil (WE.ret ⟨[_, _, _], _, .nil _, ⟨rfl, rfl, rfl, trivial⟩, ?_⟩)))))
  have SB : yJ = .nilIface := by rcases FL.here with ⟨_, h_⟩ | ⟨h_, _⟩; exact h_; exact absurd hz h_
  refine ⟨gv, yJ, ?_, (H.KZ eY), (H.fV (by exact (H.bK 0 rfl : aJ _ (bJ gv (gV m (kD lb))) _))).imp (fun _ h => by rw [if_pos G9]; rw [vT] at h; exact h), H.fV (by exact (H.bK 1 rfl : aJ _ (fI [103, 101, 116] 0 (cD lb []) yJ) _))⟩
  rw [decide_eq_true G9, SB, vT]; rfl
theorem aDe {X : Nat → Prop} {w : World} {bt bh bc : Nat} {bits c0 : Int} {T : Tr} {m : List En} {s : Value} {lb : List UInt8} (hX : cY X w) (eY : aN w bc 213 ([.int .i64 c0])) (zF : aN w bt 90 ([.pointer (some ⟨bh, 0, none⟩), T.ptr])) (bU : aJ (fun c_ => X c_ ∨ c_ = bc ∨ c_ = bt) (fQ bh bc bits) w) (dI : aJ (fun c_ => X c_ ∨ c_ = bc ∨ c_ = bt) (cW bits T) w) (fU : aJ (fun c_ => X c_ ∨ c_ = bc ∨ c_ = bt) (bJ s lb) w) (jY : aJ (fun c_ => X c_ ∨ c_ = bc ∨ c_ = bt) (aZ) w) (hne : bc ≠ bt) (bS : 0 ≤ bits ∧ bits ≤ 256) (hT : T.er = grow 0 m) (hs : j7 m) (tN : KL m) (zS : m.length ≤ 1000000) (FA : lb.length ≤ 9223372036854775807) :
  bC prog 20 [.pointer (some ⟨bt, 0, none⟩), s].toArray w fun v w' => ∃ (T' : Tr) (c' : Int) (ev : Value), v = .tuple [.bool (decide (lb.length = 32) && kI m lb), ev].toArray ∧ T'.er = grow 0 (if cD lb [] = 0 then fG m lb else m) ∧ Out (fun c => c = bc ∨ c = bt) w w' ∧ aN w' bc 213 [.int .i64 c'] ∧ aN w' bt 90 [.pointer (some ⟨bh, 0, none⟩), T'.ptr] ∧ aJ (fun c => X c ∨ c = bc ∨ c = bt) (cW bits T') w' ∧ aJ (fun c => X c ∨ c = bc ∨ c = bt) (fI [100, 101, 108, 101, 116, 101] 0 (cD lb []) ev) w' := by
 refine bC.aH (N := 38) func20 rfl rfl (by simp) ?_
 have H := St.r5 (b1 := bc) (b2 := bt) (t1 := 213) (t2 := 90) (l1 := [.int .i64 c0]) (l2 := [.pointer (some ⟨bh, 0, none⟩), T.ptr]) hX eY zF hne
 replace H := H.add (iA jY)
 replace H := H.add (iA fU)
 replace H := H.add (iA dI)
 replace H := H.add (iA bU)
 have PH := n5 lb
 have hrz := iK lb
 refine WE.aA (WL.as rfl rfl (WL.as rfl rfl (WL.nil (WE.aA (WL.mv rfl rfl (WL.mv rfl rfl ?_))))))
 refine WL.call aCN rfl (wW (bt := bt) (op := [100, 101, 108, 101, 116, 101]) (lb := lb) (vv := []) H.aR (by exact H.bK 2 rfl) (by exact fun _ _ => bJ.nil _) (by assumption) (by simp_all)) ?_
 rintro _ w1 ⟨pL, rfl, hO, rA⟩
 have aCt := rA.here.ifv
 have s5 := rA.here.isNil
 have YI := rA.here.one
 replace H := (H.out hO).add rA
 refine WL.mv rfl rfl (WL.pv (PV.extract rfl rfl rfl) rfl (WL.pv (PV.extract rfl rfl rfl) rfl ?_))
 refine WL.alloc H rfl kL rfl ?_
 intro b6 w2 H
 refine WL.aW H 0 rfl rfl rfl (new := kc (kD lb) ++ [.slice none 0 0]) rfl (cK fH (by simp only [aS]; omega)) (by exact bN (bG _) (bA _ rfl)) (Laid.at (Laid.all (by simp only [aS]; omega)) rfl) rfl ?_
 intro w3 H
 refine WL.as rfl rfl (WL.nil (WE.seq (WE.aA (WL.mv rfl rfl (WL.pv (PV.AW rfl (by kernel_rfl) (by assumption)) rfl (WL.nil ?_))))))
 refine WE.cond rfl (fun iR => ?_) (fun iR => ?_)
 ·
  try simp only [bW] at iR
  have hz : ¬ cD lb [] = 0 := by have h_ : iS pL = false := iR; rw [s5] at h_; simpa using h_
  have G9 : ¬ lb.length = 32 := fun h => hz (by rw [hrz, if_pos h])
  refine WE.aA (WL.mv rfl rfl (WL.as rfl rfl (WL.as rfl rfl (WL.nil (WE.ret ⟨[_, _], _, .nil _, ⟨rfl, rfl, trivial⟩, ?_⟩)))))
  refine ⟨T, _, pL, ?_, by rw [hT, if_neg hz], H.lG, H.o 0 rfl, H.o 1 rfl, H.gE (by exact (H.bK 2 rfl : aJ _ (cW bits T) _)), H.gE (by exact (H.bK 0 rfl : aJ _ (fI [100, 101, 108, 101, 116, 101] 0 (cD lb []) pL) _))⟩
  rw [decide_eq_false G9]; rfl
 ·
  try simp only [bW] at iR
  have hz : cD lb [] = 0 := by have h_ : iS pL = true := iR; rw [s5] at h_; simpa using h_
  have G9 := (dL.1 hz).1
  have vT : kD lb = lb := if_pos G9
  refine WE.skip ?_
  refine WE.bH (.take 0 (.take 1 (.take 2 (.take 3 (.take 4 (.take 5 (.take 6 (.take 7 (.take 8 (.take 9 (.aG 10 (.take 11 (.take 12 (.take 13 (.take 14 (.take 15 .done)))))))))))))))) mixed (by kernel_rfl) ?_
  replace H := H.out (Out.drew _)
  refine WP.mv rfl rfl rfl (WP.aC rfl rfl (PV.nilCheck rfl rfl) (WP.aC rfl rfl (PV.fieldAddr rfl yF rfl) (WP.aM rfl rfl (RV.aV rfl vX rfl) (aN.aF (H.o 1 rfl) aK.hd rfl) (WP.mv rfl rfl rfl (WP.aC rfl rfl (PV.nilCheck rfl rfl) (WP.aC rfl rfl (PV.fieldAddr rfl pC rfl) (WP.aM rfl rfl (RV.aV rfl iL rfl) (aN.aF (H.o 1 rfl) (aK.tl aK.hd rfl) rfl) ?_)))))))
  refine WP.aC rfl rfl (PV.fieldAddr rfl gW rfl) ?_
  refine WP.dN rfl rfl rfl cZ rfl (aN.aF (H.l 0 rfl) (aK.l (aK.all _)) rfl) (cK cL (by simp only [aS]; omega)) ?_
  refine WP.aG rfl ?_
  refine WL.call aJM rfl (O0 (T := T) (M := m) (k := kD lb) (bits := bits) H.aR (H.o 0 rfl) (by exact (H.aO 0 rfl 1 rfl : aJ _ (fQ bh bc bits) _)) (by exact (H.aO 0 rfl 2 rfl : aJ _ (cW bits T) _)) (by exact (H.aO 0 rfl 4 rfl : aJ _ (aZ) _)) bS PH hT (hs.pm tN) (by omega)) ?_
  rintro _ w4 ⟨DF, aLi, aLf, rfl, FJ, aFa, aKw, hO, hB, hR⟩
  replace H := H.dH 0 rfl hO hB hR
  refine WL.nil ⟨(fa (nw 10 9) (fa (nw 10 7) (fa (nw 10 3) c5))), ?_⟩
  refine WP.mv rfl rfl rfl (WP.aC rfl rfl (PV.extract rfl rfl rfl) (WP.aC rfl rfl (PV.extract rfl rfl rfl) (WP.as rfl rfl rfl (WP.as rfl rfl rfl (WP.done (WE.aA (WL.mv rfl rfl ?_)))))))
  refine WL.mv rfl rfl (WL.pv (PV.nilCheck rfl rfl) rfl (WL.pv (PV.fieldAddr rfl pC rfl) rfl ?_))
  refine WL.lH H 1 rfl rfl rfl (new := [DF.ptr]) rfl (by exact l5) (bA _ rfl) (Laid.at (Laid.tail Laid.head rfl) rfl) rfl ?_
  intro w5 H
  refine WL.nil (WE.aA (WL.mv rfl rfl (WL.as rfl rfl (WL.as rfl rfl (WL.nil (WE.ret ⟨[_, _], _, .nil _, ⟨rfl, rfl, trivial⟩, ?_⟩))))))
  have SB : pL = .nilIface := by rcases rA.here with ⟨_, h_⟩ | ⟨h_, _⟩; exact h_; exact absurd hz h_
  refine ⟨DF, _, pL, ?_, by rw [FJ, if_pos hz, vT], H.lG, H.o 0 rfl, H.o 1 rfl, H.gE (by exact (H.bK 0 rfl : aJ _ (cW bits DF) _)), H.gE (by exact (H.bK 1 rfl : aJ _ (fI [100, 101, 108, 101, 116, 101] 0 (cD lb []) pL) _))⟩
  rw [decide_eq_true G9, SB, aFa, vT]; rfl
noncomputable def aHl : Array Value → Sem Value := (Extern.find f252).getD fun _ => pure (.bool false)
theorem coE (w : World) : (aHl [.agg [(.pointer (some ⟨3, 42, none⟩))].toArray].toArray).run prog w = .ok (.bool true) w := by kernel_rfl
theorem BL : ∀ (l b : List Up) (i : Nat), (yN i b l).2 = 0 → yN i b l = (0, 0)
 | [], _, _, _ => rfl
 | u :: l, b, i, h => by
  unfold yN at h ⊢
  by_cases hu : mI b u = 0
  ·
   rw [if_neg (by simp [hu])] at h ⊢
   exact BL l (b ++ [u]) (i + 1) h
  ·
   rw [if_pos hu] at h; exact absurd h hu
theorem OJ {l : List Up} (h : (j6 l).2 = 0) : (j6 l).1 = 0 := by
 have := BL l [] 0 h
 unfold j6; rw [this]
theorem XL.perm {l l' : List Ch} (h : XL l) (hp : l.Perm l') : XL l' := fun c hc => h c (hp.mem_iff.2 hc)
theorem nL.perm {l l' : List Ch} (h : nL l) (hp : l.Perm l') : nL l' := fun c hc => h c (hp.mem_iff.2 hc)
theorem aEH {X : Nat → Prop} {w : World}  (hX : cY X w) :
  bC prog 98 [.iface 42 (.int .i64 0), .iface 42 (.int .i64 0), .bool true].toArray w fun v w' => v = .bool true ∧ Out Nil w w' := by
 refine bC.aH (N := 54) func98 rfl rfl (by simp) ?_
 have H := St.begin hX
 refine WE.aA (WL.as rfl rfl (WL.nil (WE.block ?_)))
 refine WE.jX 1 ?_
 refine dW.step ?_
 refine WE.block (WE.seq (WE.aA (WL.mv rfl rfl (WL.mv rfl rfl (WL.known (t := 15) (c := true) rfl rfl (WL.mv rfl rfl (WL.mv rfl rfl ?_)))))))
 refine WL.pv (PV.TX rfl (by kernel_rfl) aIB (by kernel_rfl) rfl rfl) rfl (WL.pv (PV.dP rfl rfl rfl) rfl (WL.nil ?_))
 refine WE.cS rfl rfl ?_
 refine WE.aA (WL.as rfl rfl (WL.nil (WE.ret ⟨[_], _, .nil _, ⟨rfl, trivial⟩, ?_⟩)))
 refine ⟨?_, H.aL⟩
 rfl
theorem aHY {X : Nat → Prop} {w : World}  (hX : cY X w) :
  bC prog 56 [.iface 42 (.int .i64 0), .iface 42 (.int .i64 0)].toArray w fun v w' => v = .bool true ∧ Out Nil w w' := by
 refine bC.aH (N := 22) func56 rfl rfl (by simp) ?_
 have H := St.begin hX
 refine WE.aA (WL.as rfl rfl (WL.nil (WE.seq (WE.aA (WL.mv rfl rfl ?_)))))
 refine WL.pv (PV.qF rfl (by kernel_rfl) (by exact zH.of)) rfl ?_
 refine WL.mv rfl rfl (WL.known (t := 8) (c := false) rfl rfl (WL.mv rfl rfl ?_))
 refine WL.pv (PV.qF rfl (by kernel_rfl) (by exact zH.of)) rfl ?_
 refine WL.pv (PV.dF rfl rfl rfl) rfl (WL.nil ?_)
 refine WE.bD rfl rfl ?_
 refine WE.skip (WE.aA (WL.mv rfl rfl ?_))
 refine WL.extern (e := Extern.ReflectliteType.typeOf) func97 (by kernel_rfl) (by kernel_rfl) (by kernel_rfl) (by kernel_rfl) rfl (toE 0 _) ?_
 refine WL.jQ (e := aHl) rfl (fun w => meC _ w) func252 (by kernel_rfl) (by kernel_rfl) (by kernel_rfl) (by kernel_rfl) rfl (coE _) ?_
 refine WL.as rfl rfl (WL.nil (WE.aA (WL.mv rfl rfl (WL.mv rfl rfl (WL.mv rfl rfl ?_)))))
 refine WL.call aJt rfl (aEH H.aR) ?_
 rintro _ w3 ⟨rfl, hO⟩
 replace H := H.out hO
 refine WL.as rfl rfl (WL.nil (WE.ret ⟨[_], _, .nil _, ⟨rfl, trivial⟩, ?_⟩))
 refine ⟨?_, H.aL⟩
 rfl
theorem U6 {X : Nat → Prop} {w : World} {bt bh bc : Nat} {bits c0 : Int} {T : Tr} {m : List En} {s : Value} {l : List Up} (hX : cY X w) (eY : aN w bc 213 ([.int .i64 c0])) (zF : aN w bt 90 ([.pointer (some ⟨bh, 0, none⟩), T.ptr])) (bU : aJ (fun c_ => X c_ ∨ c_ = bc ∨ c_ = bt) (fQ bh bc bits) w) (dI : aJ (fun c_ => X c_ ∨ c_ = bc ∨ c_ = bt) (cW bits T) w) (fU : aJ (fun c_ => X c_ ∨ c_ = bc ∨ c_ = bt) (j8 s l) w) (jY : aJ (fun c_ => X c_ ∨ c_ = bc ∨ c_ = bt) (dU l) w) (o9 : aJ (fun c_ => X c_ ∨ c_ = bc ∨ c_ = bt) (aZ) w) (hne : bc ≠ bt) (bS : 0 ≤ bits ∧ bits ≤ 256) (hT : T.er = grow 0 m) (hs : j7 m) (tN : KL m) (zS : m.length ≤ 1000) (hlen : l.length ≤ 1000) (LC : ∀ u ∈ l, u.k.length ≤ 9223372036854775807 ∧ u.v.length ≤ 9223372036854775807) :
  bC prog 21 [.pointer (some ⟨bt, 0, none⟩), s].toArray w fun v w' => ∃ (T' : Tr) (c' : Int), T'.er = grow 0 (if (j6 l).2 = 0 then tX m l else m) ∧ Out (fun c => c = bc ∨ c = bt) w w' ∧ aN w' bc 213 [.int .i64 c'] ∧ aN w' bt 90 [.pointer (some ⟨bh, 0, none⟩), T'.ptr] ∧ aJ (fun c => X c ∨ c = bc ∨ c = bt) (cW bits T') w' ∧ aJ (fun c => X c ∨ c = bc ∨ c = bt) (fI [97, 112, 112, 108, 121] (((j6 l).1 : Nat) : Int) (j6 l).2 v) w' := by
 refine bC.aH (N := 43) func21 rfl rfl (by simp) ?_
 have H := St.r5 (b1 := bc) (b2 := bt) (t1 := 213) (t2 := 90) (l1 := [.int .i64 c0]) (l2 := [.pointer (some ⟨bh, 0, none⟩), T.ptr]) hX eY zF hne
 replace H := H.add (iA o9)
 replace H := H.add (iA jY)
 replace H := H.add (iA fU)
 replace H := H.add (iA dI)
 replace H := H.add (iA bU)
 refine WE.aA (WL.as rfl rfl (WL.nil (WE.seq (WE.aA (WL.mv rfl rfl (WL.pv (PV.jP rfl H9 rfl rfl) rfl (WL.nil ?_)))))))
 refine WE.bD rfl rfl ?_
 refine WE.skip (WE.aA (WL.mv rfl rfl ?_))
 refine WL.call aJL rfl (JI (s := s) (l := l) H.aR (by exact (H.bK 2 rfl : aJ _ (j8 s l) _)) (by exact (H.bK 3 rfl : aJ _ (dU l) _)) hlen LC) ?_
 rintro _ w1 ⟨v1_, v2_, rfl, hO, hE, hC⟩
 have aLb := hE.here.ifv
 have aAN := hE.here.isNil
 replace H := (H.out hO).add (show aJ _ (fI [97, 112, 112, 108, 121] (((j6 l).1 : Nat) : Int) (j6 l).2 v2_) _ from hE)
 refine WL.mv rfl rfl (WL.pv (PV.extract rfl rfl rfl) rfl (WL.pv (PV.extract rfl rfl rfl) rfl (WL.as rfl rfl (WL.as rfl rfl (WL.nil (WE.seq (WE.aA ?_)))))))
 refine WL.mv rfl rfl (WL.pv (PV.AW rfl (by kernel_rfl) (by assumption)) rfl (WL.nil ?_))
 refine WE.cond rfl (fun oB => ?_) (fun oB => ?_)
 ·
  try simp only [bW] at oB
  have hz : ¬ (j6 l).2 = 0 := by have h_ : iS v2_ = false := oB; rw [aAN] at h_; simpa using h_
  refine WE.aA (WL.mv rfl rfl (WL.as rfl rfl (WL.nil (WE.ret ⟨[_], _, .nil _, ⟨rfl, trivial⟩, ?_⟩))))
  exact ⟨T, _, by rw [hT, if_neg hz], H.lG, H.o 0 rfl, H.o 1 rfl, H.gE (by exact (H.bK 2 rfl : aJ _ (cW bits T) _)), H.gE (by exact (H.bK 0 rfl : aJ _ (fI [97, 112, 112, 108, 121] (((j6 l).1 : Nat) : Int) (j6 l).2 v2_) _))⟩
 ·
  try simp only [bW] at oB
  have hz : (j6 l).2 = 0 := by have h_ : iS v2_ = true := oB; rw [aAN] at h_; simpa using h_
  obtain ⟨cs, hSc, hVc, q9, aI5⟩ := hC hz
  have hgu := (uU hz).ch
  have hxc := hgu.1.perm q9
  have aIK := hgu.2.2.perm q9
  have hlc : cs.length = l.length := by rw [← q9.length_eq, List.length_map]
  have aJi : lU m cs = tX m l := by rw [aBF, UU q9 hgu.2.1 hs tN hgu.1]
  replace H := (H.add hVc).add hSc
  refine WE.skip ?_
  refine WE.bH (.take 0 (.take 1 (.take 2 (.take 3 (.take 4 (.take 5 (.take 6 (.take 7 (.take 8 (.aG 9 (.take 10 (.take 11 (.take 12 (.take 13 (.take 14 .done))))))))))))))) mixed (by kernel_rfl) ?_
  replace H := H.out (Out.drew _)
  refine WP.mv rfl rfl rfl (WP.aC rfl rfl (PV.nilCheck rfl rfl) (WP.aC rfl rfl (PV.fieldAddr rfl yF rfl) (WP.aM rfl rfl (RV.aV rfl vX rfl) (aN.aF (H.o 1 rfl) aK.hd rfl) (WP.mv rfl rfl rfl (WP.aC rfl rfl (PV.nilCheck rfl rfl) (WP.aC rfl rfl (PV.fieldAddr rfl pC rfl) (WP.aM rfl rfl (RV.aV rfl iL rfl) (aN.aF (H.o 1 rfl) (aK.tl aK.hd rfl) rfl) ?_)))))))
  refine WP.mv rfl rfl rfl (WP.aG rfl ?_)
  refine WL.call aFZ rfl (BX (T := T) (m := m) (l := cs) (s := v1_) (bits := bits) H.aR (H.o 0 rfl) (by exact (H.aO 0 rfl 3 rfl : aJ _ (fQ bh bc bits) _)) (by exact (H.aO 0 rfl 4 rfl : aJ _ (cW bits T) _)) (by exact (H.aO 0 rfl 0 rfl : aJ _ (gJ v1_ cs) _)) (by exact (H.aO 0 rfl 1 rfl : aJ _ (gI cs) _)) (by exact (H.aO 0 rfl 7 rfl : aJ _ (aZ) _)) bS hT hs tN hxc aIK aI5.chk (by omega)) ?_
  rintro _ w2 ⟨DF, aIy, rfl, FJ, hO, hB, hR⟩
  replace H := H.dH 0 rfl hO hB hR
  refine WL.nil ⟨(fa (nw 9 7) (fa (nw 9 3) c5)), ?_⟩
  refine WP.mv rfl rfl rfl (WP.aC rfl rfl (PV.extract rfl rfl rfl) (WP.aC rfl rfl (PV.extract rfl rfl rfl) (WP.as rfl rfl rfl (WP.as rfl rfl rfl (WP.done (WE.seq (WE.aA ?_)))))))
  refine WL.mv rfl rfl (WL.pv (PV.lF rfl (by kernel_rfl)) rfl (WL.pv (PV.lF rfl (by kernel_rfl)) rfl ?_))
  refine WL.call aJK rfl (aHY H.aR) ?_
  rintro _ w3 ⟨rfl, hO⟩
  replace H := H.out hO
  refine WL.nil ?_
  refine WE.cS rfl rfl ?_
  refine WE.dY (WL.mv rfl rfl (WL.mv rfl rfl (WL.pv (PV.nilCheck rfl rfl) rfl (WL.pv (PV.fieldAddr rfl pC rfl) rfl ?_))))
  refine WL.lH H 1 rfl rfl rfl (new := [DF.ptr]) rfl (by exact l5) (bA _ rfl) (Laid.at (Laid.tail Laid.head rfl) rfl) rfl ?_
  intro w4 H
  refine WL.nil (WE.aA (WL.mv rfl rfl ?_))
  refine WL.call aCM rfl (JF (op := [97, 112, 112, 108, 121]) (ix := 0) (code := 0) H.aR  ) ?_
  rintro v42 w5 ⟨hO, hR⟩
  replace H := (H.out hO).add hR
  refine WL.as rfl rfl (WL.nil (WE.ret ⟨[_], _, .nil _, ⟨rfl, trivial⟩, ?_⟩))
  exact ⟨DF, _, by rw [FJ, if_pos hz, aJi], H.lG, H.o 0 rfl, H.o 1 rfl, H.gE (by exact (H.bK 1 rfl : aJ _ (cW bits DF) _)), (H.gE (H.bK 0 rfl)).imp fun _ h => by rw [OJ hz, hz]; exact h⟩
theorem St.aC9 {X : Nat → Prop} {w0 w : World} {b1 b2 : Nat} {t1 t2 : TypeId} {l1 l2 DN E0 : List Value} {L : List aP} {Ps : List (World → Prop)} {p : World → Prop} (H : St X w0 w [aP.blk b1 t1 DN, aP.blk b2 t2 E0] L Ps) (hp : aJ (fun c => YY X [aP.blk b1 t1 l1, aP.blk b2 t2 l2] L c ∨ c = b1 ∨ c = b2) p w) : St X w0 w [aP.blk b1 t1 DN, aP.blk b2 t2 E0] L (p :: Ps) :=
 H.add (hp.mono fun c _ hc => by
  rcases hc with hc | ⟨e, he, hb⟩ | hc
  ·
   exact .inl (.inl hc)
  ·
   rcases List.mem_cons.1 he with rfl | he
   ·
    exact .inr (.inl hb)
   ·
    rw [List.mem_singleton.1 he] at hb; exact .inr (.inr hb)
  ·
   exact .inl (.inr (.inr hc)))
theorem eL.rm {m : List En} {k : List UInt8} {w : World} (h : eL m w) : eL (fG m k) w := fun e he => h e (jG.1 he).1
theorem eL.aEq {m : List En} {k v : List UInt8} {s : Value} {w : World} (h : eL m w) (hs : bJ s v w) : eL (fS m ⟨k, s, v⟩) w := fun e he => by
 rcases mB.1 he with rfl | he
 ·
  exact hs
 ·
  exact h e he.1
theorem eL.dD : ∀ (l : List Up) {m : List En} {w : World}, eL m w → dU l w → eL (tX m l) w
 | [], _, _, h, _ => h
 | u :: l, m, w, h, hu => eL.dD l (m := UT m u) (by
  unfold UT
  split
  ·
   exact h.rm
  ·
   exact h.aEq (hu u (by simp)).2) fun x hx => hu x (List.mem_cons_of_mem _ hx)
def AU (m : List En) (k : List UInt8) : Bool := decide (k.length = 32) && kI m k
def zD (m : List En) (k : List UInt8) : List UInt8 := if k.length = 32 then gV m k else []
theorem aHk {m : List En} {o : rI} (h : o.n = 0) : pQ m o = if cD o.k o.v = 0 then fS m ⟨o.k, o.sv, o.v⟩ else m := by unfold pQ; rw [if_pos h]
theorem aCV {m : List En} {o : rI} (h : o.n = 1) : pQ m o = m := by unfold pQ; rw [if_neg (by omega), if_pos h]
theorem ZE {m : List En} {o : rI} (h : o.n = 2) : pQ m o = if cD o.k [] = 0 then fG m o.k else m := by unfold pQ; rw [if_neg (by omega), if_neg (by omega), if_pos h]
theorem aHj {m : List En} {o : rI} (h : o.n ≠ 0 ∧ o.n ≠ 1 ∧ o.n ≠ 2) : pQ m o = if (j6 o.b).2 = 0 then tX m o.b else m := by unfold pQ; rw [if_neg h.1, if_neg h.2.1, if_neg h.2.2]
theorem TZ {m : List En} {o : rI} (h : o.n = 2) (hh : AU m o.k = true) : pQ m o = fG m o.k := by
 unfold AU at hh
 simp at hh
 rw [ZE h, iK, if_pos hh.1, if_pos rfl]
theorem TY {m : List En} {o : rI} (h : o.n = 2) (hh : AU m o.k = false) : pQ m o = m := by
 unfold AU at hh
 rw [ZE h, iK]
 by_cases hk : o.k.length = 32
 ·
  rw [if_pos hk, if_pos rfl]
  rw [decide_eq_true hk, Bool.true_and] at hh
  exact B5 hh
 ·
  rw [if_neg hk, if_neg (by decide)]
theorem aH3 {X : Nat → Prop} {w : World} {bt bh bc : Nat} {bits c0 : Int} {T : Tr} {m : List En} {s2 : Value} {o : rI} {nn : Nat} (hX : cY X w) (eY : aN w bc 213 ([.int .i64 c0])) (zF : aN w bt 90 ([.pointer (some ⟨bh, 0, none⟩), T.ptr])) (bU : aJ (fun c_ => X c_ ∨ c_ = bc ∨ c_ = bt) (fQ bh bc bits) w) (dI : aJ (fun c_ => X c_ ∨ c_ = bc ∨ c_ = bt) (cW bits T) w) (fU : aJ (fun c_ => X c_ ∨ c_ = bc ∨ c_ = bt) (fP s2 m) w) (jY : aJ (fun c_ => X c_ ∨ c_ = bc ∨ c_ = bt) (eL m) w) (o9 : aJ (fun c_ => X c_ ∨ c_ = bc ∨ c_ = bt) (OV o) w) (tP : aJ (fun c_ => X c_ ∨ c_ = bc ∨ c_ = bt) (aZ) w) (DP : aJ (fun c_ => X c_ ∨ c_ = bc ∨ c_ = bt) (fD) w) (hne : bc ≠ bt) (bS : 0 ≤ bits ∧ bits ≤ 256) (hT : T.er = grow 0 m) (qB : fC nn m) (hnn : nn ≤ 500) (hko : o.k.length ≤ 100) (hvo : o.v.length ≤ 70000) (JC : DJ o.b) (hn : o.n = 0) :
  bC prog 17 [.pointer (some ⟨bt, 0, none⟩), s2, .agg (AR o).toArray].toArray w fun v w' => ∃ (T' : Tr) (c' : Int) (s3 : Value), v = .tuple [s3, .bool false].toArray ∧ T'.er = grow 0 (pQ m o) ∧ Out (fun c => c = bc ∨ c = bt) w w' ∧ aN w' bc 213 [.int .i64 c'] ∧ aN w' bt 90 [.pointer (some ⟨bh, 0, none⟩), T'.ptr] ∧ aJ (fun c => X c ∨ c = bc ∨ c = bt) (cW bits T') w' ∧ aJ (fun c => X c ∨ c = bc ∨ c = bt) (fP s3 (pQ m o)) w' ∧ aJ (fun c => X c ∨ c = bc ∨ c = bt) (eL (pQ m o)) w' := by
 refine bC.aH (N := 132) func17 rfl rfl (by simp) ?_
 have H := St.r5 (b1 := bc) (b2 := bt) (t1 := 213) (t2 := 90) (l1 := [.int .i64 c0]) (l2 := [.pointer (some ⟨bh, 0, none⟩), T.ptr]) hX eY zF hne
 replace H := H.add (iA DP)
 replace H := H.add (iA tP)
 replace H := H.add (iA o9)
 replace H := H.add (iA jY)
 replace H := H.add (iA fU)
 replace H := H.add (iA dI)
 replace H := H.add (iA bU)
 have E8 := pS.of (jY.here)
 have hs := qB.s
 have tN := qB.k
 have zS := qB.l
 have uM : (List.replicate 32 (0 : UInt8)).length = 32 := List.length_replicate
 refine WE.aA ?_
 refine WL.box (l := AR o) H rfl rfl rfl ?_
 intro b5 w1 H
 refine WL.as rfl rfl (WL.as rfl rfl (WL.nil (WE.seq (WE.aA (WL.pv (PV.fieldAddr rfl uS rfl) rfl (WL.aY rfl pR rfl rfl (aN.aF (H.l 0 rfl) aK.hd rfl) (WL.nil ?_)))))))
 refine WE.block (WE.aA (WL.pv (PV.eql rfl rfl rfl) rfl (WL.as rfl rfl (WL.nil ?_))))
 refine WE.cS rfl (by simp [hn]) ?_
 refine WE.aA (WL.pv (PV.fieldAddr rfl mE rfl) rfl (WL.aY rfl eU rfl rfl (aN.aF (H.l 0 rfl) (aK.tl aK.hd rfl) rfl) (WL.pv (PV.fieldAddr rfl C4 rfl) rfl (WL.aY rfl eU rfl rfl (aN.aF (H.l 0 rfl) (aK.tl (aK.tl aK.hd rfl) rfl) rfl) ?_))))
 refine WL.call Y9 rfl (oZ (lb := o.k) (vv := o.v) H.aR (by exact (H.bK 4 rfl : aJ _ (OV o) _).imp fun _ h => h.1) (by exact (H.bK 4 rfl : aJ _ (OV o) _).imp fun _ h => h.2.1)) ?_
 rintro _ w2 ⟨rfl, hO⟩
 replace H := H.out hO
 refine WL.as rfl rfl (WL.nil (WE.seq (WE.aA (WL.mv rfl rfl (WL.pv (PV.fieldAddr rfl mE rfl) rfl (WL.aY rfl eU rfl rfl (aN.aF (H.l 0 rfl) (aK.tl aK.hd rfl) rfl) (WL.pv (PV.fieldAddr rfl C4 rfl) rfl ?_)))))))
 refine WL.aY rfl eU rfl rfl (aN.aF (H.l 0 rfl) (aK.tl (aK.tl aK.hd rfl) rfl) rfl) ?_
 refine WL.call aGu rfl (U4 (bt := bt) (bh := bh) (bc := bc) (bits := bits) (T := T) (m := m) (s := o.sk) (sv := o.sv) (lb := o.k) (vv := o.v) H.aR (H.o 0 rfl) (H.o 1 rfl) (by exact (H.mU 0 rfl : aJ _ (fQ bh bc bits) _)) (by exact (H.mU 1 rfl : aJ _ (cW bits T) _)) (by exact (H.mU 4 rfl : aJ _ (OV o) _).imp fun _ h => h.1) (by exact (H.mU 4 rfl : aJ _ (OV o) _).imp fun _ h => h.2.1) (by exact (H.mU 5 rfl : aJ _ (aZ) _)) hne bS hT hs tN (by omega) (by omega) (by omega)) ?_
 rintro aBh w3 ⟨ZX, aLh, aAX, hO, zU, tT, hR, aFF⟩
 have H_ := H.uV hO zU tT hR
 replace H := St.aC9 H_ aFF
 refine WL.mv rfl rfl ?_
 refine WL.call Y8 rfl (wA (op := [112, 117, 116]) (ix := 0) (code := cD o.k o.v) (ev := aBh) H.aR (by exact (H.bK 8 rfl : aJ _ (fD) _)) (by exact (H.bK 0 rfl : aJ _ (fI [112, 117, 116] 0 (cD o.k o.v) aBh) _))) ?_
 rintro _ w4 ⟨rfl, hO⟩
 replace H := H.out hO
 refine WL.nil ?_
 refine WE.bD rfl rfl ?_
 refine WE.skip (WE.seq (WE.aA (WL.mv rfl rfl (WL.pv (PV.neq rfl rfl rfl) rfl (WL.nil ?_)))))
 refine WE.cond rfl (fun yA => ?_) (fun yA => ?_)
 ·
  try simp only [bW] at yA
  have hz : ¬ cD o.k o.v = 0 := by exact yA
  have CQ : pQ m o = m := by rw [aHk hn, if_neg hz]
  refine WE.aA (WL.mv rfl rfl (WL.as rfl rfl (WL.as rfl rfl (WL.nil (WE.ret ⟨[_, _], _, .nil _, ⟨rfl, rfl, trivial⟩, ?_⟩)))))
  refine ⟨ZX, _, s2, ?_, ?_, H.lG, H.o 0 rfl, H.o 1 rfl, H.gE (by exact (H.bK 1 rfl : aJ _ (cW bits ZX) _)), ?_, ?_⟩
  ·
   rfl
  ·
   rw [aAX, if_neg hz, CQ]
  ·
   rw [CQ]; exact H.gE (by exact (H.bK 4 rfl : aJ _ (fP s2 m) _))
  ·
   rw [CQ]; exact H.gE (by exact (H.bK 5 rfl : aJ _ (eL m) _))
 ·
  try simp only [bW] at yA
  have hz : cD o.k o.v = 0 := by exact yA
  have CQ : pQ m o = fS m ⟨o.k, o.sv, o.v⟩ := by rw [aHk hn, if_pos hz]
  have aAS := (dL.1 hz).1
  have aKq := (dL.1 hz).2
  refine WE.skip ?_
  refine WE.bH (.take 0 (.take 1 (.take 2 (.take 4 (.take 5 (.aG 3 (.aG 6 (.take 7 (.take 8 .done))))))))) mixed (by kernel_rfl) ?_
  replace H := H.out (Out.drew _)
  refine WP.mv rfl rfl rfl (WP.aC rfl rfl (PV.fieldAddr rfl mE rfl) (WP.aM rfl rfl (RV.aV rfl eU rfl) (aN.aF (H.l 0 rfl) (aK.tl aK.hd rfl) rfl) (WP.aC rfl rfl (PV.fieldAddr rfl C4 rfl) (WP.aM rfl rfl (RV.aV rfl eU rfl) (aN.aF (H.l 0 rfl) (aK.tl (aK.tl aK.hd rfl) rfl) rfl) (WP.aG rfl ?_)))))
  refine WL.call TH rfl (sL (lb := o.k) H.aR (by exact (H.bK 6 rfl : aJ _ (OV o) _).imp fun _ h => h.1) aAS) ?_
  rintro _ w5 ⟨rfl, hO⟩
  replace H := H.out hO
  refine WL.nil ⟨(fa (rk hO) (fa (nw 3 2) c5)), ?_⟩
  refine WP.aG rfl ?_
  refine WL.call aF1 rfl (aBu (s := s2) (m := m) (q := o.k) (vv := o.v) H.aR (by exact (H.bK 4 rfl : aJ _ (fP s2 m) _)) (by exact (H.bK 6 rfl : aJ _ (OV o) _).imp fun _ h => h.2.1) tN E8 (by omega) aAS) ?_
  rintro v46 w6 ⟨hO, hR⟩
  replace H := (H.out hO).add (show aJ _ (fP v46 (fS m ⟨o.k, o.sv, o.v⟩)) _ from hR)
  refine WL.nil ⟨(fa (nw 6 5) (fa (nw 6 2) c5)), ?_⟩
  refine WP.as rfl rfl rfl (WP.as rfl rfl rfl (WP.done (WE.ret ⟨[_, _], _, .nil _, ⟨rfl, rfl, trivial⟩, ?_⟩)))
  refine ⟨ZX, _, v46, ?_, ?_, H.lG, H.o 0 rfl, H.o 1 rfl, H.gE (by exact (H.bK 2 rfl : aJ _ (cW bits ZX) _)), ?_, ?_⟩
  ·
   rfl
  ·
   rw [aAX, if_pos hz, CQ]
  ·
   rw [CQ]; exact H.gE (by exact (H.bK 0 rfl : aJ _ (fP v46 (fS m ⟨o.k, o.sv, o.v⟩)) _))
  ·
   rw [CQ]; exact (H.gE (aJ.and (show aJ _ (eL m) _ from (by exact (H.bK 6 rfl : aJ _ (eL m) _))) (show aJ _ (OV o) _ from (by exact (H.bK 7 rfl : aJ _ (OV o) _))))).imp fun _ h => eL.aEq h.1 h.2.2.1
theorem aH2 {X : Nat → Prop} {w : World} {bt bh bc : Nat} {bits c0 : Int} {T : Tr} {m : List En} {s2 : Value} {o : rI} {nn : Nat} (hX : cY X w) (eY : aN w bc 213 ([.int .i64 c0])) (zF : aN w bt 90 ([.pointer (some ⟨bh, 0, none⟩), T.ptr])) (bU : aJ (fun c_ => X c_ ∨ c_ = bc ∨ c_ = bt) (fQ bh bc bits) w) (dI : aJ (fun c_ => X c_ ∨ c_ = bc ∨ c_ = bt) (cW bits T) w) (fU : aJ (fun c_ => X c_ ∨ c_ = bc ∨ c_ = bt) (fP s2 m) w) (jY : aJ (fun c_ => X c_ ∨ c_ = bc ∨ c_ = bt) (eL m) w) (o9 : aJ (fun c_ => X c_ ∨ c_ = bc ∨ c_ = bt) (OV o) w) (tP : aJ (fun c_ => X c_ ∨ c_ = bc ∨ c_ = bt) (aZ) w) (DP : aJ (fun c_ => X c_ ∨ c_ = bc ∨ c_ = bt) (fD) w) (hne : bc ≠ bt) (bS : 0 ≤ bits ∧ bits ≤ 256) (hT : T.er = grow 0 m) (qB : fC nn m) (hnn : nn ≤ 500) (hko : o.k.length ≤ 100) (hvo : o.v.length ≤ 70000) (JC : DJ o.b) (hn : o.n = 1) :
  bC prog 17 [.pointer (some ⟨bt, 0, none⟩), s2, .agg (AR o).toArray].toArray w fun v w' => ∃ (T' : Tr) (c' : Int) (s3 : Value), v = .tuple [s3, .bool false].toArray ∧ T'.er = grow 0 (pQ m o) ∧ Out (fun c => c = bc ∨ c = bt) w w' ∧ aN w' bc 213 [.int .i64 c'] ∧ aN w' bt 90 [.pointer (some ⟨bh, 0, none⟩), T'.ptr] ∧ aJ (fun c => X c ∨ c = bc ∨ c = bt) (cW bits T') w' ∧ aJ (fun c => X c ∨ c = bc ∨ c = bt) (fP s3 (pQ m o)) w' ∧ aJ (fun c => X c ∨ c = bc ∨ c = bt) (eL (pQ m o)) w' := by
 refine bC.aH (N := 132) func17 rfl rfl (by simp) ?_
 have H := St.r5 (b1 := bc) (b2 := bt) (t1 := 213) (t2 := 90) (l1 := [.int .i64 c0]) (l2 := [.pointer (some ⟨bh, 0, none⟩), T.ptr]) hX eY zF hne
 replace H := H.add (iA DP)
 replace H := H.add (iA tP)
 replace H := H.add (iA o9)
 replace H := H.add (iA jY)
 replace H := H.add (iA fU)
 replace H := H.add (iA dI)
 replace H := H.add (iA bU)
 have E8 := pS.of (jY.here)
 have hs := qB.s
 have tN := qB.k
 have zS := qB.l
 have uM : (List.replicate 32 (0 : UInt8)).length = 32 := List.length_replicate
 refine WE.aA ?_
 refine WL.box (l := AR o) H rfl rfl rfl ?_
 intro b5 w1 H
 refine WL.as rfl rfl (WL.as rfl rfl (WL.nil (WE.seq (WE.aA (WL.pv (PV.fieldAddr rfl uS rfl) rfl (WL.aY rfl pR rfl rfl (aN.aF (H.l 0 rfl) aK.hd rfl) (WL.nil ?_)))))))
 refine WE.block (WE.aA (WL.pv (PV.eql rfl rfl rfl) rfl (WL.as rfl rfl (WL.nil ?_))))
 refine WE.bD rfl (by simp [hn]) ?_
 refine WE.seq (WE.aA (WL.pv (PV.eql rfl rfl rfl) rfl (WL.as rfl rfl (WL.nil ?_))))
 refine WE.cS rfl (by simp [hn]) ?_
 refine WE.skip ?_
 refine WE.cS rfl (by simp [hn]) ?_
 refine WE.aA (WL.pv (PV.fieldAddr rfl mE rfl) rfl (WL.aY rfl eU rfl rfl (aN.aF (H.l 0 rfl) (aK.tl aK.hd rfl) rfl) ?_))
 refine WL.call Y9 rfl (oZ (lb := o.k) (vv := []) H.aR (by exact (H.bK 4 rfl : aJ _ (OV o) _).imp fun _ h => h.1) (fun w_ _ => bJ.nil w_)) ?_
 rintro _ w2 ⟨rfl, hO⟩
 replace H := H.out hO
 refine WL.as rfl rfl (WL.nil (WE.aA (WL.as rfl rfl (WL.nil (WE.aA (WL.as rfl rfl (WL.nil ?_)))))))
 refine WE.cut (α := Value) (rg [(10, 2), (53, 10)]) (fun oD => [(10, oD), (11, .bool (AU m o.k))]) (fun oD wl => St X w wl [aP.blk bc 213 [.int .i64 c0], aP.blk bt 90 [.pointer (some ⟨bh, 0, none⟩), T.ptr]] [aP.blk b5 56 (AR o)] [bJ oD (zD m o.k), fQ bh bc bits, cW bits T, fP s2 m, eL m, OV o, aZ, fD]) ?_ ?_
 ·
  refine WE.aA (WL.mv rfl rfl (WL.pv (PV.eql rfl rfl rfl) rfl (WL.nil ?_)))
  refine WE.cond rfl (fun x9 => ?_) (fun x9 => ?_)
  ·
   try simp only [bW] at x9
   have IY : cD o.k [] = 0 := by exact x9
   have pO := (dL.1 IY).1
   have hoh : kI m o.k = AU m o.k := by unfold AU; rw [decide_eq_true pO, Bool.true_and]
   have wE : gV m o.k = zD m o.k := by unfold zD; rw [if_pos pO]
   refine WE.dY (WL.mv rfl rfl (WL.pv (PV.fieldAddr rfl mE rfl) rfl (WL.aY rfl eU rfl rfl (aN.aF (H.l 0 rfl) (aK.tl aK.hd rfl) rfl) ?_)))
   refine WL.call TH rfl (sL (lb := o.k) H.aR (by exact (H.bK 4 rfl : aJ _ (OV o) _).imp fun _ h => h.1) pO) ?_
   rintro _ w3 ⟨rfl, hO⟩
   replace H := H.out hO
   refine WL.call aF3 rfl (AK (s := s2) (m := m) (k := o.k) H.aR (by exact (H.bK 2 rfl : aJ _ (fP s2 m) _)) tN (by omega) pO) ?_
   rintro _ w4 ⟨rfl, hO⟩
   replace H := H.out hO
   replace H := H.add (show aJ _ (bJ (gS m o.k) (gV m o.k)) _ from ((by exact (H.bK 3 rfl : aJ _ (eL m) _)) : aJ _ (eL m) _).imp fun _ h => TE h _)
   refine WL.mv rfl rfl (WL.pv (PV.extract rfl rfl rfl) rfl (WL.pv (PV.extract rfl rfl rfl) rfl (WL.as rfl rfl (WL.as rfl rfl (WL.nil ?_)))))
   exact ⟨(gS m o.k), (by repeat (first | with_reducible exact bM.refl _ _ | refine bM.dD rfl ?_)), ⟨rfl, (by (show Value.bool _ = _; rw [hoh])), trivial⟩, rfl, (show St X w _ _ _ [bJ (gS m o.k) (zD m o.k), _, _, _, _, _, _, _] by rw [← wE]; exact H)⟩
  ·
   try simp only [bW] at x9
   have IY : ¬ cD o.k [] = 0 := by exact x9
   have pO : ¬ o.k.length = 32 := fun h => IY (by rw [iK, if_pos h])
   have hoh : false = AU m o.k := by unfold AU; rw [decide_eq_false pO]; rfl
   have wE : zD m o.k = [] := by unfold zD; rw [if_neg pO]
   refine WE.skip ?_
   exact ⟨(.slice none 0 0), (by repeat (first | with_reducible exact bM.refl _ _ | refine bM.dD rfl ?_)), ⟨rfl, (by (show Value.bool _ = _; rw [hoh])), trivial⟩, rfl, H.add (show aJ _ (bJ (.slice none 0 0) (zD m o.k)) _ from fun w_ _ => by rw [wE]; exact bJ.nil w_)⟩
 ·
  intro oD γ w5 hI
  try dsimp only at hI
  replace H := hI
  refine WE.seq (WE.aA (WL.pv (PV.fieldAddr rfl uS rfl) rfl (WL.aY rfl pR rfl rfl (aN.aF (H.l 0 rfl) aK.hd rfl) (WL.pv (PV.eql rfl rfl rfl) rfl (WL.nil ?_)))))
  refine WE.cS rfl (by simp [hn]) ?_
  refine WE.aA (WL.mv rfl rfl (WL.pv (PV.fieldAddr rfl mE rfl) rfl (WL.aY rfl eU rfl rfl (aN.aF (H.l 0 rfl) (aK.tl aK.hd rfl) rfl) ?_)))
  refine WL.call aJ0 rfl (aDd (bt := bt) (bh := bh) (bits := bits) (T := T) (m := m) (s := o.sk) (lb := o.k) H.aR (H.o 1 rfl) (by exact (H.aO 1 rfl 2 rfl : aJ _ (cW bits T) _)) (by exact (H.aO 1 rfl 5 rfl : aJ _ (OV o) _).imp fun _ h => h.1) hT hs tN (by omega) (by omega)) ?_
  rintro _ w6 ⟨aD4, aCT, rfl, hO, NX, G8⟩
  replace H := H.out hO
  replace H := (H.add (show aJ _ (bJ aD4 (zD m o.k)) _ from (NX.mono fun _ _ h_ => .inl h_))).add (show aJ _ (fI [103, 101, 116] 0 (cD o.k []) aCT) _ from (G8.mono fun _ _ h_ => .inl h_))
  refine WL.mv rfl rfl (WL.pv (PV.extract rfl rfl rfl) rfl (WL.pv (PV.extract rfl rfl rfl) rfl (WL.pv (PV.extract rfl rfl rfl) rfl (WL.as rfl rfl (WL.as rfl rfl (WL.as rfl rfl (WL.nil ?_)))))))
  refine WE.aA (WL.mv rfl rfl (WL.mv rfl rfl (WL.mv rfl rfl ?_)))
  refine WL.call Y8 rfl (wA (op := [103, 101, 116]) (ix := 0) (code := (cD o.k [])) (ev := aCT) H.aR (by exact (H.bK 9 rfl : aJ _ (fD) _)) (by exact (H.bK 0 rfl : aJ _ (fI [103, 101, 116] 0 ((cD o.k [])) aCT) _))) ?_
  rintro _ w7 ⟨rfl, hO⟩
  replace H := H.out hO
  refine WL.mv rfl rfl (WL.known (t := 78) (c := false) rfl rfl (WL.mv rfl rfl (WL.mv rfl rfl (WL.pv (PV.aEC rfl bo4 rfl rfl) rfl (WL.pv (PV.dF rfl rfl rfl) rfl (WL.mv rfl rfl ?_))))))
  refine WL.known (t := 83) (c := false) rfl (by simp [AU]) ?_
  refine WL.mv rfl rfl (WL.mv rfl rfl ?_)
  refine WL.call aF0 rfl (VC (la := zD m o.k) (lb := zD m o.k) H.aR (by exact (H.bK 1 rfl : aJ _ (bJ aD4 (zD m o.k)) _)) (by exact (H.bK 2 rfl : aJ _ (bJ oD (zD m o.k)) _)) (by have := aCG qB.short o.k; unfold zD; split; omega; simp)) ?_
  rintro _ w8 ⟨rfl, hO⟩
  replace H := H.out hO
  refine WL.pv (PV.not rfl rfl) rfl (WL.pv (PV.dF rfl rfl rfl) rfl (WL.as rfl rfl (WL.as rfl rfl (WL.nil (WE.ret ⟨[_, _], _, .nil _, ⟨rfl, rfl, trivial⟩, ?_⟩)))))
  refine ⟨T, _, s2, ?_, ?_, H.lG, H.o 0 rfl, H.o 1 rfl, H.gE (by exact (H.bK 4 rfl : aJ _ (cW bits T) _)), ?_, ?_⟩
  ·
   show Value.tuple [s2, .bool (!decide (zD m o.k = zD m o.k))].toArray = _; simp
  ·
   rw [hT, aCV hn]
  ·
   rw [aCV hn]; exact H.gE (by exact (H.bK 5 rfl : aJ _ (fP s2 m) _))
  ·
   rw [aCV hn]; exact H.gE (by exact (H.bK 6 rfl : aJ _ (eL m) _))
theorem aH1 {X : Nat → Prop} {w : World} {bt bh bc : Nat} {bits c0 : Int} {T : Tr} {m : List En} {s2 : Value} {o : rI} {nn : Nat} (hX : cY X w) (eY : aN w bc 213 ([.int .i64 c0])) (zF : aN w bt 90 ([.pointer (some ⟨bh, 0, none⟩), T.ptr])) (bU : aJ (fun c_ => X c_ ∨ c_ = bc ∨ c_ = bt) (fQ bh bc bits) w) (dI : aJ (fun c_ => X c_ ∨ c_ = bc ∨ c_ = bt) (cW bits T) w) (fU : aJ (fun c_ => X c_ ∨ c_ = bc ∨ c_ = bt) (fP s2 m) w) (jY : aJ (fun c_ => X c_ ∨ c_ = bc ∨ c_ = bt) (eL m) w) (o9 : aJ (fun c_ => X c_ ∨ c_ = bc ∨ c_ = bt) (OV o) w) (tP : aJ (fun c_ => X c_ ∨ c_ = bc ∨ c_ = bt) (aZ) w) (DP : aJ (fun c_ => X c_ ∨ c_ = bc ∨ c_ = bt) (fD) w) (hne : bc ≠ bt) (bS : 0 ≤ bits ∧ bits ≤ 256) (hT : T.er = grow 0 m) (qB : fC nn m) (hnn : nn ≤ 500) (hko : o.k.length ≤ 100) (hvo : o.v.length ≤ 70000) (JC : DJ o.b) (hn : o.n = 2) :
  bC prog 17 [.pointer (some ⟨bt, 0, none⟩), s2, .agg (AR o).toArray].toArray w fun v w' => ∃ (T' : Tr) (c' : Int) (s3 : Value), v = .tuple [s3, .bool false].toArray ∧ T'.er = grow 0 (pQ m o) ∧ Out (fun c => c = bc ∨ c = bt) w w' ∧ aN w' bc 213 [.int .i64 c'] ∧ aN w' bt 90 [.pointer (some ⟨bh, 0, none⟩), T'.ptr] ∧ aJ (fun c => X c ∨ c = bc ∨ c = bt) (cW bits T') w' ∧ aJ (fun c => X c ∨ c = bc ∨ c = bt) (fP s3 (pQ m o)) w' ∧ aJ (fun c => X c ∨ c = bc ∨ c = bt) (eL (pQ m o)) w' := by
 refine bC.aH (N := 132) func17 rfl rfl (by simp) ?_
 have H := St.r5 (b1 := bc) (b2 := bt) (t1 := 213) (t2 := 90) (l1 := [.int .i64 c0]) (l2 := [.pointer (some ⟨bh, 0, none⟩), T.ptr]) hX eY zF hne
 replace H := H.add (iA DP)
 replace H := H.add (iA tP)
 replace H := H.add (iA o9)
 replace H := H.add (iA jY)
 replace H := H.add (iA fU)
 replace H := H.add (iA dI)
 replace H := H.add (iA bU)
 have E8 := pS.of (jY.here)
 have hs := qB.s
 have tN := qB.k
 have zS := qB.l
 have uM : (List.replicate 32 (0 : UInt8)).length = 32 := List.length_replicate
 refine WE.aA ?_
 refine WL.box (l := AR o) H rfl rfl rfl ?_
 intro b5 w1 H
 refine WL.as rfl rfl (WL.as rfl rfl (WL.nil (WE.seq (WE.aA (WL.pv (PV.fieldAddr rfl uS rfl) rfl (WL.aY rfl pR rfl rfl (aN.aF (H.l 0 rfl) aK.hd rfl) (WL.nil ?_)))))))
 refine WE.block (WE.aA (WL.pv (PV.eql rfl rfl rfl) rfl (WL.as rfl rfl (WL.nil ?_))))
 refine WE.bD rfl (by simp [hn]) ?_
 refine WE.seq (WE.aA (WL.pv (PV.eql rfl rfl rfl) rfl (WL.as rfl rfl (WL.nil ?_))))
 refine WE.bD rfl (by simp [hn]) ?_
 refine WE.dY (WL.pv (PV.eql rfl rfl rfl) rfl (WL.as rfl rfl (WL.nil ?_)))
 refine WE.cS rfl (by simp [hn]) ?_
 refine WE.aA (WL.pv (PV.fieldAddr rfl mE rfl) rfl (WL.aY rfl eU rfl rfl (aN.aF (H.l 0 rfl) (aK.tl aK.hd rfl) rfl) ?_))
 refine WL.call Y9 rfl (oZ (lb := o.k) (vv := []) H.aR (by exact (H.bK 4 rfl : aJ _ (OV o) _).imp fun _ h => h.1) (fun w_ _ => bJ.nil w_)) ?_
 rintro _ w2 ⟨rfl, hO⟩
 replace H := H.out hO
 refine WL.as rfl rfl (WL.nil (WE.aA (WL.as rfl rfl (WL.nil (WE.aA (WL.as rfl rfl (WL.nil ?_)))))))
 refine WE.cut (α := Value) (rg [(10, 2), (53, 10)]) (fun oD => [(10, oD), (11, .bool (AU m o.k))]) (fun oD wl => St X w wl [aP.blk bc 213 [.int .i64 c0], aP.blk bt 90 [.pointer (some ⟨bh, 0, none⟩), T.ptr]] [aP.blk b5 56 (AR o)] [bJ oD (zD m o.k), fQ bh bc bits, cW bits T, fP s2 m, eL m, OV o, aZ, fD]) ?_ ?_
 ·
  refine WE.aA (WL.mv rfl rfl (WL.pv (PV.eql rfl rfl rfl) rfl (WL.nil ?_)))
  refine WE.cond rfl (fun x9 => ?_) (fun x9 => ?_)
  ·
   try simp only [bW] at x9
   have IY : cD o.k [] = 0 := by exact x9
   have pO := (dL.1 IY).1
   have hoh : kI m o.k = AU m o.k := by unfold AU; rw [decide_eq_true pO, Bool.true_and]
   have wE : gV m o.k = zD m o.k := by unfold zD; rw [if_pos pO]
   refine WE.dY (WL.mv rfl rfl (WL.pv (PV.fieldAddr rfl mE rfl) rfl (WL.aY rfl eU rfl rfl (aN.aF (H.l 0 rfl) (aK.tl aK.hd rfl) rfl) ?_)))
   refine WL.call TH rfl (sL (lb := o.k) H.aR (by exact (H.bK 4 rfl : aJ _ (OV o) _).imp fun _ h => h.1) pO) ?_
   rintro _ w3 ⟨rfl, hO⟩
   replace H := H.out hO
   refine WL.call aF3 rfl (AK (s := s2) (m := m) (k := o.k) H.aR (by exact (H.bK 2 rfl : aJ _ (fP s2 m) _)) tN (by omega) pO) ?_
   rintro _ w4 ⟨rfl, hO⟩
   replace H := H.out hO
   replace H := H.add (show aJ _ (bJ (gS m o.k) (gV m o.k)) _ from ((by exact (H.bK 3 rfl : aJ _ (eL m) _)) : aJ _ (eL m) _).imp fun _ h => TE h _)
   refine WL.mv rfl rfl (WL.pv (PV.extract rfl rfl rfl) rfl (WL.pv (PV.extract rfl rfl rfl) rfl (WL.as rfl rfl (WL.as rfl rfl (WL.nil ?_)))))
   exact ⟨(gS m o.k), (by repeat (first | with_reducible exact bM.refl _ _ | refine bM.dD rfl ?_)), ⟨rfl, (by (show Value.bool _ = _; rw [hoh])), trivial⟩, rfl, (show St X w _ _ _ [bJ (gS m o.k) (zD m o.k), _, _, _, _, _, _, _] by rw [← wE]; exact H)⟩
  ·
   try simp only [bW] at x9
   have IY : ¬ cD o.k [] = 0 := by exact x9
   have pO : ¬ o.k.length = 32 := fun h => IY (by rw [iK, if_pos h])
   have hoh : false = AU m o.k := by unfold AU; rw [decide_eq_false pO]; rfl
   have wE : zD m o.k = [] := by unfold zD; rw [if_neg pO]
   refine WE.skip ?_
   exact ⟨(.slice none 0 0), (by repeat (first | with_reducible exact bM.refl _ _ | refine bM.dD rfl ?_)), ⟨rfl, (by (show Value.bool _ = _; rw [hoh])), trivial⟩, rfl, H.add (show aJ _ (bJ (.slice none 0 0) (zD m o.k)) _ from fun w_ _ => by rw [wE]; exact bJ.nil w_)⟩
 ·
  intro oD γ w5 hI
  try dsimp only at hI
  replace H := hI
  refine WE.seq (WE.aA (WL.pv (PV.fieldAddr rfl uS rfl) rfl (WL.aY rfl pR rfl rfl (aN.aF (H.l 0 rfl) aK.hd rfl) (WL.pv (PV.eql rfl rfl rfl) rfl (WL.nil ?_)))))
  refine WE.bD rfl (by simp [hn]) ?_
  refine WE.skip (WE.aA (WL.mv rfl rfl (WL.pv (PV.fieldAddr rfl mE rfl) rfl (WL.aY rfl eU rfl rfl (aN.aF (H.l 0 rfl) (aK.tl aK.hd rfl) rfl) ?_))))
  refine WL.call aJZ rfl (aDe (bt := bt) (bh := bh) (bc := bc) (bits := bits) (T := T) (m := m) (s := o.sk) (lb := o.k) H.aR (H.o 0 rfl) (H.o 1 rfl) (by exact (H.mU 1 rfl : aJ _ (fQ bh bc bits) _)) (by exact (H.mU 2 rfl : aJ _ (cW bits T) _)) (by exact (H.mU 5 rfl : aJ _ (OV o) _).imp fun _ h => h.1) (by exact (H.mU 6 rfl : aJ _ (aZ) _)) hne bS hT hs tN (by omega) (by omega)) ?_
  rintro _ w6 ⟨ZW, aJ4, TV, rfl, aFj, hO, zU, tT, hR, aFE⟩
  have H_ := H.uV hO zU tT hR
  replace H := St.aC9 H_ aFE
  refine WL.mv rfl rfl (WL.pv (PV.extract rfl rfl rfl) rfl (WL.pv (PV.extract rfl rfl rfl) rfl (WL.as rfl rfl (WL.as rfl rfl (WL.nil ?_)))))
  refine WE.cut (α := Value) (rg [(1, 1), (96, 6)]) (fun g2_ => [(1, g2_)]) (fun g2_ wl => St X w wl [aP.blk bc 213 [.int .i64 aJ4], aP.blk bt 90 [.pointer (some ⟨bh, 0, none⟩), ZW.ptr]] [aP.blk b5 56 (AR o)] [fP g2_ (pQ m o), fI [100, 101, 108, 101, 116, 101] 0 (cD o.k []) TV, cW bits ZW, eL m, fD]) ?_ ?_
  ·
   refine WE.aA (WL.mv rfl rfl (WL.nil ?_))
   refine WE.cond rfl (fun SP => ?_) (fun SP => ?_)
   ·
    try simp only [bW] at SP
    have hh : AU m o.k = true := by exact SP
    have CQ := TZ hn hh
    have pO : o.k.length = 32 := by unfold AU at hh; simp at hh; exact hh.1
    refine WE.dY (WL.mv rfl rfl (WL.pv (PV.fieldAddr rfl mE rfl) rfl (WL.aY rfl eU rfl rfl (aN.aF (H.l 0 rfl) (aK.tl aK.hd rfl) rfl) ?_)))
    refine WL.call TH rfl (sL (lb := o.k) H.aR (by exact (H.bK 7 rfl : aJ _ (OV o) _).imp fun _ h => h.1) pO) ?_
    rintro _ w7 ⟨rfl, hO⟩
    replace H := H.out hO
    refine WL.call aCO rfl (y6 (m := m) (q := o.k) H.aR (by exact (H.bK 5 rfl : aJ _ (fP s2 m) _)) tN E8 (by omega) pO) ?_
    rintro aBC w8 ⟨hO, hR⟩
    replace H := (H.out hO).add (show aJ _ (fP aBC (fG m o.k)) _ from hR)
    refine WL.as rfl rfl (WL.nil ?_)
    exact ⟨aBC, (by repeat (first | with_reducible exact bM.refl _ _ | refine bM.dD rfl ?_)), ⟨rfl, trivial⟩, rfl, (show St X w _ _ _ [fP aBC (pQ m o), _, _, _, _] by rw [CQ]; exact H.uB [0, 1, 2, 7, 10])⟩
   ·
    try simp only [bW] at SP
    have hh : AU m o.k = false := by exact SP
    have CQ := TY hn hh
    refine WE.skip ?_
    exact ⟨s2, (by repeat (first | with_reducible exact bM.refl _ _ | refine bM.dD rfl ?_)), ⟨rfl, trivial⟩, rfl, (show St X w _ _ _ [fP s2 (pQ m o), _, _, _, _] by rw [CQ]; exact H.uB [5, 0, 1, 6, 9])⟩
  ·
   intro g2_ γ w9 hI
   try dsimp only at hI
   replace H := hI
   refine WE.aA (WL.mv rfl rfl (WL.mv rfl rfl (WL.mv rfl rfl ?_)))
   refine WL.call Y8 rfl (wA (op := [100, 101, 108, 101, 116, 101]) (ix := 0) (code := (cD o.k [])) (ev := TV) H.aR (by exact (H.bK 4 rfl : aJ _ (fD) _)) (by exact (H.bK 1 rfl : aJ _ (fI [100, 101, 108, 101, 116, 101] 0 ((cD o.k [])) TV) _))) ?_
   rintro _ tM ⟨rfl, hO⟩
   replace H := H.out hO
   refine WL.mv rfl rfl (WL.known (t := 106) (c := false) rfl rfl (WL.mv rfl rfl (WL.mv rfl rfl (WL.pv (PV.aEC rfl bo4 rfl rfl) rfl (WL.pv (PV.dF rfl rfl rfl) rfl (WL.as rfl rfl (WL.as rfl rfl ?_)))))))
   refine WL.nil (WE.ret ⟨[_, _], _, .nil _, ⟨rfl, rfl, trivial⟩, ?_⟩)
   refine ⟨ZW, _, g2_, ?_, ?_, H.lG, H.o 0 rfl, H.o 1 rfl, H.gE (by exact (H.bK 2 rfl : aJ _ (cW bits ZW) _)), ?_, ?_⟩
   ·
    show Value.tuple [g2_, .bool ((decide (o.k.length = 32) && kI m o.k) != AU m o.k)].toArray = _; simp [AU]
   ·
    rw [aFj, ZE hn]
   ·
    exact H.gE (by exact (H.bK 0 rfl : aJ _ (fP g2_ (pQ m o)) _))
   ·
    rw [ZE hn]; split; exact (H.gE (by exact (H.bK 3 rfl : aJ _ (eL m) _))).imp fun _ h => eL.rm (show eL m _ from h); exact H.gE (by exact (H.bK 3 rfl : aJ _ (eL m) _))
theorem aH0 {X : Nat → Prop} {w : World} {bt bh bc : Nat} {bits c0 : Int} {T : Tr} {m : List En} {s2 : Value} {o : rI} {nn : Nat} (hX : cY X w) (eY : aN w bc 213 ([.int .i64 c0])) (zF : aN w bt 90 ([.pointer (some ⟨bh, 0, none⟩), T.ptr])) (bU : aJ (fun c_ => X c_ ∨ c_ = bc ∨ c_ = bt) (fQ bh bc bits) w) (dI : aJ (fun c_ => X c_ ∨ c_ = bc ∨ c_ = bt) (cW bits T) w) (fU : aJ (fun c_ => X c_ ∨ c_ = bc ∨ c_ = bt) (fP s2 m) w) (jY : aJ (fun c_ => X c_ ∨ c_ = bc ∨ c_ = bt) (eL m) w) (o9 : aJ (fun c_ => X c_ ∨ c_ = bc ∨ c_ = bt) (OV o) w) (tP : aJ (fun c_ => X c_ ∨ c_ = bc ∨ c_ = bt) (aZ) w) (DP : aJ (fun c_ => X c_ ∨ c_ = bc ∨ c_ = bt) (fD) w) (hne : bc ≠ bt) (bS : 0 ≤ bits ∧ bits ≤ 256) (hT : T.er = grow 0 m) (qB : fC nn m) (hnn : nn ≤ 500) (hko : o.k.length ≤ 100) (hvo : o.v.length ≤ 70000) (JC : DJ o.b) (hn : o.n ≠ 0 ∧ o.n ≠ 1 ∧ o.n ≠ 2) :
  bC prog 17 [.pointer (some ⟨bt, 0, none⟩), s2, .agg (AR o).toArray].toArray w fun v w' => ∃ (T' : Tr) (c' : Int) (s3 : Value), v = .tuple [s3, .bool false].toArray ∧ T'.er = grow 0 (pQ m o) ∧ Out (fun c => c = bc ∨ c = bt) w w' ∧ aN w' bc 213 [.int .i64 c'] ∧ aN w' bt 90 [.pointer (some ⟨bh, 0, none⟩), T'.ptr] ∧ aJ (fun c => X c ∨ c = bc ∨ c = bt) (cW bits T') w' ∧ aJ (fun c => X c ∨ c = bc ∨ c = bt) (fP s3 (pQ m o)) w' ∧ aJ (fun c => X c ∨ c = bc ∨ c = bt) (eL (pQ m o)) w' := by
 refine bC.aH (N := 132) func17 rfl rfl (by simp) ?_
 have H := St.r5 (b1 := bc) (b2 := bt) (t1 := 213) (t2 := 90) (l1 := [.int .i64 c0]) (l2 := [.pointer (some ⟨bh, 0, none⟩), T.ptr]) hX eY zF hne
 replace H := H.add (iA DP)
 replace H := H.add (iA tP)
 replace H := H.add (iA o9)
 replace H := H.add (iA jY)
 replace H := H.add (iA fU)
 replace H := H.add (iA dI)
 replace H := H.add (iA bU)
 have E8 := pS.of (jY.here)
 have hs := qB.s
 have tN := qB.k
 have zS := qB.l
 have uM : (List.replicate 32 (0 : UInt8)).length = 32 := List.length_replicate
 refine WE.aA ?_
 refine WL.box (l := AR o) H rfl rfl rfl ?_
 intro b5 w1 H
 refine WL.as rfl rfl (WL.as rfl rfl (WL.nil (WE.seq (WE.aA (WL.pv (PV.fieldAddr rfl uS rfl) rfl (WL.aY rfl pR rfl rfl (aN.aF (H.l 0 rfl) aK.hd rfl) (WL.nil ?_)))))))
 refine WE.block (WE.aA (WL.pv (PV.eql rfl rfl rfl) rfl (WL.as rfl rfl (WL.nil ?_))))
 refine WE.bD rfl (by simp [hn]) ?_
 refine WE.seq (WE.aA (WL.pv (PV.eql rfl rfl rfl) rfl (WL.as rfl rfl (WL.nil ?_))))
 refine WE.bD rfl (by simp [hn]) ?_
 refine WE.dY (WL.pv (PV.eql rfl rfl rfl) rfl (WL.as rfl rfl (WL.nil ?_)))
 refine WE.bD rfl (by simp [hn]) ?_
 refine WE.skip (WE.aA (WL.pv (PV.fieldAddr rfl C3 rfl) rfl (WL.aY rfl ZV rfl rfl (aN.aF (H.l 0 rfl) (aK.tl (aK.tl (aK.tl aK.hd rfl) rfl) rfl) rfl) ?_)))
 refine WL.call aJX rfl (ZJ (s := o.sb) (l := o.b) H.aR (by exact (H.bK 4 rfl : aJ _ (OV o) _).imp fun _ h => h.2.2.1) (by exact (H.bK 4 rfl : aJ _ (OV o) _).imp fun _ h => h.2.2.2) (by have := JC.1; omega) (fun u hu => ⟨Nat.le_trans (JC.2 u hu).1 (by decide), Nat.le_trans (JC.2 u hu).2 (by decide)⟩)) ?_
 rintro _ w2 ⟨rfl, hO⟩
 replace H := H.out hO
 refine WL.mv rfl rfl (WL.pv (PV.extract rfl rfl rfl) rfl (WL.pv (PV.extract rfl rfl rfl) rfl (WL.as rfl rfl (WL.as rfl rfl (WL.nil (WE.seq (WE.aA ?_)))))))
 refine WL.mv rfl rfl (WL.pv (PV.fieldAddr rfl C3 rfl) rfl (WL.aY rfl ZV rfl rfl (aN.aF (H.l 0 rfl) (aK.tl (aK.tl (aK.tl aK.hd rfl) rfl) rfl) rfl) ?_))
 refine WL.call aJY rfl (U6 (bt := bt) (bh := bh) (bc := bc) (bits := bits) (T := T) (m := m) (s := o.sb) (l := o.b) H.aR (H.o 0 rfl) (H.o 1 rfl) (by exact (H.mU 0 rfl : aJ _ (fQ bh bc bits) _)) (by exact (H.mU 1 rfl : aJ _ (cW bits T) _)) (by exact (H.mU 4 rfl : aJ _ (OV o) _).imp fun _ h => h.2.2.1) (by exact (H.mU 4 rfl : aJ _ (OV o) _).imp fun _ h => h.2.2.2) (by exact (H.mU 5 rfl : aJ _ (aZ) _)) hne bS hT hs tN (by omega) (by have := JC.1; omega) (fun u hu => ⟨Nat.le_trans (JC.2 u hu).1 (by decide), Nat.le_trans (JC.2 u hu).2 (by decide)⟩)) ?_
 rintro TW w3 ⟨MG, aKB, S8, hO, zU, tT, hR, aCF⟩
 have H_ := H.uV hO zU tT hR
 replace H := St.aC9 H_ aCF
 refine WL.mv rfl rfl (WL.mv rfl rfl ?_)
 refine WL.call Y8 rfl (wA (op := [97, 112, 112, 108, 121]) (ix := (((j6 o.b).1 : Nat) : Int)) (code := (j6 o.b).2) (ev := TW) H.aR (by exact (H.bK 8 rfl : aJ _ (fD) _)) (by exact (H.bK 0 rfl : aJ _ (fI [97, 112, 112, 108, 121] (((j6 o.b).1 : Nat) : Int) ((j6 o.b).2) TW) _))) ?_
 rintro _ w4 ⟨rfl, hO⟩
 replace H := H.out hO
 refine WL.nil ?_
 refine WE.bD rfl rfl ?_
 refine WE.skip (WE.seq (WE.aA (WL.mv rfl rfl (WL.pv (PV.neq rfl rfl rfl) rfl (WL.nil ?_)))))
 refine WE.cond rfl (fun FG => ?_) (fun FG => ?_)
 ·
  try simp only [bW] at FG
  have hz : ¬ (j6 o.b).2 = 0 := by exact FG
  have CQ : pQ m o = m := by rw [aHj hn, if_neg hz]
  refine WE.aA (WL.mv rfl rfl (WL.as rfl rfl (WL.as rfl rfl (WL.nil (WE.ret ⟨[_, _], _, .nil _, ⟨rfl, rfl, trivial⟩, ?_⟩)))))
  refine ⟨MG, _, s2, ?_, ?_, H.lG, H.o 0 rfl, H.o 1 rfl, H.gE (by exact (H.bK 1 rfl : aJ _ (cW bits MG) _)), ?_, ?_⟩
  ·
   rfl
  ·
   rw [S8, if_neg hz, CQ]
  ·
   rw [CQ]; exact H.gE (by exact (H.bK 4 rfl : aJ _ (fP s2 m) _))
  ·
   rw [CQ]; exact H.gE (by exact (H.bK 5 rfl : aJ _ (eL m) _))
 ·
  try simp only [bW] at FG
  have hz : (j6 o.b).2 = 0 := by exact FG
  have CQ : pQ m o = tX m o.b := by rw [aHj hn, if_pos hz]
  have hgu := uU hz
  refine WE.skip (WE.aA (WL.mv rfl rfl (WL.pv (PV.fieldAddr rfl C3 rfl) rfl (WL.aY rfl ZV rfl rfl (aN.aF (H.l 0 rfl) (aK.tl (aK.tl (aK.tl aK.hd rfl) rfl) rfl) rfl) ?_))))
  refine WL.call aJP rfl (ZS (s2 := s2) (s := o.sb) (m := m) (l := o.b) H.aR (by exact (H.bK 4 rfl : aJ _ (fP s2 m) _)) (by exact (H.bK 6 rfl : aJ _ (OV o) _).imp fun _ h => h.2.2.1) (by exact (H.bK 6 rfl : aJ _ (OV o) _).imp fun _ h => h.2.2.2) (qB.more (by omega)) E8 hgu (by have := JC.1; omega)) ?_
  rintro v131 w5 ⟨hO, hR⟩
  replace H := (H.out hO).add (show aJ _ (fP v131 (tX m o.b)) _ from hR)
  refine WL.as rfl rfl (WL.as rfl rfl (WL.nil (WE.ret ⟨[_, _], _, .nil _, ⟨rfl, rfl, trivial⟩, ?_⟩)))
  refine ⟨MG, _, v131, ?_, ?_, H.lG, H.o 0 rfl, H.o 1 rfl, H.gE (by exact (H.bK 2 rfl : aJ _ (cW bits MG) _)), ?_, ?_⟩
  ·
   rfl
  ·
   rw [S8, if_pos hz, CQ]
  ·
   rw [CQ]; exact H.gE (by exact (H.bK 0 rfl : aJ _ (fP v131 (tX m o.b)) _))
  ·
   rw [CQ]; exact (H.gE (aJ.and (show aJ _ (eL m) _ from (by exact (H.bK 6 rfl : aJ _ (eL m) _))) (show aJ _ (OV o) _ from (by exact (H.bK 7 rfl : aJ _ (OV o) _))))).imp fun _ h => eL.dD o.b h.1 h.2.2.2.2
theorem aKp {X : Nat → Prop} {w : World} {bt bh bc : Nat} {bits c0 : Int} {T : Tr} {m : List En} {s2 : Value} {o : rI} {nn : Nat} (hX : cY X w) (eY : aN w bc 213 [.int .i64 c0]) (zF : aN w bt 90 [.pointer (some ⟨bh, 0, none⟩), T.ptr])
  (bU : aJ (fun c => X c ∨ c = bc ∨ c = bt) (fQ bh bc bits) w) (dI : aJ (fun c => X c ∨ c = bc ∨ c = bt) (cW bits T) w) (fU : aJ (fun c => X c ∨ c = bc ∨ c = bt) (fP s2 m) w) (jY : aJ (fun c => X c ∨ c = bc ∨ c = bt) (eL m) w) (o9 : aJ (fun c => X c ∨ c = bc ∨ c = bt) (OV o) w) (tP : aJ (fun c => X c ∨ c = bc ∨ c = bt) aZ w) (DP : aJ (fun c => X c ∨ c = bc ∨ c = bt) fD w)
  (hne : bc ≠ bt) (bS : 0 ≤ bits ∧ bits ≤ 256) (hT : T.er = grow 0 m) (qB : fC nn m) (hnn : nn ≤ 500) (hko : o.k.length ≤ 100) (hvo : o.v.length ≤ 70000) (JC : DJ o.b) :
  bC prog 17 [.pointer (some ⟨bt, 0, none⟩), s2, .agg (AR o).toArray].toArray w (fun v w' => ∃ (T' : Tr) (c' : Int) (s3 : Value), v = .tuple [s3, .bool false].toArray ∧ T'.er = grow 0 (pQ m o) ∧ Out (fun c => c = bc ∨ c = bt) w w' ∧ aN w' bc 213 [.int .i64 c'] ∧ aN w' bt 90 [.pointer (some ⟨bh, 0, none⟩), T'.ptr] ∧ aJ (fun c => X c ∨ c = bc ∨ c = bt) (cW bits T') w' ∧ aJ (fun c => X c ∨ c = bc ∨ c = bt) (fP s3 (pQ m o)) w' ∧ aJ (fun c => X c ∨ c = bc ∨ c = bt) (eL (pQ m o)) w') := by
 by_cases h0 : o.n = 0
 ·
  exact aH3 hX eY zF bU dI fU jY o9 tP DP hne bS hT qB hnn hko hvo JC h0
 ·
  by_cases h1 : o.n = 1
  ·
   exact aH2 hX eY zF bU dI fU jY o9 tP DP hne bS hT qB hnn hko hvo JC h1
  ·
   by_cases h2 : o.n = 2
   ·
    exact aH1 hX eY zF bU dI fU jY o9 tP DP hne bS hT qB hnn hko hvo JC h2
   ·
    exact aH0 hX eY zF bU dI fU jY o9 tP DP hne bS hT qB hnn hko hvo JC ⟨h0, h1, h2⟩
def GR (bits : Int) (T : Tr) (m : List En) (bh bc : Nat) (s2 : Value) (w : World) : Prop := fQ bh bc bits w ∧ cW bits T w ∧ fP s2 m w ∧ eL m w
section
variable {X : Nat → Prop} {w0 w w' : World} {O L : List aP} {Ps : List (World → Prop)} {p : World → Prop}
theorem _root_.Go.Sp.St.aHA (H : St X w0 w O L (p :: Ps)) {q r s : World → Prop} (hp : ∀ w, p w → q w ∧ r w ∧ s w) : St X w0 w O L (q :: r :: s :: Ps) :=
 have h := H.bK 0 rfl
 ((((H.drop (J1 := Ps) fun _ h => List.mem_cons_of_mem _ h).add (p := s) (h.imp fun _ h => (hp _ h).2.2)).add (p := r) (h.imp fun _ h => (hp _ h).2.1)).add (p := q) (h.imp fun _ h => (hp _ h).1))
theorem _root_.Go.Sp.St.aHz (H : St X w0 w O L (p :: Ps)) {q r s t : World → Prop} (hp : ∀ w, p w → q w ∧ r w ∧ s w ∧ t w) : St X w0 w O L (q :: r :: s :: t :: Ps) :=
 have h := H.bK 0 rfl
 (((((H.drop (J1 := Ps) fun _ h => List.mem_cons_of_mem _ h).add (p := t) (h.imp fun _ h => (hp _ h).2.2.2)).add (p := s) (h.imp fun _ h => (hp _ h).2.2.1)).add (p := r) (h.imp fun _ h => (hp _ h).2.1)).add (p := q) (h.imp fun _ h => (hp _ h).1))
theorem _root_.Go.Sp.St.aB0 (H : St X w0 w O L Ps) (i j : Nat) {b b2 : Nat} {t t2 : TypeId} {l l2 : List Value} (hi : L[i]? = some (aP.blk b t l)) (hj : L[j]? = some (aP.blk b2 t2 l2)) (hij : i ≠ j) : aJ (fun c => Nil c ∨ c = b) (fun w => dA w ⟨b2, 0, none⟩ l2) w :=
 (aJ.G1 (H.l9 i j hi hj hij)).imp fun _ h => aN.rd h
theorem _root_.Go.Sp.St.tG (H : St X w0 w O L Ps) (i : Nat) {b : Nat} {t : TypeId} {l : List Value} (hi : L[i]? = some (aP.blk b t l)) (n : Nat) (hp : Ps[n]? = some p) : aJ (fun c => Nil c ∨ c = b) p w := (H.gM i hi n hp).wk
theorem _root_.Go.Sp.St.p8 (H : St X w0 w O L Ps) (j : Nat) {b2 : Nat} {t2 : TypeId} {l2 : List Value} (hj : L[j]? = some (aP.blk b2 t2 l2)) : aJ Nil (fun w => dA w ⟨b2, 0, none⟩ l2) w := (H.XC j hj).imp fun _ h => aN.rd h
end
theorem fC.pm {n : Nat} {m : List En} (h : fC n m) : Pm 0 m := h.s.pm h.k
theorem O6.map {l : List rI} (h : O6 l) : fC 240 (runM l) := by
 have h1 := fC.run h l.length (Nat.le_refl _)
 rw [List.take_length] at h1
 have := h.1
 exact h1.more (by omega)
abbrev Z_ : List UInt8 := List.replicate 32 0
abbrev Tz (a : Nat) (s : Value) : Tr := .leaf a Z_ [7] s
def Ez (sv : Value) : En := ⟨Z_, sv, [7]⟩
theorem aHZ (sv : Value) : Pm 0 [Ez sv] := Pm.zero (fun e he => by rw [List.mem_singleton.1 he]; rfl) (List.pairwise_singleton _ _)
theorem J6 {a1 : Nat} {s1 : Value} : yZ (pK (Tz a1 s1) Z_) (Tr.dp Z_ 0 (Tz a1 s1)) (Tr.fin (Tz a1 s1) Z_).key ((Tr.fin (Tz a1 s1) Z_).vd 256) Z_ (nC 256 [7]) true := ⟨fun _ => ⟨rfl, rfl, rfl⟩, fun h => by cases h⟩
theorem aDx {a1 : Nat} {s1 : Value} (hp : jC (pK (Tz a1 s1) Z_) (Tr.dp Z_ 0 (Tz a1 s1)) (Tr.fin (Tz a1 s1) Z_).key ((Tr.fin (Tz a1 s1) Z_).vd 256) (o5 (Tz a1 s1) Z_ (Tr.dp Z_ 0 (Tz a1 s1))) (iY 256 (Tz a1 s1) Z_ (Tr.dp Z_ 0 (Tz a1 s1)))) : (fK (pK (Tz a1 s1) Z_) (Tr.dp Z_ 0 (Tz a1 s1)) (Tr.fin (Tz a1 s1) Z_).key ((Tr.fin (Tz a1 s1) Z_).vd 256) (o5 (Tz a1 s1) Z_ (Tr.dp Z_ 0 (Tz a1 s1))) (iY 256 (Tz a1 s1) Z_ (Tr.dp Z_ 0 (Tz a1 s1)))).length = 100 := (FZ hp).trans rfl
theorem QM {X : Nat → Prop} {w : World}  (hX : cY X w) (bU : aJ X (aZ) w) (dI : aJ X (fD) w) :
  bC prog 8 [].toArray w fun v w' => v = .bool true ∧ Out Nil w w' := by
 refine bC.aH (N := 53) func8 rfl rfl (by decide +revert) ?_
 have H := ((St.begin hX).add (cE dI)).add (cE bU)
 refine WE.aA (WL.as rfl rfl (WL.nil (WE.aA ?_)))
 refine WL.call aF5 rfl (U5 (i := 256) H.aR  (by decide)) ?_
 rintro _ w1 ⟨yQ, mH, r6, rfl, hO, SH, SG, aAO, zU, tT, hR⟩
 replace H := H.HZ hO (aP.blk yQ 90 [.pointer (some ⟨mH, 0, none⟩), .pointer none]) (aP.blk r6 213 [.int .i64 0]) zU tT (fun c hc => by cases hc; exact SH) (fun c hc => by cases hc; exact SG) (uW aAO) hR
 replace H := H.add (show aJ _ (cW 256 .nil) _ from fun _ _ => trivial)
 refine WL.mv rfl rfl (WL.pv (PV.extract rfl rfl rfl) rfl (WL.pv (PV.extract rfl rfl rfl) rfl (WL.as rfl rfl (WL.as rfl rfl (WL.nil (WE.seq (WE.aA ?_)))))))
 refine WL.mv rfl rfl (WL.pv (PV.jP rfl H9 rfl rfl) rfl (WL.mv rfl rfl (WL.known (t := 12) (c := false) rfl rfl (WL.mv rfl rfl (WL.pv (PV.neq rfl rfl rfl) rfl (WL.pv (PV.dF rfl rfl rfl) rfl (WL.mv rfl rfl ?_)))))))
 refine WL.known (t := 16) (c := false) rfl rfl (WL.mv rfl rfl ?_)
 refine WL.makeSlice (n := 32) H rfl iD rfl (by decide) (by decide) rfl ?_
 intro UN w3 H
 replace H := H.freeze (i := 0) rfl
 replace H := H.add (show aJ _ (bJ (.slice (some ⟨UN, 0, none⟩) 32 32) Z_) _ from (H.bK 0 rfl).imp fun _ h => bJ.bZ h rfl)
 refine WL.bB (l0 := [.int .u8 (0)]) H rfl iD (by decide) (cT _ _) (Fl.cons rfl rfl (by simp only [aS, aX, aB, aD]) Laid.head Fl.nil) rfl ?_
 intro b19 w6 H
 replace H := H.freeze (i := 0) rfl
 replace H := H.add ((H.bK 0 rfl).imp fun _ h => bJ.bZ (l := [7]) h rfl)
 refine WL.call aGu rfl (U4 (bt := yQ) (bh := mH) (bc := r6) (bits := 256) (T := .nil) (m := []) (lb := Z_) (vv := [7]) H.aR (H.l 1 rfl) (H.l 0 rfl) (by exact (H.pI 1 0 rfl rfl 5 rfl : aJ _ (fQ mH r6 256) _)) (by exact (H.pI 1 0 rfl rfl 4 rfl : aJ _ (cW 256 .nil) _)) (by exact (H.pI 1 0 rfl rfl 2 rfl : aJ _ (bJ (.slice (some ⟨UN, 0, none⟩) 32 32) Z_) _)) (by exact (H.pI 1 0 rfl rfl 0 rfl : aJ _ (bJ (.slice (some ⟨b19, 0, none⟩) 1 1) [7]) _)) (by exact (H.pI 1 0 rfl rfl 6 rfl : aJ _ (aZ) _)) (Ne.symm aAO) (by decide) (eF 0).symm List.Pairwise.nil (fun _ h => by cases h) (by simp) (by simp) (by simp)) ?_
 rintro aLg w7 ⟨T1, c1, YQ, hO, zU, tT, hR, hE⟩
 have hz0 : cD Z_ [7] = 0 := dL.2 ⟨rfl, by decide⟩
 obtain rfl := fI.none hE hz0
 have DS : T1.er = .leaf Z_ [7] := YQ.trans (by rw [if_pos hz0]; exact dO 0 _)
 obtain ⟨a1, s1, rfl⟩ := Tr.sW DS
 replace H := H.F8 1 0 rfl rfl (by decide) hO zU tT hR
 have hok : jC (pK (Tz a1 s1) Z_) (Tr.dp Z_ 0 (Tz a1 s1)) (Tr.fin (Tz a1 s1) Z_).key ((Tr.fin (Tz a1 s1) Z_).vd 256) (o5 (Tz a1 s1) Z_ (Tr.dp Z_ 0 (Tz a1 s1))) (iY 256 (Tz a1 s1) Z_ (Tr.dp Z_ 0 (Tz a1 s1))) := Q9 (m := [Ez .nilIface]) (dO 0 (Ez .nilIface)).symm (aHZ _) trivial rfl
 have aKx := aDx hok
 have hroot : fF 256 Z_ (gG 256 (Tr.dp Z_ 0 (Tz a1 s1)) (o5 (Tz a1 s1) Z_ (Tr.dp Z_ 0 (Tz a1 s1))) (iY 256 (Tz a1 s1) Z_ (Tr.dp Z_ 0 (Tz a1 s1)))) (eB (cX (eS (pK (Tz a1 s1) Z_) (Tr.fin (Tz a1 s1) Z_).key ((Tr.fin (Tz a1 s1) Z_).vd 256))) 256) (Tr.dp Z_ 0 (Tz a1 s1)) = ((Tz a1 s1).er.nO 256) := IA (Nat.zero_le _)
 have SN := eT 256 (Tz a1 s1).er
 refine WL.pv (PV.AW rfl (by kernel_rfl) (by exact zH.nil)) rfl ?_
 refine WL.pv (PV.dF rfl rfl rfl) rfl (WL.nil ?_)
 refine WE.bD rfl rfl ?_
 refine WE.skip (WE.aA (WL.mv rfl rfl ?_))
 refine WL.call aCS rfl (DH (X := Nil) (bt := yQ) (bh := mH) (bc := r6) (bits := 256) (T := (Tz a1 s1)) (fun _ h => h.elim) (H.l 1 rfl) (H.aB0 1 0 rfl rfl (by decide)) (by exact (H.tG 1 rfl 6 rfl : aJ _ (fQ mH r6 256) _)) (by exact (H.tG 1 rfl 0 rfl : aJ _ (cW 256 (Tz a1 s1)) _)) (by exact (H.tG 1 rfl 7 rfl : aJ _ (aZ) _)) (by decide)) ?_
 rintro _ w8 ⟨m24, rfl, hO, hB⟩
 replace H := H.called 1 rfl hO hB
 refine WL.alloc H rfl k6 rfl ?_
 intro b3 w9 H
 refine WL.aW H 0 rfl rfl rfl (new := kc ((Tz a1 s1).er.nO 256)) rfl (by exact c9) (bG _) (Laid.at (Laid.all (by simp only [aS, aX, aB, aD])) rfl) rfl ?_
 intro tM H
 replace H := H.freeze (i := 0) rfl
 replace H := H.add (show aJ _ (bJ (.slice (some ⟨b3, 0, none⟩) 32 32) ((Tz a1 s1).er.nO 256)) _ from (H.bK 0 rfl).imp fun _ h => bJ.bZ h SN)
 refine WL.nil (WE.aA (WL.mv rfl rfl ?_))
 refine WL.call C9 rfl (lY (X := Nil) (bt := yQ) (bh := mH) (T := (Tz a1 s1)) (fun _ h => h.elim) (H.p8 0 rfl)) ?_
 rintro _ wT ⟨rfl, hO⟩
 replace H := H.out hO
 refine WL.mv rfl rfl ?_
 refine WL.call aG8 rfl (MH (X := Nil) (bt := yQ) (bh := mH) (T := (Tz a1 s1)) (fun _ h => h.elim) (H.p8 0 rfl)) ?_
 rintro _ G2 ⟨rfl, hO⟩
 replace H := H.out hO
 refine WL.pv (PV.lP rfl gZ gO qY Fl.nil) rfl ?_
 refine WL.call fb9 rfl (Z4 (bh := mH) (bc := r6) (bits := 256) (T := (Tz a1 s1)) (k := Z_) H.aR (H.l 1 rfl) (by exact (H.gM 1 rfl 8 rfl : aJ _ (fQ mH r6 256) _)) (by exact (H.gM 1 rfl 2 rfl : aJ _ (cW 256 (Tz a1 s1)) _)) (by exact (H.gM 1 rfl 9 rfl : aJ _ (aZ) _)) (by decide) rfl trivial) ?_
 rintro _ D4 ⟨m31, aEg, rfl, hO, hB, hR⟩
 replace H := H.mZ 1 rfl hO hB hR
 refine WL.call aJ3 rfl (VX (kd := pK (Tz a1 s1) Z_) (dp := Tr.dp Z_ 0 (Tz a1 s1)) (lk := (Tr.fin (Tz a1 s1) Z_).key) (lv := (Tr.fin (Tz a1 s1) Z_).vd 256) (B := o5 (Tz a1 s1) Z_ (Tr.dp Z_ 0 (Tz a1 s1))) (sb := iY 256 (Tz a1 s1) Z_ (Tr.dp Z_ 0 (Tz a1 s1))) (sl := aEg) H.aR (by exact (H.bK 0 rfl : aJ _ (fB aEg _) _)) hok) ?_
 rintro _ KG ⟨s32, rfl, hO, hR⟩
 replace H := (H.out hO).add hR
 refine WL.mv rfl rfl (WL.pv (PV.extract rfl rfl rfl) rfl (WL.pv (PV.extract rfl rfl rfl) rfl (WL.as rfl rfl (WL.as rfl rfl (WL.nil ?_)))))
 refine WE.bH (.take 0 (.take 1 (.take 2 (.take 3 (.take 4 (.take 5 (.take 6 (.take 7 (.take 8 (.take 10 (.take 14 (.EN 9 (.jO 11 (.aG 12 (.take 13 (.aG 15 (.take 16 (.take 17 (.take 18 .done)))))) 12 (.aG 11 (.take 13 (.aG 15 (.take 16 (.take 17 (.take 18 .done))))))) 11 (.jO 9 (.aG 12 (.take 13 (.aG 15 (.take 16 (.take 17 (.take 18 .done)))))) 12 (.take 13 (.aG 9 (.aG 15 (.take 16 (.take 17 (.take 18 .done))))))) 12 (.jO 9 (.aG 11 (.take 13 (.aG 15 (.take 16 (.take 17 (.take 18 .done)))))) 11 (.take 13 (.aG 9 (.aG 15 (.take 16 (.take 17 (.take 18 .done))))))))))))))))))) mixed (by kernel_rfl) ?_
 replace H := H.out (Out.drew _)
 refine WP.mv rfl rfl rfl (WP.aC rfl rfl (PV.eql rfl rfl rfl) (WP.mv rfl rfl rfl ?_))
 refine WP.known (t := 37) (c := true) rfl rfl ?_
 refine WP.mv rfl rfl rfl ?_
 refine WP.aC rfl rfl (PV.dR (by exact (H.p 0 rfl : (bJ s32 (fK (pK (Tz a1 s1) Z_) (Tr.dp Z_ 0 (Tz a1 s1)) (Tr.fin (Tz a1 s1) Z_).key ((Tr.fin (Tz a1 s1) Z_).vd 256) (o5 (Tz a1 s1) Z_ (Tr.dp Z_ 0 (Tz a1 s1))) (iY 256 (Tz a1 s1) Z_ (Tr.dp Z_ 0 (Tz a1 s1))))) _)) eM rfl) ?_
 refine WP.aC rfl rfl (PV.eql rfl rfl rfl) (WP.aC rfl rfl (PV.dP rfl rfl rfl) (WP.mv rfl rfl rfl ?_))
 refine WP.known (t := 42) (c := true) rfl rfl ?_
 refine WP.mv rfl rfl rfl ?_
 refine WP.aC rfl rfl (PV.iE rfl oL (by rw [gO]; rfl) rfl) ?_
 refine WP.mv rfl rfl rfl ?_
 refine WP.join (α := Nat × Nat) (.take 13 (.aG 15 (.take 16 (.take 17 (.take 18 .done))))) [44, 46, 47] (fun g_ => [(44, .pointer (some ⟨mH, 0, none⟩)), (46, (.slice (some ⟨g_.1, 0, none⟩) 32 32)), (47, (.slice (some ⟨g_.2, 0, none⟩) 1 1))]) (fun g_ wl => St X w wl [] [aP.blk yQ 90 [.pointer (some ⟨mH, 0, none⟩), (Tz a1 s1).ptr], aP.blk r6 213 [.int .i64 m31]] [bJ (.slice (some ⟨g_.1, 0, none⟩) 32 32) Z_, bJ (.slice (some ⟨g_.2, 0, none⟩) 1 1) [7], bJ s32 (fK (pK (Tz a1 s1) Z_) (Tr.dp Z_ 0 (Tz a1 s1)) (Tr.fin (Tz a1 s1) Z_).key ((Tr.fin (Tz a1 s1) Z_).vd 256) (o5 (Tz a1 s1) Z_ (Tr.dp Z_ 0 (Tz a1 s1))) (iY 256 (Tz a1 s1) Z_ (Tr.dp Z_ 0 (Tz a1 s1)))), bJ (.slice (some ⟨b3, 0, none⟩) 32 32) ((Tz a1 s1).er.nO 256), fQ mH r6 256, aZ, fD]) ?_ ?_
 ·
  intro jn_
  refine WP.EN rfl rfl rfl ?_ ?_ ?_ 
  ·
   refine WL.call C9 rfl (lY (X := Nil) (bt := yQ) (bh := mH) (T := (Tz a1 s1)) (fun _ h => h.elim) (H.p8 0 rfl)) ?_
   rintro _ PD ⟨rfl, hO⟩
   replace H := H.out hO
   refine WL.nil ⟨c5, ?_⟩
   refine WP.jO rfl rfl ?_ ?_ 
   ·
    refine WL.makeSlice (n := 32) H rfl iD rfl (by decide) (by decide) rfl ?_
    intro z1 P6 H
    replace H := H.freeze (i := 0) rfl
    replace H := H.add (show aJ _ (bJ (.slice (some ⟨z1, 0, none⟩) 32 32) Z_) _ from (H.bK 0 rfl).imp fun _ h => bJ.bZ h rfl)
    refine WL.nil ⟨c5, ?_⟩
    refine WP.aG rfl ?_
    refine WL.bB (l0 := [.int .u8 (0)]) H rfl iD (by decide) (cT _ _) (Fl.cons rfl rfl (by simp only [aS, aX, aB, aD]) Laid.head Fl.nil) rfl ?_
    intro JO w20 H
    replace H := H.freeze (i := 0) rfl
    replace H := H.add ((H.bK 0 rfl).imp fun _ h => bJ.bZ (l := [7]) h rfl)
    refine WL.nil ⟨c5, ?_⟩
    exact jn_ _ _ ⟨(z1, JO), (by repeat (first | with_reducible exact bM.refl _ _ | refine bM.dD rfl ?_)), ⟨rfl, rfl, rfl, trivial⟩, (by exact H.uB [2, 0, 4, 6, 14, 15, 16])⟩
   ·
    refine WL.bB (l0 := [.int .u8 (0)]) H rfl iD (by decide) (cT _ _) (Fl.cons rfl rfl (by simp only [aS, aX, aB, aD]) Laid.head Fl.nil) rfl ?_
    intro JO w21 H
    replace H := H.freeze (i := 0) rfl
    replace H := H.add ((H.bK 0 rfl).imp fun _ h => bJ.bZ (l := [7]) h rfl)
    refine WL.nil ⟨c5, ?_⟩
    refine WP.aG rfl ?_
    refine WL.makeSlice (n := 32) H rfl iD rfl (by decide) (by decide) rfl ?_
    intro z1 w23 H
    replace H := H.freeze (i := 0) rfl
    replace H := H.add (show aJ _ (bJ (.slice (some ⟨z1, 0, none⟩) 32 32) Z_) _ from (H.bK 0 rfl).imp fun _ h => bJ.bZ h rfl)
    refine WL.nil ⟨c5, ?_⟩
    exact jn_ _ _ ⟨(z1, JO), (by repeat (first | with_reducible exact bM.refl _ _ | refine bM.dD rfl ?_)), ⟨rfl, rfl, rfl, trivial⟩, (by exact H.uB [0, 2, 4, 6, 14, 15, 16])⟩
  ·
   refine WL.makeSlice (n := 32) H rfl iD rfl (by decide) (by decide) rfl ?_
   intro z1 w27 H
   replace H := H.freeze (i := 0) rfl
   replace H := H.add (show aJ _ (bJ (.slice (some ⟨z1, 0, none⟩) 32 32) Z_) _ from (H.bK 0 rfl).imp fun _ h => bJ.bZ h rfl)
   refine WL.nil ⟨c5, ?_⟩
   refine WP.jO rfl rfl ?_ ?_ 
   ·
    refine WL.call C9 rfl (lY (X := Nil) (bt := yQ) (bh := mH) (T := (Tz a1 s1)) (fun _ h => h.elim) (H.p8 0 rfl)) ?_
    rintro _ w30 ⟨rfl, hO⟩
    replace H := H.out hO
    refine WL.nil ⟨c5, ?_⟩
    refine WP.aG rfl ?_
    refine WL.bB (l0 := [.int .u8 (0)]) H rfl iD (by decide) (cT _ _) (Fl.cons rfl rfl (by simp only [aS, aX, aB, aD]) Laid.head Fl.nil) rfl ?_
    intro JO w31 H
    replace H := H.freeze (i := 0) rfl
    replace H := H.add ((H.bK 0 rfl).imp fun _ h => bJ.bZ (l := [7]) h rfl)
    refine WL.nil ⟨c5, ?_⟩
    exact jn_ _ _ ⟨(z1, JO), (by repeat (first | with_reducible exact bM.refl _ _ | refine bM.dD rfl ?_)), ⟨rfl, rfl, rfl, trivial⟩, (by exact H.uB [2, 0, 4, 6, 14, 15, 16])⟩
   ·
    refine WL.bB (l0 := [.int .u8 (0)]) H rfl iD (by decide) (cT _ _) (Fl.cons rfl rfl (by simp only [aS, aX, aB, aD]) Laid.head Fl.nil) rfl ?_
    intro JO w32 H
    replace H := H.freeze (i := 0) rfl
    replace H := H.add ((H.bK 0 rfl).imp fun _ h => bJ.bZ (l := [7]) h rfl)
    refine WL.nil ⟨c5, ?_⟩
    refine WP.aC rfl rfl (PV.dM rfl aBY aBz (Fl.cons rfl rfl (by simp only [aS, aX, aB, aD]) Laid.head (Fl.cons rfl rfl (by simp only [aS, aX, aB, aD]) (Laid.tail Laid.head rfl) (Fl.cons rfl rfl (by simp only [aS, aX, aB, aD]) (Laid.tail (Laid.tail Laid.head rfl) rfl) Fl.nil)))) ?_
    refine WP.aG rfl ?_
    refine WL.call C9 rfl (lY (X := Nil) (bt := yQ) (bh := mH) (T := (Tz a1 s1)) (fun _ h => h.elim) (H.p8 0 rfl)) ?_
    rintro _ w33 ⟨rfl, hO⟩
    replace H := H.out hO
    refine WL.nil ⟨c5, ?_⟩
    refine WP.aG rfl ?_
    refine WL.call aCR rfl (yY (bh := mH) (bc := r6) (bits := 256) (kd := pK (Tz a1 s1) Z_) (dp := Tr.dp Z_ 0 (Tz a1 s1)) (lk := (Tr.fin (Tz a1 s1) Z_).key) (lv := (Tr.fin (Tz a1 s1) Z_).vd 256) (B := o5 (Tz a1 s1) Z_ (Tr.dp Z_ 0 (Tz a1 s1))) (sb := iY 256 (Tz a1 s1) Z_ (Tr.dp Z_ 0 (Tz a1 s1))) (k := Z_) (vv := [7]) (rb := ((Tz a1 s1).er.nO 256)) (sr := (.slice (some ⟨b3, 0, none⟩) 32 32)) (sk := (.slice (some ⟨z1, 0, none⟩) 32 32)) (sv := (.slice (some ⟨JO, 0, none⟩) 1 1)) (se := s32) (pr := true) H.aR (H.l 1 rfl) (by exact (H.gM 1 rfl 14 rfl : aJ _ (fQ mH r6 256) _)) (by exact (H.gM 1 rfl 6 rfl : aJ _ (bJ (.slice (some ⟨b3, 0, none⟩) 32 32) ((Tz a1 s1).er.nO 256)) _)) (by exact (H.gM 1 rfl 2 rfl : aJ _ (bJ (.slice (some ⟨z1, 0, none⟩) 32 32) Z_) _)) (by exact (H.gM 1 rfl 0 rfl : aJ _ (bJ (.slice (some ⟨JO, 0, none⟩) 1 1) [7]) _)) (by exact (H.gM 1 rfl 4 rfl : aJ _ (bJ s32 (fK (pK (Tz a1 s1) Z_) (Tr.dp Z_ 0 (Tz a1 s1)) (Tr.fin (Tz a1 s1) Z_).key ((Tr.fin (Tz a1 s1) Z_).vd 256) (o5 (Tz a1 s1) Z_ (Tr.dp Z_ 0 (Tz a1 s1))) (iY 256 (Tz a1 s1) Z_ (Tr.dp Z_ 0 (Tz a1 s1))))) _)) (by exact (H.gM 1 rfl 15 rfl : aJ _ (aZ) _)) (by exact (H.gM 1 rfl 16 rfl : aJ _ (fD) _)) (by decide) hok rfl SN (by decide) J6) ?_
    rintro _ w34 ⟨m50, E5, hO, hB⟩
    rw [if_pos hroot] at E5
    subst E5
    replace H := H.called 1 rfl hO hB
    refine WL.nil ⟨c5, ?_⟩
    refine WP.aC rfl rfl (PV.eql rfl rfl rfl) (WP.aC rfl rfl (PV.dP rfl rfl rfl) (WP.as rfl rfl rfl (WP.done (WE.ret ⟨[_], _, .nil _, ⟨rfl, trivial⟩, ?_⟩))))
    refine ⟨?_, H.aL⟩
    rfl
  ·
   refine WL.bB (l0 := [.int .u8 (0)]) H rfl iD (by decide) (cT _ _) (Fl.cons rfl rfl (by simp only [aS, aX, aB, aD]) Laid.head Fl.nil) rfl ?_
   intro JO w35 H
   replace H := H.freeze (i := 0) rfl
   replace H := H.add ((H.bK 0 rfl).imp fun _ h => bJ.bZ (l := [7]) h rfl)
   refine WL.nil ⟨c5, ?_⟩
   refine WP.jO rfl rfl ?_ ?_ 
   ·
    refine WL.call C9 rfl (lY (X := Nil) (bt := yQ) (bh := mH) (T := (Tz a1 s1)) (fun _ h => h.elim) (H.p8 0 rfl)) ?_
    rintro _ w36 ⟨rfl, hO⟩
    replace H := H.out hO
    refine WL.nil ⟨c5, ?_⟩
    refine WP.aG rfl ?_
    refine WL.makeSlice (n := 32) H rfl iD rfl (by decide) (by decide) rfl ?_
    intro z1 w38 H
    replace H := H.freeze (i := 0) rfl
    replace H := H.add (show aJ _ (bJ (.slice (some ⟨z1, 0, none⟩) 32 32) Z_) _ from (H.bK 0 rfl).imp fun _ h => bJ.bZ h rfl)
    refine WL.nil ⟨c5, ?_⟩
    exact jn_ _ _ ⟨(z1, JO), (by repeat (first | with_reducible exact bM.refl _ _ | refine bM.dD rfl ?_)), ⟨rfl, rfl, rfl, trivial⟩, (by exact H.uB [0, 2, 4, 6, 14, 15, 16])⟩
   ·
    refine WL.makeSlice (n := 32) H rfl iD rfl (by decide) (by decide) rfl ?_
    intro z1 w42 H
    replace H := H.freeze (i := 0) rfl
    replace H := H.add (show aJ _ (bJ (.slice (some ⟨z1, 0, none⟩) 32 32) Z_) _ from (H.bK 0 rfl).imp fun _ h => bJ.bZ h rfl)
    refine WL.nil ⟨c5, ?_⟩
    refine WP.aC rfl rfl (PV.dM rfl aBY aBz (Fl.cons rfl rfl (by simp only [aS, aX, aB, aD]) Laid.head (Fl.cons rfl rfl (by simp only [aS, aX, aB, aD]) (Laid.tail Laid.head rfl) (Fl.cons rfl rfl (by simp only [aS, aX, aB, aD]) (Laid.tail (Laid.tail Laid.head rfl) rfl) Fl.nil)))) ?_
    refine WP.aG rfl ?_
    refine WL.call C9 rfl (lY (X := Nil) (bt := yQ) (bh := mH) (T := (Tz a1 s1)) (fun _ h => h.elim) (H.p8 0 rfl)) ?_
    rintro _ w45 ⟨rfl, hO⟩
    replace H := H.out hO
    refine WL.nil ⟨c5, ?_⟩
    refine WP.aG rfl ?_
    refine WL.call aCR rfl (yY (bh := mH) (bc := r6) (bits := 256) (kd := pK (Tz a1 s1) Z_) (dp := Tr.dp Z_ 0 (Tz a1 s1)) (lk := (Tr.fin (Tz a1 s1) Z_).key) (lv := (Tr.fin (Tz a1 s1) Z_).vd 256) (B := o5 (Tz a1 s1) Z_ (Tr.dp Z_ 0 (Tz a1 s1))) (sb := iY 256 (Tz a1 s1) Z_ (Tr.dp Z_ 0 (Tz a1 s1))) (k := Z_) (vv := [7]) (rb := ((Tz a1 s1).er.nO 256)) (sr := (.slice (some ⟨b3, 0, none⟩) 32 32)) (sk := (.slice (some ⟨z1, 0, none⟩) 32 32)) (sv := (.slice (some ⟨JO, 0, none⟩) 1 1)) (se := s32) (pr := true) H.aR (H.l 1 rfl) (by exact (H.gM 1 rfl 14 rfl : aJ _ (fQ mH r6 256) _)) (by exact (H.gM 1 rfl 6 rfl : aJ _ (bJ (.slice (some ⟨b3, 0, none⟩) 32 32) ((Tz a1 s1).er.nO 256)) _)) (by exact (H.gM 1 rfl 0 rfl : aJ _ (bJ (.slice (some ⟨z1, 0, none⟩) 32 32) Z_) _)) (by exact (H.gM 1 rfl 2 rfl : aJ _ (bJ (.slice (some ⟨JO, 0, none⟩) 1 1) [7]) _)) (by exact (H.gM 1 rfl 4 rfl : aJ _ (bJ s32 (fK (pK (Tz a1 s1) Z_) (Tr.dp Z_ 0 (Tz a1 s1)) (Tr.fin (Tz a1 s1) Z_).key ((Tr.fin (Tz a1 s1) Z_).vd 256) (o5 (Tz a1 s1) Z_ (Tr.dp Z_ 0 (Tz a1 s1))) (iY 256 (Tz a1 s1) Z_ (Tr.dp Z_ 0 (Tz a1 s1))))) _)) (by exact (H.gM 1 rfl 15 rfl : aJ _ (aZ) _)) (by exact (H.gM 1 rfl 16 rfl : aJ _ (fD) _)) (by decide) hok rfl SN (by decide) J6) ?_
    rintro _ w46 ⟨m50, E5, hO, hB⟩
    rw [if_pos hroot] at E5
    subst E5
    replace H := H.called 1 rfl hO hB
    refine WL.nil ⟨c5, ?_⟩
    refine WP.aC rfl rfl (PV.eql rfl rfl rfl) (WP.aC rfl rfl (PV.dP rfl rfl rfl) (WP.as rfl rfl rfl (WP.done (WE.ret ⟨[_], _, .nil _, ⟨rfl, trivial⟩, ?_⟩))))
    refine ⟨?_, H.aL⟩
    rfl
 ·
  intro ⟨z1, JO⟩ γ_ w47 hI
  try dsimp only at hI
  replace H := hI
  refine WP.aC rfl rfl (PV.dM rfl aBY aBz (Fl.cons rfl rfl (by simp only [aS, aX, aB, aD]) Laid.head (Fl.cons rfl rfl (by simp only [aS, aX, aB, aD]) (Laid.tail Laid.head rfl) (Fl.cons rfl rfl (by simp only [aS, aX, aB, aD]) (Laid.tail (Laid.tail Laid.head rfl) rfl) Fl.nil)))) ?_
  refine WP.aG rfl ?_
  refine WL.call aCR rfl (yY (bh := mH) (bc := r6) (bits := 256) (kd := pK (Tz a1 s1) Z_) (dp := Tr.dp Z_ 0 (Tz a1 s1)) (lk := (Tr.fin (Tz a1 s1) Z_).key) (lv := (Tr.fin (Tz a1 s1) Z_).vd 256) (B := o5 (Tz a1 s1) Z_ (Tr.dp Z_ 0 (Tz a1 s1))) (sb := iY 256 (Tz a1 s1) Z_ (Tr.dp Z_ 0 (Tz a1 s1))) (k := Z_) (vv := [7]) (rb := ((Tz a1 s1).er.nO 256)) (sr := (.slice (some ⟨b3, 0, none⟩) 32 32)) (sk := (.slice (some ⟨z1, 0, none⟩) 32 32)) (sv := (.slice (some ⟨JO, 0, none⟩) 1 1)) (se := s32) (pr := true) H.aR (H.l 1 rfl) (by exact (H.gM 1 rfl 4 rfl : aJ _ (fQ mH r6 256) _)) (by exact (H.gM 1 rfl 3 rfl : aJ _ (bJ (.slice (some ⟨b3, 0, none⟩) 32 32) ((Tz a1 s1).er.nO 256)) _)) (by exact (H.gM 1 rfl 0 rfl : aJ _ (bJ (.slice (some ⟨z1, 0, none⟩) 32 32) Z_) _)) (by exact (H.gM 1 rfl 1 rfl : aJ _ (bJ (.slice (some ⟨JO, 0, none⟩) 1 1) [7]) _)) (by exact (H.gM 1 rfl 2 rfl : aJ _ (bJ s32 (fK (pK (Tz a1 s1) Z_) (Tr.dp Z_ 0 (Tz a1 s1)) (Tr.fin (Tz a1 s1) Z_).key ((Tr.fin (Tz a1 s1) Z_).vd 256) (o5 (Tz a1 s1) Z_ (Tr.dp Z_ 0 (Tz a1 s1))) (iY 256 (Tz a1 s1) Z_ (Tr.dp Z_ 0 (Tz a1 s1))))) _)) (by exact (H.gM 1 rfl 5 rfl : aJ _ (aZ) _)) (by exact (H.gM 1 rfl 6 rfl : aJ _ (fD) _)) (by decide) hok rfl SN (by decide) J6) ?_
  rintro _ w48 ⟨m50, E5, hO, hB⟩
  rw [if_pos hroot] at E5
  subst E5
  replace H := H.called 1 rfl hO hB
  refine WL.nil ⟨c5, ?_⟩
  refine WP.aC rfl rfl (PV.eql rfl rfl rfl) (WP.aC rfl rfl (PV.dP rfl rfl rfl) (WP.as rfl rfl rfl (WP.done (WE.ret ⟨[_], _, .nil _, ⟨rfl, trivial⟩, ?_⟩))))
  refine ⟨?_, H.aL⟩
  rfl
theorem YT {X : Nat → Prop} {w : World} {i : Int} {s : Value} {l : List rI} (hX : cY X w) (bU : aJ X (DI s l) w) (dI : aJ X (mK l) w) (fU : aJ X (aZ) w) (jY : aJ X (fD) w) (hlen : l.length ≤ 9223372036854775807) (hq : ∀ o ∈ l, o.k.length ≤ 9223372036854775807 ∧ o.v.length ≤ 9223372036854775807 ∧ o.b.length ≤ 9223372036854775807 ∧ ∀ u ∈ o.b, u.k.length ≤ 9223372036854775807 ∧ u.v.length ≤ 9223372036854775807) :
  bC prog 7 [.int .i64 i, s].toArray w fun v w' => ∃ (b : Bool) (tp s2 : Value), v = .tuple [tp, s2, .bool b].toArray ∧ Out Nil w w' ∧ (b = true → (0 ≤ i ∧ i ≤ 256) ∧ O6 l ∧ ∃ (bt bh bc : Nat) (T : Tr) (c' : Int), tp = .pointer (some ⟨bt, 0, none⟩) ∧ T.er = grow 0 (runM l) ∧ w.heap.size ≤ bt ∧ w.heap.size ≤ bc ∧ bt ≠ bc ∧ aN w' bt 90 [.pointer (some ⟨bh, 0, none⟩), T.ptr] ∧ aN w' bc 213 [.int .i64 c'] ∧ aJ (fun c => X c ∨ c = bt ∨ c = bc) (GR i T (runM l) bh bc s2) w') := by
 refine bC.aH (N := 52) func7 rfl rfl (by simp) ?_
 have H := ((((St.begin hX).add (cE jY)).add (cE fU)).add (cE dI)).add (cE bU)
 refine WE.aA (WL.as rfl rfl (WL.as rfl rfl (WL.as rfl rfl (WL.nil (WE.seq (WE.aA (WL.mv rfl rfl ?_)))))))
 refine WL.call aJU rfl (Z3 (i := i) H.aR  ) ?_
 rintro _ w1 ⟨rfl, hO⟩
 replace H := H.out hO
 refine WL.pv (PV.not rfl rfl) rfl (WL.mv rfl rfl ?_)
 refine WL.split (t := 15) rfl (fun s8 => ?_) (fun s8 => ?_)
 ·
  refine WL.known (t := 14) (c := true) rfl s8 ?_
  try simp only [bW] at s8
  refine WL.off rfl (WL.off rfl (WL.off rfl (WL.pv (PV.dP rfl rfl rfl) rfl (WL.nil (WE.lN rfl (WE.aA (WL.as rfl rfl ?_)))))))
  refine WL.as rfl rfl (WL.as rfl rfl (WL.nil (WE.ret ⟨[_, _, _], _, .nil _, ⟨rfl, rfl, rfl, trivial⟩, ?_⟩)))
  exact ⟨false, _, _, rfl, H.aL, fun h => by cases h⟩
 ·
  refine WL.known (t := 14) (c := false) rfl s8 ?_
  try simp only [bW] at s8
  have bS : 0 ≤ i ∧ i ≤ 256 := by exact s8
  refine WL.mv rfl rfl ?_
  refine WL.call aJ2 rfl (RY (s := s) (l := l) H.aR (by exact (H.bK 0 rfl : aJ _ (DI s l) _)) (by exact (H.bK 1 rfl : aJ _ (mK l) _)) hlen hq) ?_
  rintro _ w2 ⟨n17, rfl, aJp, hO⟩
  replace H := H.out hO
  refine WL.pv (PV.eql rfl rfl rfl) rfl (WL.pv (PV.dF rfl rfl rfl) rfl (WL.nil ?_))
  refine WE.cond rfl (fun j4 => ?_) (fun j4 => ?_)
  ·
   try simp only [bW] at j4
   refine WE.aA (WL.as rfl rfl (WL.as rfl rfl (WL.as rfl rfl (WL.nil (WE.ret ⟨[_, _, _], _, .nil _, ⟨rfl, rfl, rfl, trivial⟩, ?_⟩)))))
   exact ⟨false, _, _, rfl, H.aL, fun h => by cases h⟩
  ·
   try simp only [bW] at j4
   have pP : O6 l := aJp (by exact j4)
   refine WE.skip (WE.aA (WL.mv rfl rfl ?_))
   refine WL.call aF5 rfl (U5 (i := i) H.aR  bS) ?_
   rintro _ w3 ⟨GB, vH, yT, rfl, hO, SH, SG, I2, zU, tT, hR⟩
   replace H := H.HZ hO (aP.blk GB 90 [.pointer (some ⟨vH, 0, none⟩), .pointer none]) (aP.blk yT 213 [.int .i64 0]) zU tT (fun c hc => by cases hc; exact SH) (fun c hc => by cases hc; exact SG) (uW I2) hR
   refine WL.mv rfl rfl (WL.pv (PV.extract rfl rfl rfl) rfl (WL.pv (PV.extract rfl rfl rfl) rfl (WL.as rfl rfl (WL.as rfl rfl (WL.nil (WE.seq (WE.aA ?_)))))))
   refine WL.mv rfl rfl (WL.pv (PV.jP rfl H9 rfl rfl) rfl (WL.mv rfl rfl (WL.known (t := 27) (c := false) rfl rfl (WL.mv rfl rfl (WL.pv (PV.neq rfl rfl rfl) rfl (WL.pv (PV.dF rfl rfl rfl) rfl (WL.mv rfl rfl ?_)))))))
   refine WL.known (t := 31) (c := false) rfl rfl (WL.mv rfl rfl ?_)
   refine WL.call C9 rfl (lY (X := Nil) (bt := GB) (bh := vH) (T := .nil) (fun _ h => h.elim) (H.p8 0 rfl)) ?_
   rintro _ w4 ⟨rfl, hO⟩
   replace H := H.out hO
   refine WL.pv (PV.jP rfl aEr rfl rfl) rfl (WL.pv (PV.dF rfl rfl rfl) rfl (WL.nil ?_))
   refine WE.bD rfl rfl ?_
   refine WE.skip (WE.aA (WL.as rfl rfl (WL.nil (WE.seq (WE.aA (WL.mv rfl rfl ?_))))))
   refine WL.pv (PV.dR (by exact (H.p 1 rfl : (DI s l) _)) M0 rfl) rfl ?_
   refine WL.mv rfl rfl (WL.nil (WE.block ?_))
   replace H := H.add (show aJ _ (eL (runM (l.take 0))) _ from fun _ _ e he => by rw [List.take_zero] at he; cases he)
   replace H := H.add (show aJ _ (fP (.slice none 0 0) (runM (l.take 0))) _ from fun w_ _ => by rw [List.take_zero]; exact cN.nil w_ 33)
   replace H := H.add (show aJ _ (cW i .nil) _ from fun _ _ => trivial)
   refine WE.loop (α := Nat × Value × Tr × Int) (rg [(9, 1), (11, 1), (38, 12)]) (fun p => [(38, .int .i64 (p.1 : Int)), (9, p.2.1)]) (fun p wl => (p.1 ≤ l.length ∧ p.2.2.1.er = grow 0 (runM (l.take p.1))) ∧ St X w wl [] [aP.blk GB 90 [.pointer (some ⟨vH, 0, none⟩), p.2.2.1.ptr], aP.blk yT 213 [.int .i64 p.2.2.2]] [fQ vH yT i, cW i p.2.2.1, fP p.2.1 (runM (l.take p.1)), eL (runM (l.take p.1)), DI s l, mK l, aZ, fD]) (fun p => l.length - p.1) (0, .slice none 0 0, .nil, 0) ⟨rfl, rfl, trivial⟩ ⟨⟨Nat.zero_le _, (by dsimp only; rw [List.take_zero]; exact (eF 0).symm)⟩, H.uB [3, 0, 1, 2, 4, 5, 6, 7]⟩ ?_
   intro ⟨j, s2, T, c⟩ γ0 w5 hI
   try dsimp only at hI
   obtain ⟨⟨hj, hT⟩, H⟩ := hI
   try dsimp only at hj hT
   refine WE.aA (WL.pv (PV.lss rfl rfl rfl) rfl (WL.nil (WE.seq ?_)))
   refine WE.cond rfl (fun aCB => ?_) (fun aCB => ?_)
   ·
    try simp only [bW] at aCB
    have hlt : j < l.length := by omega
    have SA := pP.2 _ (List.getElem_mem hlt)
    have qB := fC.run pP j (by omega)
    have aEY := pP.1
    have DO := AH hlt
    refine WE.skip (WE.seq (WE.block (WE.aA ?_)))
    refine WL.pv (PV.eA rfl (by exact (H.p 4 rfl : (DI s l) _)) M0 HN rfl rfl (by omega) (by omega)) rfl ?_
    refine WL.bE rfl aC7 rfl rfl ((DI.rd (by exact (H.p 4 rfl : (DI s l) _)) j hlt)) (by exact HN) ?_
    refine WL.alloc H rfl aDG rfl ?_
    intro DU w6 H
    refine WL.aW H 0 rfl rfl rfl (new := AR l[j]) rfl (by exact HN) (K0 (by exact (H.p 5 rfl : mK l _) _ (List.getElem_mem hlt))) (Laid.at (Laid.all rfl) rfl) rfl ?_
    intro w7 H
    refine WL.nil (WE.dY (WL.mv rfl rfl (WL.mv rfl rfl ?_)))
    refine WL.bE rfl aC7 rfl rfl (aN.aF (H.l 0 rfl) (aK.all _) rfl) (by exact HN) ?_
    refine WL.call aJ1 rfl (aKp (bt := GB) (bh := vH) (bc := yT) (bits := i) (T := T) (m := (runM (l.take j))) (s2 := s2) (o := l[j]) (nn := 20 * j) H.aR (H.l 2 rfl) (H.l 1 rfl) (by exact (H.pI 2 1 rfl rfl 0 rfl : aJ _ (fQ vH yT i) _)) (by exact (H.pI 2 1 rfl rfl 1 rfl : aJ _ (cW i T) _)) (by exact (H.pI 2 1 rfl rfl 2 rfl : aJ _ (fP s2 (runM (l.take j))) _)) (by exact (H.pI 2 1 rfl rfl 3 rfl : aJ _ (eL (runM (l.take j))) _)) (by exact (H.pI 2 1 rfl rfl 5 rfl : aJ _ (mK l) _).imp fun _ h => h _ (List.getElem_mem hlt)) (by exact (H.pI 2 1 rfl rfl 6 rfl : aJ _ (aZ) _)) (by exact (H.pI 2 1 rfl rfl 7 rfl : aJ _ (fD) _)) (Ne.symm I2) bS hT qB (by omega) SA.1 SA.2.1 SA.2.2) ?_
    rintro _ w8 ⟨T46, c46, s46, rfl, aFA, hO, zU, tT, NX, G8, hR3⟩
    rw [← DO] at aFA G8 hR3
    replace H := H.F8 2 1 rfl rfl (by decide) hO zU tT (aJ.aHC NX G8 hR3)
    replace H := H.aHA (q := cW i T46) (r := fP s46 (runM (l.take (j + 1)))) (s := eL (runM (l.take (j + 1)))) (fun _ h => h)
    replace H := H.forget 0
    refine WL.mv rfl rfl (WL.pv (PV.extract rfl rfl rfl) rfl (WL.pv (PV.extract rfl rfl rfl) rfl (WL.as rfl rfl (WL.nil (WE.dY (WL.pv (PV.eq (v' := .int .i64 ((j + 1 : Nat) : Int)) (PV.bT rfl rfl rfl (by omega) (by omega)) rfl) rfl (WL.mv rfl rfl ?_)))))))
    refine WL.nil ?_
    exact ⟨(j + 1, s46, T46, c46), (by repeat (first | with_reducible exact bM.refl _ _ | refine bM.dD rfl ?_ | refine bM.bY rfl ?_ | refine bM.bV rfl ?_)), ⟨rfl, rfl, trivial⟩, rfl, ⟨⟨by dsimp only; omega, aFA⟩, H.uB [3, 0, 1, 2, 7, 8, 9, 10]⟩, (by dsimp only; omega)⟩
   ·
    try simp only [bW] at aCB
    have hje : l.take j = l := List.take_of_length_le (by omega)
    refine WE.exit (WE.aA (WL.mv rfl rfl (WL.mv rfl rfl (WL.as rfl rfl (WL.as rfl rfl (WL.as rfl rfl (WL.nil ?_)))))))
    refine WE.ret ⟨[_, _, _], _, .nil _, ⟨rfl, rfl, rfl, trivial⟩, ?_⟩
    rw [hje] at hT H
    have hgr := ((H.bK 0 rfl).and ((H.bK 1 rfl).and ((H.bK 2 rfl).and (H.bK 3 rfl))))
    replace H := H.add (show aJ _ (GR i T (runM l) vH yT s2) _ from hgr)
    exact ⟨true, _, s2, rfl, H.aL, fun _ => ⟨bS, pP, GB, vH, yT, T, c, rfl, hT, H.kF _ (List.mem_of_getElem? (i := 0) rfl) _ rfl, H.kF _ (List.mem_of_getElem? (i := 1) rfl) _ rfl, I2, H.l 0 rfl, H.l 1 rfl, H.aA0 0 rfl⟩⟩
theorem aFO {n : Nat} {m : List En} (h : fC n m) (k : List UInt8) : (gV m k).length ≤ 65535 := by
 unfold gV
 cases hg : getM m k with
 | none => simp
 | some e => exact h.v e (CZ hg).1
theorem KL.K1 {a b : List En} (h : vR a = vR b) (hb : KL b) : KL a := fun e he => by
 obtain ⟨i, hi, rfl⟩ := List.getElem_of_mem he
 have h1 := IP h
 rw [(h1.2 i hi (by omega)).1]
 exact hb _ (List.getElem_mem _)
theorem SV.K1 {a b : List En} (h : vR a = vR b) {n : Nat} (hb : ∀ e ∈ b, e.v.length ≤ n) : ∀ e ∈ a, e.v.length ≤ n := fun e he => by
 obtain ⟨i, hi, rfl⟩ := List.getElem_of_mem he
 have h1 := IP h
 rw [(h1.2 i hi (by omega)).2]
 exact hb _ (List.getElem_mem _)
theorem NK {a b : List En} (h : vR a = vR b) : a.map kv = b.map kv := h
theorem OI {es m : List En} (h : vR es = vR m) (hs : j7 m) : qG (es.map En.k) = 0 := by
 rw [E1 h]
 exact DC _ ((List.pairwise_map (f := En.k) (R := fun a b => num a < num b)).2 hs)
theorem aB7 {es m : List En} (h : vR es = vR m) (hs : j7 m) (hk : KL m) : (ofM es).map kv = m.map kv := by
 have LI := KL.K1 h hk
 have hse : j7 es := by
  have h1 := (List.pairwise_map (f := En.k) (R := fun a b => num a < num b)).2 hs
  rw [← E1 h] at h1
  exact (List.pairwise_map (f := En.k) (R := fun a b => num a < num b)).1 h1
 have e : ofM es = es := by
  have hl : r9 (es.map zX) := (List.pairwise_map (f := zX) (R := fun a b => num a.k < num b.k)).2 hse
  have e : ofM es = lU [] (es.map zX) := (MD es []).symm
  refine j7.ext (aB6 es LI).1 hse fun x => ?_
  rw [e, kC _ _ _ hl]
  constructor
  ·
   rintro (⟨c, hc, _, rfl⟩ | ⟨h, _⟩)
   ·
    obtain ⟨y, hy, rfl⟩ := List.mem_map.1 hc
    exact hy
   ·
    cases h
  ·
   exact fun h => .inl ⟨zX x, List.mem_map_of_mem h, rfl, rfl⟩
 rw [e]; exact NK h
theorem DG {X : Nat → Prop} {w : World} {i : Int} {s : Value} {l : List rI} (hX : cY X w) (bU : aJ X (DI s l) w) (dI : aJ X (mK l) w) (fU : aJ X (aZ) w) (jY : aJ X (fD) w) (hlen : l.length ≤ 9223372036854775807) (hq : ∀ o ∈ l, o.k.length ≤ 9223372036854775807 ∧ o.v.length ≤ 9223372036854775807 ∧ o.b.length ≤ 9223372036854775807 ∧ ∀ u ∈ o.b, u.k.length ≤ 9223372036854775807 ∧ u.v.length ≤ 9223372036854775807) :
  bC prog 6 [.int .i64 i, s].toArray w fun v w' => v = .bool true ∧ Out Nil w w' := by
 refine bC.aH (N := 51) func6 rfl rfl (by simp) ?_
 have H := ((((St.begin hX).add (cE jY)).add (cE fU)).add (cE dI)).add (cE bU)
 refine WE.aA (WL.as rfl rfl (WL.nil (WE.aA (WL.mv rfl rfl (WL.mv rfl rfl ?_)))))
 refine WL.call fb7 rfl (YT (i := i) (s := s) (l := l) H.aR (by exact (H.bK 0 rfl : aJ _ (DI s l) _)) (by exact (H.bK 1 rfl : aJ _ (mK l) _)) (by exact (H.bK 2 rfl : aJ _ (aZ) _)) (by exact (H.bK 3 rfl : aJ _ (fD) _)) hlen hq) ?_
 rintro _ w1 ⟨bg, tp, s2, rfl, hO, hG⟩
 have H0_ := H
 have aJo := hO
 replace H := H.out hO
 refine WL.mv rfl rfl (WL.pv (PV.extract rfl rfl rfl) rfl (WL.pv (PV.extract rfl rfl rfl) rfl (WL.pv (PV.extract rfl rfl rfl) rfl (WL.as rfl rfl (WL.as rfl rfl (WL.as rfl rfl (WL.nil ?_)))))))
 refine WE.seq (WE.aA (WL.mv rfl rfl (WL.pv (PV.not rfl rfl) rfl (WL.nil ?_))))
 refine WE.cond rfl (fun oB => ?_) (fun oB => ?_)
 ·
  try simp only [bW] at oB
  refine WE.aA ?_
  refine WL.call fb8 rfl (QM H.aR (by exact (H.bK 2 rfl : aJ _ (aZ) _)) (by exact (H.bK 3 rfl : aJ _ (fD) _))) ?_
  rintro _ w2 ⟨rfl, hO⟩
  replace H := H.out hO
  refine WL.as rfl rfl (WL.nil (WE.ret ⟨[_], _, .nil _, ⟨rfl, trivial⟩, ?_⟩))
  refine ⟨?_, H.aL⟩
  rfl
 ·
  try simp only [bW] at oB
  have hbg : bg = true := by exact oB
  obtain ⟨bS, pP, bt, bh, bc, T, c0, rfl, hT, SH, SG, hne, zU, tT, hGR⟩ := hG hbg
  replace H := H0_.HZ aJo (aP.blk bt 90 [.pointer (some ⟨bh, 0, none⟩), T.ptr]) (aP.blk bc 213 [.int .i64 c0]) zU tT (fun c hc => by cases hc; exact SH) (fun c hc => by cases hc; exact SG) (uW hne) hGR
  replace H := H.aHz (q := fQ bh bc i) (r := cW i T) (s := fP s2 (runM l)) (t := eL (runM l)) (fun _ h => h)
  have qB := pP.map
  have oA := qB.pm
  have hfit : T.er.fit 0 := by rw [hT]; exact yC oA
  have gK : pS (runM l) := pS.of (H.p 3 rfl : eL (runM l) _)
  have zS := qB.l
  have aK0 := eT i T.er
  have hvk : ∀ k, (gV (runM l) k).length ≤ 65535 := aFO qB
  have I5 : T.er.gH = (runM l).length := by rw [hT]; exact mD oA
  refine WE.skip (WE.aA (WL.mv rfl rfl ?_))
  refine WL.call C9 rfl (by exact lY (X := Nil) (bt := bt) (bh := bh) (T := T) (fun _ h => h.elim) (H.p8 0 rfl)) ?_
  rintro _ w3 ⟨rfl, hO⟩
  replace H := H.out hO
  refine WL.mv rfl rfl ?_
  refine WL.call aG8 rfl (by exact MH (X := Nil) (bt := bt) (bh := bh) (T := T) (fun _ h => h.elim) (H.p8 0 rfl)) ?_
  rintro _ w4 ⟨rfl, hO⟩
  replace H := H.out hO
  refine WL.call aJV rfl (O7 (T := T) (bits := i) H.aR (by exact (H.bK 1 rfl : aJ _ (cW i T) _)) hfit (by omega)) ?_
  rintro v25 w5 ⟨es, hO, hS, hV, hes⟩
  replace H := ((H.out hO).add hV).add hS
  have hkv : vR es = vR (runM l) := hes.trans (X4 hT oA qB.s)
  have LI := KL.K1 hkv qB.k
  have hve : kZ es := fun e he => Nat.le_trans (SV.K1 hkv qB.v e he) (by decide)
  have hle : es.length = (runM l).length := (IP hkv).1
  refine WL.call aJW rfl (PC (l := es) (s := v25) (bh := bh) (bc := bc) (bits := i) H.aR (H.l 1 rfl) (by exact (H.gM 1 rfl 2 rfl : aJ _ (fQ bh bc i) _)) (by exact (H.gM 1 rfl 0 rfl : aJ _ (fP v25 es) _)) (by exact (H.gM 1 rfl 1 rfl : aJ _ (eL es) _)) (by exact (H.gM 1 rfl 8 rfl : aJ _ (aZ) _)) bS LI hve (OI hkv qB.s) (by omega)) ?_
  rintro _ w6 ⟨T2, m26, rfl, DS, hO, hB, hR⟩
  replace H := H.mZ 1 rfl hO hB hR
  have hT3 : T2.er = grow 0 (runM l) := DS.trans (CY (aB7 hkv qB.s qB.k))
  refine WL.mv rfl rfl (WL.pv (PV.extract rfl rfl rfl) rfl (WL.pv (PV.extract rfl rfl rfl) rfl (WL.as rfl rfl (WL.as rfl rfl (WL.nil (WE.aA ?_))))))
  refine WL.call fb8 rfl (QM H.aR (by exact (H.bK 9 rfl : aJ _ (aZ) _)) (by exact (H.bK 10 rfl : aJ _ (fD) _))) ?_
  rintro _ w7 ⟨rfl, hO⟩
  replace H := H.out hO
  refine WL.mv rfl rfl (WL.known (t := 30) (c := true) rfl rfl (WL.mv rfl rfl (WL.pv (PV.eql rfl rfl rfl) rfl (WL.pv (PV.dP rfl rfl rfl) rfl (WL.mv rfl rfl (WL.known (t := 34) (c := true) rfl rfl (WL.mv rfl rfl ?_)))))))
  refine WL.call aCS rfl (by exact DH (X := Nil) (bt := bt) (bh := bh) (bc := bc) (bits := i) (T := T) (fun _ h => h.elim) (H.l 1 rfl) (H.aB0 1 0 rfl rfl (by decide)) (by exact (H.tG 1 rfl 3 rfl : aJ _ (fQ bh bc i) _)) (by exact (H.tG 1 rfl 4 rfl : aJ _ (cW i T) _)) (by exact (H.tG 1 rfl 9 rfl : aJ _ (aZ) _)) bS) ?_
  rintro _ w8 ⟨m36, rfl, hO, hB⟩
  replace H := H.called 1 rfl hO hB
  refine WL.mv rfl rfl (WL.mv rfl rfl ?_)
  refine WL.call aCQ rfl (aDg (s := s2) (m := (runM l)) (bits := i) (d := 0) H.aR (by exact (H.bK 5 rfl : aJ _ (fP s2 (runM l)) _)) (by exact (H.bK 6 rfl : aJ _ (eL (runM l)) _)) (by exact (H.bK 9 rfl : aJ _ (aZ) _)) oA (by omega) qB.short bS) ?_
  rintro _ w9 ⟨rfl, hO⟩
  replace H := H.out hO
  refine WL.pv (PV.zW rfl oL mC gO (by kernel_rfl) rfl rfl (by assumption) (by exact eT _ _)) rfl ?_
  refine WL.pv (PV.dP rfl rfl rfl) rfl (WL.mv rfl rfl ?_)
  refine WL.known (t := 42) (c := true) rfl (by simp [hT, nT]) ?_
  refine WL.mv rfl rfl ?_
  refine WL.call C9 rfl (by exact lY (X := Nil) (bt := bt) (bh := bh) (T := T) (fun _ h => h.elim) (H.p8 0 rfl)) ?_
  rintro _ tM ⟨rfl, hO⟩
  replace H := H.out hO
  refine WL.mv rfl rfl ?_
  refine WL.call N4 rfl (qI (T := T2) (bh := bh) (bc := bc) (bits := i) H.aR (H.l 1 rfl) (by exact (H.gM 1 rfl 3 rfl : aJ _ (fQ bh bc i) _)) (by exact (H.gM 1 rfl 0 rfl : aJ _ (cW i T2) _)) (by exact (H.gM 1 rfl 9 rfl : aJ _ (aZ) _)) bS) ?_
  rintro _ wT ⟨m46, rfl, hO, hB⟩
  replace H := H.called 1 rfl hO hB
  refine WL.mv rfl rfl ?_
  refine WL.call aCS rfl (by exact DH (X := Nil) (bt := bt) (bh := bh) (bc := bc) (bits := i) (T := T) (fun _ h => h.elim) (H.l 1 rfl) (H.aB0 1 0 rfl rfl (by decide)) (by exact (H.tG 1 rfl 3 rfl : aJ _ (fQ bh bc i) _)) (by exact (H.tG 1 rfl 4 rfl : aJ _ (cW i T) _)) (by exact (H.tG 1 rfl 9 rfl : aJ _ (aZ) _)) bS) ?_
  rintro _ G2 ⟨m48, rfl, hO, hB⟩
  replace H := H.called 1 rfl hO hB
  refine WL.pv (PV.zW rfl oL mC gO (by kernel_rfl) rfl rfl (by exact eT _ _) (by assumption)) rfl ?_
  refine WL.pv (PV.dP rfl rfl rfl) rfl (WL.as rfl rfl (WL.nil (WE.ret ⟨[_], _, .nil _, ⟨rfl, trivial⟩, ?_⟩)))
  refine ⟨?_, H.aL⟩
  show Value.bool _ = Value.bool true
  congr 1
  (simp [hT, hT3]; done)
open Go.ChangeShapes Go.WideShapes Go.ChangeAt
def UQ (u : Up) : Prop := u.k.length ≤ 9223372036854775807 ∧ u.v.length ≤ 9223372036854775807
def OQ (o : rI) : Prop := o.k.length ≤ 9223372036854775807 ∧ o.v.length ≤ 9223372036854775807 ∧ o.b.length ≤ 9223372036854775807 ∧ ∀ u ∈ o.b, u.k.length ≤ 9223372036854775807 ∧ u.v.length ≤ 9223372036854775807
theorem aBD {H : Type} {enc : TypeId × Value → H} {W : World} {base : Nat} {sp : Nat → Bool} {held : Bool} : l3 enc prog W base sp held 102 3 (fun cs => ∃ u : Up, cs = QC u ∧ (UQ u ∧ aJ Nil (bJ u.sk u.k) W ∧ aJ Nil (bJ u.sv u.v) W)) :=
 (l3.aIp (t0 := 41) (t1 := 41) (t2 := 4) (by kernel_rfl) (l3.bytes eM mC (by kernel_rfl) (by kernel_rfl)) (l3.bytes eM mC (by kernel_rfl) (by kernel_rfl)) (l3.bool (by kernel_rfl) (by kernel_rfl)) (by kernel_rfl)).mono fun cs ⟨a, b, d, e, ⟨sk, k, e1, h1, h2⟩, ⟨sv, v, e2, h3, h4⟩, x, e3⟩ => ⟨⟨sk, k, sv, v, x⟩, by rw [e, e1, e2, e3, List.append_assoc]; rfl, ⟨h1, h3⟩, h2, h4⟩
theorem aB1 {H : Type} {enc : TypeId × Value → H} {W : World} {base : Nat} {sp : Nat → Bool} {held : Bool} : l3 enc prog W base sp held 56 4 (fun cs => ∃ o : rI, cs = AR o ∧ (OQ o ∧ aJ Nil (OV o) W)) :=
 (l3.aIo (t0 := 3) (t1 := 41) (t2 := 41) (t3 := 54) (by kernel_rfl) (l3.int (t := 3) sZ (by kernel_rfl)) (l3.bytes eM mC (by kernel_rfl) (by kernel_rfl)) (l3.bytes eM mC (by kernel_rfl) (by kernel_rfl)) (l3.slices oT (by decide) aBD (by kernel_rfl)) (by kernel_rfl)).mono
  fun cs ⟨a, b, c, d, e, ⟨z, e0, _⟩, ⟨sk, k, e1, h1, h2⟩, ⟨sv, v, e2, h3, h4⟩, sb, l, e3, h5, h6, h7⟩ => ⟨⟨z, sk, k, sv, v, sb, l⟩, by rw [e, e0, e1, e2, e3, List.append_assoc, List.append_assoc]; rfl, ⟨h1, h3, h5, fun u hu => (h6 u hu).1⟩,
   fun w' hw => ⟨h2 w' hw, h4 w' hw, h7 w' hw, fun u hu => ⟨(h6 u hu).2.1 w' hw, (h6 u hu).2.2 w' hw⟩⟩⟩
theorem RJ {H : Type} {enc : TypeId × Value → H} {W : World} {r : Reach} {base b0 : Nat} {sp : Nat → Bool} {held : Bool} {t : TypeId} {v : Value} {d : DataW H} {ps : List MemPlace} (ht : c8 prog t = some 56) (hval : Value.okWide prog W r b0 t v) (hd : DataW.Trod enc prog W base sp held t v d ps) :
  ∃ l : List rI, l.length ≤ 9223372036854775807 ∧ (∀ o ∈ l, OQ o) ∧ aJ Nil (DI v l) W ∧ aJ Nil (mK l) W := by
 obtain ⟨l, h1, h2, h3⟩ := EU (C := AR) ht (by decide) aB1 hval hd
 exact ⟨l, h1, fun o ho => (h2 o ho).1, h3, fun w' hw o ho => (h2 o ho).2 w' hw⟩
end Go.Sp.Tryz
