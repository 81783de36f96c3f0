/- Part of the proof of this claim: walks through the program's functions and the plain laws that they need, printed by a program of this session. -/
import Derived.Test.YthkombhebdjamaaGreatDoorP3
import Derived.Test.YthkombhebdjamaaGreatDoorP4
import Derived.Test.YthkombhebdjamaaGreatDoorShf
import Derived.Maps.OwnSet
import Derived.WideKeyArr
import Derived.Test.YthkombhebdjamaaGreatDoorP2
import Derived.Test.YthkombhebdjamaaGreatDoorOpen2
set_option maxRecDepth 100000
set_option maxHeartbeats 1000000
set_option linter.unusedVariables false
set_option linter.unusedSimpArgs false
namespace Go.Sp.Tryz
open Go.Proofs Go.RowKit Go.Sp Go.Sp.TryzT Go.Proofs.Tryz
variable {X : Nat → Prop} {w : World}
theorem QN {w : World} {a : Addr} {u : Up} (h : dD w a (QQ u)) : dD w (a.add 0) [u.sk] := h.sub (aK.l (aK.all _))
theorem XJ {w : World} {a : Addr} {u : Up} (h : dD w a (QQ u)) : dD w (a.add 1) [u.sv] := h.sub (aK.r (o := 0) (aK.l (aK.all _)) rfl)
theorem aEd {w : World} {a : Addr} {u : Up} (h : dD w a (QQ u)) : dD w (a.add 2) [.bool u.d] := h.sub (aK.r (o := 1) (aK.r (o := 0) (aK.all _) rfl) rfl)
theorem dV.k {l : List Up} {w : World} (h : dV l w) {i : Nat} (hi : i < l.length) : bL l[i].sk l[i].k w := (h _ (List.getElem_mem hi)).1
theorem dV.v {l : List Up} {w : World} (h : dV l w) {i : Nat} (hi : i < l.length) : bL l[i].sv l[i].v w := (h _ (List.getElem_mem hi)).2
theorem dV.uv {l : List Up} {w : World} (h : dV l w) {i : Nat} (hi : i < l.length) : bL (if l[i].d then .slice none 0 0 else l[i].sv) l[i].uv w := by
 unfold Up.uv
 cases hd : l[i].d
 ·
  exact h.v hi
 ·
  exact bL.nil w
theorem CM {o : nW} {w : World} (h : OV o w) : eO (uO o) := bN (bB _ rfl) (bN (eF (cO.fW h.1)) (bN (eF (cO.fW h.2.1)) (eF (cO.fW h.2.2.1))))
theorem YD {u : Up} {w : World} (h : bL u.sk u.k w ∧ bL u.sv u.v w) : eO (QQ u) := bN (eF (cO.fW h.1)) (bN (eF (cO.fW h.2)) (bB _ rfl))
theorem NY {l : List Up} {i : Nat} {u : Up} (h : u ∈ l.take i) : ∃ j, ∃ hj : j < l.length, j < i ∧ l[j] = u := by
 obtain ⟨j, hj, rfl⟩ := List.getElem_of_mem h
 rw [List.length_take] at hj
 exact ⟨j, by omega, by omega, by rw [List.getElem_take]⟩
theorem o8 {X : Nat → Prop} {w : World} {s sv : Value} {lb vv : List UInt8} (hX : c6 X w) (bT : aH X (bL s lb) w) (dJ : aH X (bL sv vv) w) :
  bC prog 42 [s, sv].toArray w fun v w' => v = .int .i64 (bW lb vv) ∧ Out Nil w w' := by
 refine bC.aI (N := 11) func42 rfl rfl (by simp) ?_
 have H := ((St.begin hX).add (cE dJ)).add (cE bT)
 refine WE.aA (WL.as rfl rfl (WL.nil (WE.seq (WE.aA (WL.mv rfl rfl ?_)))))
 refine WL.pv (PV.dS (by exact (H.p 0 rfl : (bL s lb) _)) eN rfl) rfl ?_
 refine WL.pv (PV.neq rfl rfl rfl) rfl (WL.nil ?_)
 refine WE.cond rfl (fun wG => ?_) (fun wG => ?_)
 ·
  try simp only [bP] at wG
  have h7 : lb.length ≠ 32 := by omega
  refine WE.aA (WL.as rfl rfl (WL.nil (WE.ret ⟨[_], _, .nil _, ⟨rfl, trivial⟩, ?_⟩)))
  refine ⟨?_, H.aL⟩
  show Value.int .i64 2 = _
  rw [show bW lb vv = 2 from if_pos h7]
 ·
  try simp only [bP] at wG
  have h7 : lb.length = 32 := by omega
  refine WE.skip (WE.seq (WE.aA (WL.mv rfl rfl ?_)))
  refine WL.pv (PV.dS (by exact (H.p 1 rfl : (bL sv vv) _)) eN rfl) rfl ?_
  refine WL.pv (PV.gtr rfl rfl rfl) rfl (WL.nil ?_)
  refine WE.cond rfl (fun kD => ?_) (fun kD => ?_)
  ·
   try simp only [bP] at kD
   have h10 : 65535 < vv.length := by omega
   refine WE.aA (WL.as rfl rfl (WL.nil (WE.ret ⟨[_], _, .nil _, ⟨rfl, trivial⟩, ?_⟩)))
   refine ⟨?_, H.aL⟩
   show Value.int .i64 3 = _
   rw [show bW lb vv = 3 by unfold bW; rw [if_neg (by omega), if_pos h10]]
  ·
   try simp only [bP] at kD
   have h10 : ¬ 65535 < vv.length := by omega
   refine WE.skip (WE.aA (WL.as rfl rfl (WL.nil (WE.ret ⟨[_], _, .nil _, ⟨rfl, trivial⟩, ?_⟩))))
   refine ⟨?_, H.aL⟩
   show Value.int .i64 0 = _
   rw [show bW lb vv = 0 by unfold bW; rw [if_neg (by omega), if_neg h10]]
theorem L6 {X : Nat → Prop} {w : World} {s : Value} {l : List Up} (hX : c6 X w) (bT : aH X (kE s l) w) (dJ : aH X (dV l) w) (hlen : l.length ≤ 9223372036854775807) (LS : ∀ u ∈ l, u.k.length ≤ 9223372036854775807 ∧ u.v.length ≤ 9223372036854775807) :
  bC prog 41 [s].toArray w fun v w' => ∃ b : Bool, v = .bool b ∧ (b = true → DS l) ∧ Out Nil w w' := by
 refine bC.aI (N := 41) func41 rfl rfl (by simp) ?_
 have H := ((St.begin hX).add (cE dJ)).add (cE bT)
 refine WE.aA (WL.as rfl rfl (WL.nil (WE.seq (WE.aA (WL.mv rfl rfl ?_)))))
 refine WL.pv (PV.dS (by exact (H.p 0 rfl : (kE s l) _)) oY rfl) rfl ?_
 refine WL.pv (PV.gtr rfl rfl rfl) rfl (WL.nil ?_)
 refine WE.cond rfl (fun wG => ?_) (fun wG => ?_)
 ·
  try simp only [bP] at wG
  refine WE.aA (WL.as rfl rfl (WL.nil (WE.ret ⟨[_], _, .nil _, ⟨rfl, trivial⟩, ?_⟩)))
  exact ⟨false, rfl, (fun h => by cases h), H.aL⟩
 ·
  try simp only [bP] at wG
  have aJt : l.length ≤ 20 := by omega
  refine WE.skip (WE.aA (WL.as rfl rfl (WL.nil (WE.seq (WE.aA (WL.as rfl rfl (WL.nil ?_)))))))
  refine WE.block ?_
  refine WE.loop (α := Nat × Nat) (rg [(2, 3), (8, 31)]) (fun p => [(4, .int .i64 (p.1 : Int)), (3, .int .i64 (p.2 : Int))]) (fun p wl => (p.1 ≤ l.length ∧ p.2 ≤ p.1 ∧ ∀ j (h : j < l.length), j < p.1 → l[j].k.length ≤ 100 ∧ l[j].v.length ≤ 70000) ∧ St X w wl [] [] [kE s l, dV l]) (fun p => l.length - p.1) (0, 0) ⟨rfl, rfl, trivial⟩ ⟨⟨Nat.zero_le _, Nat.le_refl _, fun j _ h => absurd h (Nat.not_lt_zero _)⟩, H⟩ ?_
  intro ⟨i, n⟩ γ0 w1 hI
  try dsimp only at hI
  obtain ⟨⟨hi, hni, hall⟩, H⟩ := hI
  try dsimp only at hi hni hall
  refine WE.seq (WE.aA (WL.mv rfl rfl (WL.mv rfl rfl ?_)))
  refine WL.pv (PV.dS (by exact (H.p 0 rfl : (kE s l) _)) oY rfl) rfl ?_
  refine WL.pv (PV.lss rfl rfl rfl) rfl (WL.nil ?_)
  refine WE.cond rfl (fun j3 => ?_) (fun j3 => ?_)
  ·
   try simp only [bP] at j3
   have hlt : i < l.length := by omega
   refine WE.skip (WE.seq (WE.block (WE.seq (WE.aA (WL.mv rfl rfl (WL.mv rfl rfl ?_))))))
   refine WL.pv (PV.dX rfl (by exact (H.p 0 rfl : (kE s l) _)) oY mJ rfl rfl (by omega) (by omega)) rfl ?_
   refine WL.pv (PV.dF rfl qX rfl) rfl ?_
   refine WL.aX rfl eH rfl rfl ((QN (kE.rd (by exact (H.p 0 rfl : (kE s l) _)) i hlt))) ?_
   refine WL.pv (PV.dS (((by exact (H.p 1 rfl : (dV l) _)) : dV l _).k hlt) eN rfl) rfl ?_
   refine WL.pv (PV.gtr rfl rfl rfl) rfl (WL.mv rfl rfl ?_)
   refine WL.split (t := 21) rfl (fun TB => ?_) (fun TB => ?_)
   ·
    refine WL.known (t := 20) (c := true) rfl TB ?_
    try simp only [bP] at TB
    refine WL.off rfl (WL.off rfl (WL.off rfl (WL.off rfl (WL.off rfl (WL.off rfl (WL.off rfl (WL.pv (PV.c5 rfl rfl rfl) rfl ?_)))))))
    refine WL.nil (WE.kZ rfl (WE.aA (WL.as rfl rfl (WL.nil (WE.ret ⟨[_], _, .nil _, ⟨rfl, trivial⟩, ?_⟩)))))
    exact ⟨false, rfl, (fun h => by cases h), H.aL⟩
   ·
    refine WL.known (t := 20) (c := false) rfl TB ?_
    try simp only [bP] at TB
    have aBm : l[i].k.length ≤ 100 := by omega
    refine WL.mv rfl rfl (WL.mv rfl rfl ?_)
    refine WL.pv (PV.dX rfl (by exact (H.p 0 rfl : (kE s l) _)) oY mJ rfl rfl (by omega) (by omega)) rfl ?_
    refine WL.pv (PV.dF rfl qW rfl) rfl ?_
    refine WL.aX rfl eH rfl rfl ((XJ (kE.rd (by exact (H.p 0 rfl : (kE s l) _)) i hlt))) ?_
    refine WL.pv (PV.dS (((by exact (H.p 1 rfl : (dV l) _)) : dV l _).v hlt) eN rfl) rfl ?_
    refine WL.pv (PV.gtr rfl rfl rfl) rfl (WL.pv (PV.cF rfl rfl rfl) rfl (WL.nil ?_))
    refine WE.cond rfl (fun C9 => ?_) (fun C9 => ?_)
    ·
     try simp only [bP] at C9
     refine WE.aA (WL.as rfl rfl (WL.nil (WE.ret ⟨[_], _, .nil _, ⟨rfl, trivial⟩, ?_⟩)))
     exact ⟨false, rfl, (fun h => by cases h), H.aL⟩
    ·
     try simp only [bP] at C9
     have hv7 : l[i].v.length ≤ 70000 := by omega
     refine WE.skip (WE.aA (WL.mv rfl rfl (WL.mv rfl rfl ?_)))
     refine WL.pv (PV.dX rfl (by exact (H.p 0 rfl : (kE s l) _)) oY mJ rfl rfl (by omega) (by omega)) rfl ?_
     refine WL.pv (PV.dF rfl qW rfl) rfl ?_
     refine WL.aX rfl eH rfl rfl ((XJ (kE.rd (by exact (H.p 0 rfl : (kE s l) _)) i hlt))) ?_
     refine WL.pv (PV.dS (((by exact (H.p 1 rfl : (dV l) _)) : dV l _).v hlt) eN rfl) rfl ?_
     refine WL.pv (PV.gtr rfl rfl rfl) rfl (WL.nil ?_)
     refine WE.cond rfl (fun pE => ?_) (fun pE => ?_)
     ·
      try simp only [bP] at pE
      let n2 := n + 1
      have hn2 : n2 ≤ i + 1 := by omega
      refine WE.dW (WL.mv rfl rfl (WL.pv (PV.eq (v' := .int .i64 ((n + 1 : Nat) : Int)) (PV.bV rfl rfl rfl (by omega) (by omega)) rfl) rfl (WL.as rfl rfl (WL.nil (WE.dW (WL.mv rfl rfl (WL.pv (PV.eq (v' := .int .i64 ((i + 1 : Nat) : Int)) (PV.bV rfl rfl rfl (by omega) (by omega)) rfl) rfl ?_)))))))
      refine WL.as rfl rfl (WL.nil ?_)
      exact ⟨(i + 1, n2), (by repeat (first | with_reducible exact bK.refl _ _ | refine bK.dG rfl ?_ | refine bK.bZ rfl ?_ | refine bK.bX rfl ?_)), ⟨rfl, rfl, trivial⟩, rfl, ⟨⟨by dsimp only; omega, by dsimp only; omega, fun j hj hji => by rcases Nat.lt_or_ge j i with h_ | h_; exact hall j hj h_; (have e_ : j = i := (by dsimp only at hji; omega)); subst e_; exact ⟨aBm, hv7⟩⟩, H⟩, (by dsimp only; omega)⟩
     ·
      try simp only [bP] at pE
      let n2 := n
      have hn2 : n2 ≤ i + 1 := by omega
      refine WE.skip (WE.dW (WL.mv rfl rfl (WL.pv (PV.eq (v' := .int .i64 ((i + 1 : Nat) : Int)) (PV.bV rfl rfl rfl (by omega) (by omega)) rfl) rfl (WL.as rfl rfl (WL.nil ?_)))))
      exact ⟨(i + 1, n2), (by repeat (first | with_reducible exact bK.refl _ _ | refine bK.dG rfl ?_ | refine bK.bZ rfl ?_ | refine bK.bX rfl ?_)), ⟨rfl, rfl, trivial⟩, rfl, ⟨⟨by dsimp only; omega, by dsimp only; omega, fun j hj hji => by rcases Nat.lt_or_ge j i with h_ | h_; exact hall j hj h_; (have e_ : j = i := (by dsimp only at hji; omega)); subst e_; exact ⟨aBm, hv7⟩⟩, H⟩, (by dsimp only; omega)⟩
  ·
   try simp only [bP] at j3
   have vR : i = l.length := by omega
   refine WE.exit (WE.aA (WL.mv rfl rfl (WL.pv (PV.leq rfl rfl rfl) rfl (WL.as rfl rfl (WL.nil (WE.ret ⟨[_], _, .nil _, ⟨rfl, trivial⟩, ?_⟩))))))
   exact ⟨_, rfl, (fun _ => ⟨aJt, fun u hu => by obtain ⟨j, hj, rfl⟩ := List.getElem_of_mem hu; exact hall j hj (by omega)⟩), H.aL⟩
theorem FA {X : Nat → Prop} {w : World} {s : Value} {l : List nW} (hX : c6 X w) (bT : aH X (AH s l) w) (dJ : aH X (lN l) w) (hlen : l.length ≤ 9223372036854775807) (LS : ∀ o ∈ l, o.k.length ≤ 9223372036854775807 ∧ o.v.length ≤ 9223372036854775807 ∧ o.b.length ≤ 9223372036854775807 ∧ ∀ u ∈ o.b, u.k.length ≤ 9223372036854775807 ∧ u.v.length ≤ 9223372036854775807) :
  bC prog 16 [s].toArray w fun v w' => ∃ n : Int, v = .int .i64 n ∧ (n ≠ 0 → KP l) ∧ Out Nil w w' := by
 refine bC.aI (N := 29) func16 rfl rfl (by simp) ?_
 have H := ((St.begin hX).add (cE dJ)).add (cE bT)
 refine WE.aA (WL.as rfl rfl (WL.nil (WE.seq (WE.aA (WL.mv rfl rfl ?_)))))
 refine WL.pv (PV.dS (by exact (H.p 0 rfl : (AH s l) _)) ID rfl) rfl ?_
 refine WL.pv (PV.gtr rfl rfl rfl) rfl (WL.nil ?_)
 refine WE.cond rfl (fun wG => ?_) (fun wG => ?_)
 ·
  try simp only [bP] at wG
  refine WE.aA (WL.as rfl rfl (WL.nil (WE.ret ⟨[_], _, .nil _, ⟨rfl, trivial⟩, ?_⟩)))
  exact ⟨0, rfl, (fun h => absurd rfl h), H.aL⟩
 ·
  try simp only [bP] at wG
  have aFk : l.length ≤ 12 := by omega
  refine WE.skip (WE.seq (WE.aA (WL.mv rfl rfl ?_)))
  refine WL.pv (PV.dS (by exact (H.p 0 rfl : (AH s l) _)) ID rfl) rfl ?_
  refine WL.mv rfl rfl (WL.nil (WE.block ?_))
  refine WE.loop (α := Nat) (rg [(2, 1), (4, 1), (10, 19)]) (fun i => [(10, .int .i64 (i : Int))]) (fun i wl => (i ≤ l.length ∧ ∀ j (h : j < l.length), j < i → l[j].k.length ≤ 100 ∧ l[j].v.length ≤ 70000 ∧ DS l[j].b) ∧ St X w wl [] [] [AH s l, lN l]) (fun i => l.length - i) 0 ⟨rfl, trivial⟩ ⟨⟨Nat.zero_le _, fun j _ h => absurd h (Nat.not_lt_zero _)⟩, H⟩ ?_
  intro i γ0 w1 hI
  try dsimp only at hI
  obtain ⟨⟨hi, hall⟩, H⟩ := hI
  refine WE.aA (WL.pv (PV.lss rfl rfl rfl) rfl (WL.nil (WE.seq ?_)))
  refine WE.cond rfl (fun j3 => ?_) (fun j3 => ?_)
  ·
   try simp only [bP] at j3
   have hlt : i < l.length := by omega
   have wR := LS _ (List.getElem_mem hlt)
   have hoi : OV l[i] _ := (by exact (H.p 1 rfl : lN l _) _ (List.getElem_mem hlt))
   have aFf : l[i].sk.oneCell' = true := cO.fW hoi.1
   have aJh : l[i].sv.oneCell' = true := cO.fW hoi.2.1
   refine WE.skip (WE.seq (WE.block (WE.aA ?_)))
   refine WL.pv (PV.dX rfl (by exact (H.p 0 rfl : (AH s l) _)) ID B8 rfl rfl (by omega) (by omega)) rfl ?_
   refine WL.bE rfl VL rfl rfl ((AH.rd (by exact (H.p 0 rfl : (AH s l) _)) i hlt)) (by exact B8) ?_
   refine WL.alloc H rfl aBZ rfl ?_
   intro b4 w2 H
   refine WL.aW H 0 rfl rfl rfl (new := uO l[i]) rfl (by exact B8) (CM (by exact (H.p 1 rfl : lN l _) _ (List.getElem_mem hlt))) (Laid.at (Laid.all rfl) rfl) rfl ?_
   intro w3 H
   refine WL.nil (WE.aA (WL.pv (PV.fieldAddr rfl j4 rfl) rfl (WL.aX rfl eH rfl rfl (aN.aF (H.l 0 rfl) (aK.tl aK.hd rfl) rfl) (WL.pv (PV.fieldAddr rfl u2 rfl) rfl (WL.aX rfl eH rfl rfl (aN.aF (H.l 0 rfl) (aK.tl (aK.tl aK.hd rfl) rfl) rfl) ?_)))))
   refine WL.pv (PV.dQ rfl aEQ QB (Fl.cons rfl ((cells_one aFf)) (by simp only [aS]) Laid.head (Fl.cons rfl ((cells_one aJh)) (by simp only [aS]) (Laid.tail Laid.head rfl) Fl.nil))) rfl ?_
   refine WL.bA (l0 := ([.slice none 0 0, .slice none 0 0, .bool false])) H rfl aIH (by decide) rfl (Fl.cons rfl rfl (by simp only [aS]) (Laid.all (by simp only [aS])) Fl.nil) rfl ?_
   intro b19 w4 H
   replace H := H.freeze (i := 0) rfl
   replace H := H.add (show aH _ (kE (.slice (some ⟨b19, 0, none⟩) 1 1) [(⟨l[i].sk, l[i].k, l[i].sv, l[i].v, false⟩ : Up)]) _ from (H.bJ 0 rfl).imp fun _ h => (cO.cA (n := 1) h rfl : cO _ (.slice (some ⟨b19, 0, none⟩) 1 1) 3 1 _))
   replace H := H.add (show aH _ (dV [(⟨l[i].sk, l[i].k, l[i].sv, l[i].v, false⟩ : Up)]) _ from (by exact (H.bJ 3 rfl : aH _ (lN l) _).imp fun _ h => (show dV _ _ from fun u hu => by rw [List.mem_singleton.1 hu]; exact ⟨(h _ (List.getElem_mem hlt)).1, (h _ (List.getElem_mem hlt)).2.1⟩)))
   refine WL.call aGm rfl (L6 (s := (.slice (some ⟨b19, 0, none⟩) 1 1)) (l := [(⟨l[i].sk, l[i].k, l[i].sv, l[i].v, false⟩ : Up)]) H.aR (by exact (H.bJ 1 rfl : aH _ (kE (.slice (some ⟨b19, 0, none⟩) 1 1) [(⟨l[i].sk, l[i].k, l[i].sv, l[i].v, false⟩ : Up)]) _)) (by exact (H.bJ 0 rfl : aH _ (dV [(⟨l[i].sk, l[i].k, l[i].sv, l[i].v, false⟩ : Up)]) _)) (by simp) (fun u hu => by rw [List.mem_singleton.1 hu]; exact ⟨wR.1, wR.2.1⟩)) ?_
   rintro _ w5 ⟨bf1, rfl, hF1, hO⟩
   replace H := H.out hO
   refine WL.pv (PV.not rfl rfl) rfl (WL.mv rfl rfl ?_)
   refine WL.split (t := 22) rfl (fun tG => ?_) (fun tG => ?_)
   ·
    refine WL.known (t := 21) (c := true) rfl tG ?_
    try simp only [bP] at tG
    refine WL.off rfl (WL.off rfl (WL.off rfl (WL.off rfl (WL.pv (PV.c5 rfl rfl rfl) rfl (WL.nil (WE.kZ rfl (WE.aA ?_)))))))
    refine WL.as rfl rfl (WL.nil (WE.ret ⟨[_], _, .nil _, ⟨rfl, trivial⟩, ?_⟩))
    exact ⟨0, rfl, (fun h => absurd rfl h), H.aL⟩
   ·
    refine WL.known (t := 21) (c := false) rfl tG ?_
    try simp only [bP] at tG
    have aJD := hF1 (by exact tG)
    refine WL.pv (PV.fieldAddr rfl u0 rfl) rfl (WL.aX rfl PD rfl rfl (aN.aF (H.l 0 rfl) (aK.tl (aK.tl (aK.tl aK.hd rfl) rfl) rfl) rfl) ?_)
    refine WL.call aGm rfl (L6 (s := l[i].sb) (l := l[i].b) H.aR (by exact (H.bJ 4 rfl : aH _ (lN l) _).imp fun _ h => (h _ (List.getElem_mem hlt)).2.2.1) (by exact (H.bJ 4 rfl : aH _ (lN l) _).imp fun _ h => (h _ (List.getElem_mem hlt)).2.2.2) wR.2.2.1 wR.2.2.2) ?_
    rintro _ w6 ⟨bf2, rfl, hF2, hO⟩
    replace H := H.out hO
    refine WL.pv (PV.not rfl rfl) rfl (WL.pv (PV.cF rfl rfl rfl) rfl (WL.nil ?_))
    refine WE.cond rfl (fun ZI => ?_) (fun ZI => ?_)
    ·
     try simp only [bP] at ZI
     refine WE.aA (WL.as rfl rfl (WL.nil (WE.ret ⟨[_], _, .nil _, ⟨rfl, trivial⟩, ?_⟩)))
     exact ⟨0, rfl, (fun h => absurd rfl h), H.aL⟩
    ·
     try simp only [bP] at ZI
     have aJC := hF2 (by exact ZI)
     have HR := aJD.2 _ (List.mem_singleton.2 rfl)
     refine WE.skip (WE.dW (WL.pv (PV.eq (v' := .int .i64 ((i + 1 : Nat) : Int)) (PV.bV rfl rfl rfl (by omega) (by omega)) rfl) rfl (WL.mv rfl rfl (WL.nil ?_))))
     replace H := H.forget 0
     exact ⟨i + 1, (by repeat (first | with_reducible exact bK.refl _ _ | refine bK.dG rfl ?_ | refine bK.bZ rfl ?_ | refine bK.bX rfl ?_)), ⟨rfl, trivial⟩, rfl, ⟨⟨by omega, fun j hj hji => by rcases Nat.lt_or_ge j i with h_ | h_; exact hall j hj h_; (have e_ : j = i := by omega); subst e_; exact ⟨HR.1, HR.2, aJC⟩⟩, (by exact H.rS [3, 4])⟩, (by omega)⟩
  ·
   try simp only [bP] at j3
   have vR : i = l.length := by omega
   refine WE.exit (WE.aA (WL.as rfl rfl (WL.nil (WE.ret ⟨[_], _, .nil _, ⟨rfl, trivial⟩, ?_⟩))))
   exact ⟨1, rfl, (fun _ => ⟨aFk, fun o ho => by obtain ⟨j, hj, rfl⟩ := List.getElem_of_mem ho; exact hall j hj (by omega)⟩), H.aL⟩
theorem ML {X : Nat → Prop} {w : World} {s : Value} {l : List Up} (hX : c6 X w) (bT : aH X (kE s l) w) (dJ : aH X (dV l) w) (hlen : l.length ≤ 1000000) (LS : ∀ u ∈ l, u.k.length ≤ 9223372036854775807 ∧ u.v.length ≤ 9223372036854775807) :
  bC prog 22 [s].toArray w fun v w' => v = .tuple [.int .i64 (((jR l).1 : Nat) : Int), .int .i64 (jR l).2].toArray ∧ Out Nil w w' := by
 refine bC.aI (N := 52) func22 rfl rfl (by simp) ?_
 have H := ((St.begin hX).add (cE dJ)).add (cE bT)
 refine WE.aA (WL.as rfl rfl (WL.as rfl rfl (WL.nil (WE.seq (WE.aA (WL.as rfl rfl (WL.nil ?_)))))))
 refine WE.block ?_
 refine WE.loop (α := Nat) (rg [(2, 50)]) (fun i => [(4, .int .i64 (i : Int))]) (fun i wl => (i ≤ l.length ∧ yY i (l.take i) (l.drop i) = jR l) ∧ St X w wl [] [] [kE s l, dV l]) (fun i => l.length - i) 0 ⟨rfl, trivial⟩ ⟨⟨Nat.zero_le _, by rw [List.take_zero, List.drop_zero]; rfl⟩, H⟩ ?_
 intro i γ0 w1 hI
 try dsimp only at hI
 obtain ⟨⟨hi, rA⟩, H⟩ := hI
 refine WE.seq (WE.aA (WL.mv rfl rfl (WL.mv rfl rfl ?_)))
 refine WL.pv (PV.dS (by exact (H.p 0 rfl : (kE s l) _)) oY rfl) rfl ?_
 refine WL.pv (PV.lss rfl rfl rfl) rfl (WL.nil ?_)
 refine WE.cond rfl (fun j3 => ?_) (fun j3 => ?_)
 ·
  try simp only [bP] at j3
  have hlt : i < l.length := by omega
  have hvi := LS _ (List.getElem_mem hlt)
  have FI := BW l (l.length - i) i (by omega)
  rw [dif_pos hlt] at FI
  rw [FI] at rA
  refine WE.skip (WE.seq (WE.block (WE.aA (WL.mv rfl rfl (WL.mv rfl rfl ?_)))))
  refine WL.pv (PV.dX rfl (by exact (H.p 0 rfl : (kE s l) _)) oY mJ rfl rfl (by omega) (by omega)) rfl ?_
  refine WL.pv (PV.dF rfl qW rfl) rfl ?_
  refine WL.aX rfl eH rfl rfl ((XJ (kE.rd (by exact (H.p 0 rfl : (kE s l) _)) i hlt))) ?_
  refine WL.as rfl rfl (WL.nil ?_)
  refine WE.cut (α := Value) (rg [(5, 1), (19, 5)]) (fun oJ => [(5, oJ)]) (fun oJ wl => St X w wl [] [] [bL oJ l[i].uv, kE s l, dV l]) ?_ ?_
  ·
   refine WE.aA (WL.mv rfl rfl (WL.mv rfl rfl ?_))
   refine WL.pv (PV.dX rfl (by exact (H.p 0 rfl : (kE s l) _)) oY mJ rfl rfl (by omega) (by omega)) rfl ?_
   refine WL.pv (PV.dF rfl wY rfl) rfl ?_
   refine WL.aX rfl vE rfl rfl ((aEd (kE.rd (by exact (H.p 0 rfl : (kE s l) _)) i hlt))) ?_
   refine WL.nil ?_
   refine WE.cond rfl (fun kX => ?_) (fun kX => ?_)
   ·
    try simp only [bP] at kX
    have hd : l[i].d = true := (by exact kX)
    have huv : l[i].uv = [] := if_pos hd
    refine WE.dW (WL.as rfl rfl (WL.nil ?_))
    exact ⟨(.slice none 0 0), (by repeat (first | with_reducible exact bK.refl _ _ | refine bK.dG rfl ?_)), ⟨rfl, trivial⟩, rfl, H.add (show aH _ (bL (.slice none 0 0) l[i].uv) _ from fun w_ _ => by rw [huv]; exact bL.nil w_)⟩
   ·
    try simp only [bP] at kX
    have hd : l[i].d = false := (by exact kX)
    have huv : l[i].uv = l[i].v := if_neg (by rw [hd]; decide)
    refine WE.skip ?_
    exact ⟨l[i].sv, (by repeat (first | with_reducible exact bK.refl _ _ | refine bK.dG rfl ?_)), ⟨rfl, trivial⟩, rfl, H.add (show aH _ (bL l[i].sv l[i].uv) _ from ((by exact (H.bJ 1 rfl : aH _ (dV l) _)) : aH _ (dV l) _).imp fun _ h => by rw [huv]; exact h.v hlt)⟩
  ·
   intro oJ γ w2 hI
   try dsimp only at hI
   replace H := hI
   refine WE.aA (WL.mv rfl rfl (WL.mv rfl rfl ?_))
   refine WL.pv (PV.dX rfl (by exact (H.p 1 rfl : (kE s l) _)) oY mJ rfl rfl (by omega) (by omega)) rfl ?_
   refine WL.pv (PV.dF rfl qX rfl) rfl ?_
   refine WL.aX rfl eH rfl rfl ((QN (kE.rd (by exact (H.p 1 rfl : (kE s l) _)) i hlt))) ?_
   refine WL.mv rfl rfl ?_
   refine WL.call Z3 rfl (o8 (lb := l[i].k) (vv := l[i].uv) H.aR (show aH _ (bL l[i].sk l[i].k) _ from ((by exact (H.bJ 2 rfl : aH _ (dV l) _)) : aH _ (dV l) _).imp fun _ h => h.k hlt) (by exact (H.bJ 0 rfl : aH _ (bL oJ l[i].uv) _))) ?_
   rintro _ w3 ⟨rfl, hO⟩
   replace H := H.out hO
   refine WL.as rfl rfl (WL.nil (WE.seq (WE.aA (WL.mv rfl rfl (WL.pv (PV.neq rfl rfl rfl) rfl (WL.nil ?_))))))
   refine WE.cond rfl (fun TM => ?_) (fun TM => ?_)
   ·
    try simp only [bP] at TM
    have hr : bW l[i].k l[i].uv ≠ 0 := (by exact TM)
    have tJ : mR (l.take i) l[i] = bW l[i].k l[i].uv := if_pos hr
    rw [if_pos (by rw [tJ]; exact hr), tJ] at rA
    refine WE.aA (WL.mv rfl rfl (WL.mv rfl rfl (WL.as rfl rfl (WL.as rfl rfl (WL.nil (WE.ret ⟨[_, _], _, .nil _, ⟨rfl, rfl, trivial⟩, ?_⟩))))))
    refine ⟨?_, H.aL⟩
    show Value.tuple [.int .i64 ((i : Nat) : Int), .int .i64 (bW l[i].k l[i].uv)].toArray = _
    rw [← rA]
   ·
    try simp only [bP] at TM
    have hr : bW l[i].k l[i].uv = 0 := (by exact TM)
    refine WE.skip (WE.aA (WL.as rfl rfl (WL.nil (WE.block ?_))))
    refine WE.loop (α := Nat) (rg [(2, 2), (7, 1), (35, 17)]) (fun j => [(7, .int .i64 (j : Int))]) (fun j wl => (j ≤ i ∧ ∀ q (h : q < l.length), q < j → ¬ l[i].k = l[q].k) ∧ St X w wl [] [] [bL oJ l[i].uv, kE s l, dV l]) (fun j => i - j) 0 ⟨rfl, trivial⟩ ⟨⟨Nat.zero_le _, fun q _ h => absurd h (Nat.not_lt_zero _)⟩, H⟩ ?_
    intro j γ1 w4 hI
    try dsimp only at hI
    obtain ⟨⟨hj, LW⟩, H⟩ := hI
    refine WE.seq (WE.aA (WL.mv rfl rfl (WL.mv rfl rfl (WL.pv (PV.lss rfl rfl rfl) rfl (WL.nil ?_)))))
    refine WE.cond rfl (fun JM => ?_) (fun JM => ?_)
    ·
     try simp only [bP] at JM
     have aCN : j < i := by omega
     refine WE.skip (WE.seq (WE.block ?_))
     refine WE.bG (.take 0 (.take 1 (.take 2 (.take 3 (.take 4 (.take 5 (.take 6 (.take 7 (.take 8 (.take 9 (.aG 10 .done))))))))))) mixed (by kernel_rfl) ?_
     replace H := H.out (Out.drew _)
     refine WP.mv rfl rfl rfl (WP.mv rfl rfl rfl ?_)
     refine WP.aC rfl rfl (PV.dX rfl (by exact (H.p 1 rfl : (kE s l) _)) oY mJ rfl rfl (by omega) (by omega)) ?_
     refine WP.aC rfl rfl (PV.dF rfl qX rfl) ?_
     refine WP.aM rfl rfl (RV.aV rfl eH rfl) ((QN (kE.rd (by exact (H.p 1 rfl : (kE s l) _)) i hlt))) ?_
     refine WP.mv rfl rfl rfl (WP.mv rfl rfl rfl ?_)
     refine WP.aC rfl rfl (PV.dX rfl (by exact (H.p 1 rfl : (kE s l) _)) oY mJ rfl rfl (by omega) (by omega)) ?_
     refine WP.aC rfl rfl (PV.dF rfl qX rfl) ?_
     refine WP.aM rfl rfl (RV.aV rfl eH rfl) ((QN (kE.rd (by exact (H.p 1 rfl : (kE s l) _)) j (by omega)))) ?_
     refine WP.aG rfl ?_
     refine WL.call aDd rfl (KF (la := l[i].k) (lb := l[j].k) H.aR (show aH _ (bL l[i].sk l[i].k) _ from ((by exact (H.bJ 2 rfl : aH _ (dV l) _)) : aH _ (dV l) _).imp fun _ h => h.k hlt) (show aH _ (bL l[j].sk l[j].k) _ from ((by exact (H.bJ 2 rfl : aH _ (dV l) _)) : aH _ (dV l) _).imp fun _ h => h.k (by omega)) hvi.1) ?_
     rintro _ w5 ⟨rfl, hO⟩
     replace H := H.out hO
     refine WL.nil ⟨(fa (nw 10 9) (fa (nw 10 4) c8)), ?_⟩
     refine WP.done ?_
     refine WE.cond rfl (fun nN => ?_) (fun nN => ?_)
     ·
      try simp only [bP] at nN
      have hsame : l[i].k = l[j].k := (by exact nN)
      have tJ : mR (l.take i) l[i] = 9 := by unfold mR; rw [if_neg (by simp [hr]), if_pos ⟨l[j], List.mem_take_iff_getElem.2 ⟨j, by omega, rfl⟩, hsame.symm⟩]
      rw [if_pos (by rw [tJ]; decide), tJ] at rA
      refine WE.aA (WL.mv rfl rfl (WL.as rfl rfl (WL.as rfl rfl (WL.nil (WE.ret ⟨[_, _], _, .nil _, ⟨rfl, rfl, trivial⟩, ?_⟩)))))
      refine ⟨?_, H.aL⟩
      show Value.tuple [.int .i64 ((i : Nat) : Int), .int .i64 9].toArray = _
      rw [← rA]
     ·
      try simp only [bP] at nN
      have aFA : ¬ l[i].k = l[j].k := (by exact nN)
      refine WE.skip (WE.dW (WL.mv rfl rfl (WL.pv (PV.eq (v' := .int .i64 ((j + 1 : Nat) : Int)) (PV.bV rfl rfl rfl (by omega) (by omega)) rfl) rfl (WL.as rfl rfl (WL.nil ?_)))))
      exact ⟨j + 1, (by repeat (first | with_reducible exact bK.refl _ _ | refine bK.dG rfl ?_ | refine bK.bZ rfl ?_ | refine bK.bX rfl ?_)), ⟨rfl, trivial⟩, rfl, ⟨⟨by omega, fun q hq hqj => by rcases Nat.lt_or_ge q j with h_ | h_; exact LW q hq h_; (have e_ : q = j := by omega); subst e_; exact aFA⟩, H⟩, (by omega)⟩
    ·
     try simp only [bP] at JM
     have hji : j = i := by omega
     refine WE.exit (WE.dW (WL.mv rfl rfl (WL.pv (PV.eq (v' := .int .i64 ((i + 1 : Nat) : Int)) (PV.bV rfl rfl rfl (by omega) (by omega)) rfl) rfl (WL.as rfl rfl (WL.nil ?_)))))
     subst hji
     have tJ : mR (l.take j) l[j] = 0 := vA.2 ⟨hr, fun x hx => by obtain ⟨q, hq, hqj, rfl⟩ := NY hx; exact fun e_ => LW q hq hqj e_.symm⟩
     rw [if_neg (by simp [tJ])] at rA
     exact ⟨j + 1, (by repeat (first | with_reducible exact bK.refl _ _ | refine bK.dG rfl ?_ | refine bK.bZ rfl ?_ | refine bK.bX rfl ?_)), ⟨rfl, trivial⟩, rfl, ⟨⟨by omega, rA⟩, H.rS [1, 2]⟩, (by omega)⟩
 ·
  try simp only [bP] at j3
  have vR : l.drop i = [] := List.drop_eq_nil_of_le (by omega)
  rw [vR] at rA
  have aCU : jR l = (0, 0) := rA.symm
  refine WE.exit (WE.aA (WL.as rfl rfl (WL.as rfl rfl (WL.nil (WE.ret ⟨[_, _], _, .nil _, ⟨rfl, rfl, trivial⟩, ?_⟩)))))
  refine ⟨?_, H.aL⟩
  rw [aCU]; rfl
theorem aAk {X : Nat → Prop} {w : World} {s2 s : Value} {m : List En} {l : List Up} (hX : c6 X w) (bT : aH X (fF s2 m) w) (dJ : aH X (kE s l) w) (fQ : aH X (dV l) w) (hm : e9 1000 m) (FJ : qO m) (hg : oR l) (hlen : l.length ≤ 1000) :
  bC prog 48 [s2, s].toArray w fun v w' => Out Nil w w' ∧ aH X (fF v (uD m l) ) w' := by
 refine bC.aI (N := 36) func48 rfl rfl (by simp) ?_
 have H := (((St.begin hX).add (cE fQ)).add (cE dJ)).add (cE bT)
 have aJg : ∀ u ∈ l, u.sv.oneCell' = true := fun u hu => cO.fW ((fQ.here) u hu).2
 refine WE.aA (WL.as rfl rfl (WL.nil (WE.seq (WE.aA (WL.as rfl rfl (WL.nil (WE.block ?_)))))))
 refine WE.loop (α := Nat × Value) (rg [(0, 1), (5, 30)]) (fun p => [(5, .int .i64 (p.1 : Int)), (0, p.2)]) (fun p wl => (p.1 ≤ l.length ∧ qO (uD m (l.take p.1))) ∧ St X w wl [] [] [fF p.2 (uD m (l.take p.1)), kE s l, dV l]) (fun p => l.length - p.1) (0, s2) ⟨rfl, rfl, trivial⟩ ⟨⟨Nat.zero_le _, FJ⟩, H⟩ ?_
 intro ⟨i, v_⟩ γ0 w1 hI
 try dsimp only at hI
 obtain ⟨⟨hi, hoo⟩, H⟩ := hI
 try dsimp only at hi hoo
 refine WE.seq (WE.aA (WL.mv rfl rfl (WL.mv rfl rfl ?_)))
 refine WL.pv (PV.dS (by exact (H.p 1 rfl : (kE s l) _)) oY rfl) rfl ?_
 refine WL.pv (PV.lss rfl rfl rfl) rfl (WL.nil ?_)
 refine WE.cond rfl (fun kD => ?_) (fun kD => ?_)
 ·
  try simp only [bP] at kD
  have hlt : i < l.length := by omega
  have hgi := dN.1 (hg.1 _ (List.getElem_mem hlt))
  have hki := hgi.1
  have hmi := e9.dG (l.take i) hm (fun u hu => hg.1 u (List.mem_of_mem_take hu))
  have zQ := hmi.l
  have htl : (l.take i).length ≤ l.length := by rw [List.length_take]; omega
  have DY := QP (m := m) hlt
  refine WE.skip ?_
  refine WE.cut (α := Value) (rg [(0, 1), (6, 1), (13, 22)]) (fun oJ => [(0, oJ)]) (fun oJ wl => qO (uD m (l.take (i + 1))) ∧ St X w wl [] [] [fF oJ (uD m (l.take (i + 1))), kE s l, dV l]) ?_ ?_
  ·
   refine WE.block (WE.aA (WL.mv rfl rfl (WL.mv rfl rfl ?_)))
   refine WL.pv (PV.dX rfl (by exact (H.p 1 rfl : (kE s l) _)) oY mJ rfl rfl (by omega) (by omega)) rfl ?_
   refine WL.pv (PV.dF rfl qX rfl) rfl ?_
   refine WL.aX rfl eH rfl rfl ((QN (kE.rd (by exact (H.p 1 rfl : (kE s l) _)) i hlt))) ?_
   refine WL.call T5 rfl (sW (lb := l[i].k) H.aR (show aH _ (bL l[i].sk l[i].k) _ from ((by exact (H.bJ 2 rfl : aH _ (dV l) _)) : aH _ (dV l) _).imp fun _ h => h.k hlt) hki) ?_
   rintro _ w2 ⟨rfl, hO⟩
   replace H := H.out hO
   refine WL.alloc H rfl q7 rfl ?_
   intro b6 w3 H
   refine WL.aW H 0 rfl rfl rfl (new := kc l[i].k) rfl (cI cM (by simp only [aS]; omega)) (bH _) (Laid.at (Laid.all (by simp only [aS]; omega)) rfl) rfl ?_
   intro w4 H
   refine WL.nil (WE.aA (WL.mv rfl rfl (WL.mv rfl rfl ?_)))
   refine WL.pv (PV.dX rfl (by exact (H.p 1 rfl : (kE s l) _)) oY mJ rfl rfl (by omega) (by omega)) rfl ?_
   refine WL.pv (PV.dF rfl wY rfl) rfl ?_
   refine WL.aX rfl vE rfl rfl ((aEd (kE.rd (by exact (H.p 1 rfl : (kE s l) _)) i hlt))) ?_
   refine WL.nil ?_
   refine WE.cond rfl (fun kX => ?_) (fun kX => ?_)
   ·
    try simp only [bP] at kX
    have hd : l[i].d = true := (by exact kX)
    have hau : VH (uD m (l.take i)) l[i] = fJ (uD m (l.take i)) l[i].k := if_pos hd
    refine WE.dW (WL.mv rfl rfl ?_)
    refine WL.bE rfl c7 rfl rfl (aN.aF (H.l 0 rfl) (aK.all _) rfl) (cI cM (by simp only [aS]; omega)) ?_
    refine WL.call aDc rfl (zI (m := (uD m (l.take i))) (q := l[i].k) H.aR (by exact (H.bJ 0 rfl : aH _ (fF v_ (uD m (l.take i))) _)) hmi.k hoo (by omega) hki) ?_
    rintro v26 w5 ⟨hO, hR⟩
    replace H := (H.out hO).add hR
    refine WL.as rfl rfl (WL.nil ?_)
    replace H := H.forget 0
    exact ⟨v26, (by repeat (first | with_reducible exact bK.refl _ _ | refine bK.dG rfl ?_)), ⟨rfl, trivial⟩, rfl, ⟨by rw [DY, hau]; exact fun e he => hoo e (jK.1 he).1, show St X w _ [] [] _ by rw [DY, hau]; exact H.rS [0, 2, 3]⟩⟩
   ·
    try simp only [bP] at kX
    have hd : l[i].d = false := (by exact kX)
    have hau : VH (uD m (l.take i)) l[i] = iC (uD m (l.take i)) ⟨l[i].k, l[i].sv, l[i].v⟩ := if_neg (by rw [hd]; decide)
    refine WE.draw (.take 0 (.take 1 (.take 2 (.take 3 (.take 4 (.take 5 (.take 6 (.aG 7 (.take 8 .done))))))))) mixed (by kernel_rfl) ?_
    replace H := H.out (Out.drew _)
    refine WP.mv rfl rfl rfl ?_
    refine WP.dO rfl rfl rfl c7 rfl (aN.aF (H.l 0 rfl) (aK.all _) rfl) (cI cM (by simp only [aS]; omega)) ?_
    refine WP.mv rfl rfl rfl (WP.mv rfl rfl rfl ?_)
    refine WP.aC rfl rfl (PV.dX rfl (by exact (H.p 1 rfl : (kE s l) _)) oY mJ rfl rfl (by omega) (by omega)) ?_
    refine WP.aC rfl rfl (PV.dF rfl qW rfl) ?_
    refine WP.aM rfl rfl (RV.aV rfl eH rfl) ((XJ (kE.rd (by exact (H.p 1 rfl : (kE s l) _)) i hlt))) ?_
    refine WP.aG rfl ?_
    refine WL.call aGl rfl (aBV (m := (uD m (l.take i))) (q := l[i].k) (vv := l[i].v) H.aR (by exact (H.bJ 0 rfl : aH _ (fF v_ (uD m (l.take i))) _)) (show aH _ (bL l[i].sv l[i].v) _ from ((by exact (H.bJ 2 rfl : aH _ (dV l) _)) : aH _ (dV l) _).imp fun _ h => h.v hlt) hmi.k hoo (by omega) hki) ?_
    rintro v34 w6 ⟨hO, hR⟩
    replace H := (H.out hO).add hR
    refine WL.nil ⟨(fa (nw 7 6) (fa (nw 7 1) c8)), ?_⟩
    refine WP.as rfl rfl rfl (WP.done ?_)
    replace H := H.forget 0
    exact ⟨v34, (by repeat (first | with_reducible exact bK.refl _ _ | refine bK.dG rfl ?_)), ⟨rfl, trivial⟩, rfl, ⟨by rw [DY, hau]; exact fun e he => by rcases oE.1 he with rfl | he; exact aJg _ (List.getElem_mem hlt); exact hoo e he.1, show St X w _ [] [] _ by rw [DY, hau]; exact H.rS [0, 2, 3]⟩⟩
  ·
   intro oJ γ w7 hI
   try dsimp only at hI
   obtain ⟨aJf, H⟩ := hI
   refine WE.dW (WL.mv rfl rfl (WL.pv (PV.eq (v' := .int .i64 ((i + 1 : Nat) : Int)) (PV.bV rfl rfl rfl (by omega) (by omega)) rfl) rfl (WL.as rfl rfl (WL.nil ?_))))
   exact ⟨(i + 1, oJ), (by repeat (first | with_reducible exact bK.refl _ _ | refine bK.dG rfl ?_ | refine bK.bZ rfl ?_ | refine bK.bX rfl ?_)), ⟨rfl, rfl, trivial⟩, rfl, ⟨⟨by dsimp only; omega, aJf⟩, H⟩, (by dsimp only; omega)⟩
 ·
  try simp only [bP] at kD
  have vR : l.take i = l := List.take_of_length_le (by omega)
  refine WE.exit (WE.aA (WL.mv rfl rfl (WL.as rfl rfl (WL.nil (WE.ret ⟨[_], _, .nil _, ⟨rfl, trivial⟩, ?_⟩)))))
  rw [vR] at H
  exact ⟨H.aL, H.fX (H.bJ 0 rfl)⟩
theorem yZ {X : Nat → Prop} {w : World} {a b : Value} {la lb : List UInt8} (hX : c6 X w) (bT : aH X (bL a la) w) (dJ : aH X (bL b lb) w) :
  bC prog 143 [a, b].toArray w fun v w' => v = .int .i64 (Lib.compareBytes la lb) ∧ w' = w := by
 refine bC.aI (N := 8) func143 rfl rfl (by simp) ?_
 have H := ((St.begin hX).add (cE dJ)).add (cE bT)
 refine WE.aA (WL.as rfl rfl (WL.nil (WE.aA (WL.mv rfl rfl (WL.mv rfl rfl ?_)))))
 refine WL.extern (e := Extern.BytealgCompare.compare) (v := .int .i64 (Lib.compareBytes la lb)) func184 (by kernel_rfl) (by kernel_rfl) (by kernel_rfl) (by kernel_rfl) rfl (sS (H.p 0 rfl) (H.p 1 rfl)) ?_
 refine WL.as rfl rfl (WL.nil (WE.ret ⟨[_], _, .nil _, ⟨rfl, trivial⟩, ?_⟩))
 exact ⟨rfl, rfl⟩
section
variable {r : Option Nat} {P : Program} {N : Nat} {σ : Env} {ds : List Deferred} {w : World} {ops : Array Oper} {o : Oper} {rest : List Oper} {K : Env → List Deferred → World → Prop}
theorem WL.aAf {t : TypeId} {x : Operand} {l : List Value} (h : o.op = .box t x) (hx : (ev σ x).cells = l.toArray) (hw : cK ops σ o = true)
  (k : WL r P N ops rest K (dG N σ o.dst (.pointer (some ⟨w.heap.size, 0, none⟩))) ds (w.alloc (.cells l.toArray t))) : WL r P N ops (o :: rest) K σ ds w :=
 WL.val (v := .pointer (some ⟨w.heap.size, 0, none⟩)) (w' := w.alloc (.cells l.toArray t)) hw (by unfold eY; rw [h]) (by
  obtain ⟨v, hv⟩ : ∃ v, v = ev σ x := ⟨_, rfl⟩
  rw [← hv] at hx
  simp [execOp, h, Instr.box, ← hv, rT (t := t) hx w]) k
theorem GO {w : World} {b : Nat} {t : TypeId} {l : List Value} (h : aN w b t l) : aH Nil (fun w => aN w b t l) w := fun w' hw => h.of_eq (hw b h.lt id)
end
theorem AE {X : Nat → Prop} {w : World} {k l : List UInt8} (hX : c6 X w) (hk : k.length = 32) (hl : l.length = 32) :
  bC prog 94 [.agg (kc k).toArray, .agg (kc l).toArray].toArray w fun v w' => v = .int .i64 (iM k l) ∧ ∃ q os, w' = Go.Sort.grow (w.drewN q) os := by
 refine bC.aI (N := 8) func94 rfl rfl (by simp) ?_
 have H := St.begin hX
 refine WE.aA ?_
 refine WL.aAf (l := kc k) rfl rfl rfl ?_
 refine WL.aAf (l := kc l) rfl rfl rfl ?_
 refine WL.as rfl rfl (WL.nil ?_)
 refine WE.bG (.take 0 (.take 1 (.aG 2 (.take 3 .done)))) mixed (by kernel_rfl) ?_
 replace H := H.out (Out.drew _)
 have uX : aN ((w.alloc (.cells (kc k).toArray 24)).alloc (.cells (kc l).toArray 24)).drew w.heap.size 24 (kc k) := (Below.heap_alloc _ _ _ (by simp)).trans (World.alloc_heap_new w _)
 have qS : aN ((w.alloc (.cells (kc k).toArray 24)).alloc (.cells (kc l).toArray 24)).drew (w.heap.size + 1) 24 (kc l) := by have h_ := World.alloc_heap_new (w.alloc (.cells (kc k).toArray 24)) (.cells (kc l).toArray 24); rw [World.size_alloc] at h_; exact h_
 refine WP.aC rfl rfl (PV.iH rfl gW (by rw [gO]; rfl) rfl) ?_
 refine WP.aC rfl rfl (PV.iH rfl gW (by rw [gO]; rfl) rfl) ?_
 refine WP.aG rfl ?_
 refine WL.call aBD rfl (yZ (X := Nil) (la := k) (lb := l) (oD _) ((GO uX).imp fun _ h => bL.cA h hk) ((GO qS).imp fun _ h => (by rw [World.size_alloc]; exact bL.cA h hl))) ?_
 rintro _ w3 ⟨rfl, rfl⟩
 rw [k3 k l (by rw [hk, hl])]
 refine WL.nil ⟨c8, ?_⟩
 refine WP.as rfl rfl rfl (WP.done (WE.ret ⟨[_], _, .nil _, ⟨rfl, trivial⟩, ?_⟩))
 exact ⟨rfl, 1, #[.cells (kc k).toArray 24, .cells (kc l).toArray 24], by rw [Go.Sort.alloc_eq_grow, Go.Sort.alloc_eq_grow, Go.Sort.grow_grow]; rfl⟩
theorem aDo {X : Nat → Prop} {w : World} {c d : Ch} (hX : c6 X w) (hc : c.k.length = 32) (hd : d.k.length = 32) :
  bC prog 93 [.agg (eL c).toArray, .agg (eL d).toArray].toArray w fun v w' => v = .int .i64 (iM c.k d.k) ∧ ∃ q os, w' = Go.Sort.grow (w.drewN q) os := by
 refine bC.aI (N := 10) func93 rfl rfl (by simp) ?_
 have H := St.begin hX
 refine WE.aA ?_
 refine WL.aAf (l := eL c) rfl rfl rfl ?_
 refine WL.aAf (l := eL d) rfl rfl rfl ?_
 refine WL.as rfl rfl (WL.nil (WE.aA ?_))
 have uX : aN ((w.alloc (.cells (eL c).toArray 127)).alloc (.cells (eL d).toArray 127)) w.heap.size 127 (eL c) := (Below.heap_alloc _ _ _ (by simp)).trans (World.alloc_heap_new w _)
 have qS : aN ((w.alloc (.cells (eL c).toArray 127)).alloc (.cells (eL d).toArray 127)) (w.heap.size + 1) 127 (eL d) := (by have h_ := World.alloc_heap_new (w.alloc (.cells (eL c).toArray 127)) (.cells (eL d).toArray 127); rw [World.size_alloc] at h_; exact h_)
 have LY : dD ((w.alloc (.cells (eL c).toArray 127)).alloc (.cells (eL d).toArray 127)) ⟨w.heap.size, 0 + 0, none⟩ (kc c.k) := aN.aF uX (o := 0) ⟨[], [c.s, .bool c.d], by simp [eL], rfl⟩ rfl
 have HU : dD ((w.alloc (.cells (eL c).toArray 127)).alloc (.cells (eL d).toArray 127)) ⟨(w.alloc (.cells (eL c).toArray 127)).heap.size, 0 + 0, none⟩ (kc d.k) := by rw [World.size_alloc]; exact aN.aF qS (o := 0) ⟨[], [d.s, .bool d.d], by simp [eL], rfl⟩ rfl
 refine WL.pv (PV.fieldAddr rfl qV rfl) rfl ?_
 refine WL.bE rfl c7 rfl rfl (LY) (cI cM (by simp only [aS, aY, aB]; omega)) ?_
 refine WL.pv (PV.fieldAddr rfl qV rfl) rfl ?_
 refine WL.bE rfl c7 rfl rfl (HU) (cI cM (by simp only [aS, aY, aB]; omega)) ?_
 refine WL.call aC6 rfl (AE (X := Nil) (k := c.k) (l := d.k) (oD _) hc hd) ?_
 rintro _ w3 ⟨rfl, q, os, hw⟩
 refine WL.as rfl rfl (WL.nil (WE.ret ⟨[_], _, .nil _, ⟨rfl, trivial⟩, ?_⟩))
 refine ⟨rfl, q, (#[.cells (eL c).toArray 127] ++ #[.cells (eL d).toArray 127]) ++ os, ?_⟩
 rw [hw, Go.Sort.alloc_eq_grow, Go.Sort.alloc_eq_grow, Go.Sort.grow_grow]
 exact Go.Sort.grow_grow (w.drewN q) _ os
open Go.Sort Go.Lib
abbrev W9 := { c : Ch // c.k.length = 32 ∧ c.s.oneCell' = true }
instance : Inhabited W9 := ⟨⟨⟨List.replicate 32 0, .slice none 0 0, [], false⟩, by simp, rfl⟩⟩
def mW (x : W9) : List Value := eL x.1
def cfX (x y : W9) : Int := iM x.1.k y.1.k
theorem GA (x : W9) : (mW x).length = 34 := jN x.2.1
theorem LM (x y : W9) : ltOf cfX x y = decide (num x.1.k < num y.1.k) := by
 unfold ltOf cfX
 by_cases h : num x.1.k < num y.1.k
 ·
  rw [decide_eq_true (mP.2 h), decide_eq_true h]
 ·
  rw [decide_eq_false (fun h2 => h (mP.1 h2)), decide_eq_false h]
theorem aIG : Go.Sort.SWO (ltOf cfX) where
 irrefl x := by rw [LM]; simp
 trans x y z h1 h2 := by rw [LM] at *; simp at *; omega
 ntrans x y z h1 h2 := by rw [LM] at *; simp at *; omega
def KW : (l : List Ch) → (∀ c ∈ l, c.k.length = 32 ∧ c.s.oneCell' = true) → List W9
 | [], _ => []
 | c :: l, h => ⟨c, h c (by simp)⟩ :: KW l (fun x hx => h x (List.mem_cons_of_mem _ hx))
theorem uA : ∀ (l : List Ch) (h : ∀ c ∈ l, c.k.length = 32 ∧ c.s.oneCell' = true), (KW l h).map (·.1) = l
 | [], _ => rfl
 | c :: l, h => congrArg (c :: ·) (uA l fun x hx => h x (List.mem_cons_of_mem _ hx))
theorem M7 (l : List Ch) (h : ∀ c ∈ l, c.k.length = 32 ∧ c.s.oneCell' = true) : (KW l h).length = l.length := by
 have := congrArg List.length (uA l h)
 simpa using this
theorem QE (d : List W9) : XL (d.map (·.1)) := fun c hc => by obtain ⟨x, _, rfl⟩ := List.mem_map.1 hc; exact x.2.1
theorem BH (d : Array W9) (j : Nat) (hj : j < d.size * 34) : some ((flatK mW 34 d)[j]!) = ((d.toList.map (·.1)).flatMap eL)[j]? := by
 have h1 : j / 34 < d.size := by omega
 have h2 : (d.toList.map (·.1)).length = d.size := by simp
 have h3 := tM (d.toList.map (·.1)) (QE d.toList).len (j / 34) (by rw [h2]; exact h1)
 have h4 : ((d.toList.map (·.1)).flatMap eL)[j]? = (eL (d.toList.map (·.1))[j / 34])[j % 34]? := by
  rw [← h3, List.getElem?_take_of_lt (by omega), List.getElem?_drop]
  congr 1
  omega
 have e : (d.toList.map (·.1))[j / 34]'(by rw [h2]; exact h1) = (d[j / 34]!).1 := by
  rw [List.getElem_map, Array.getElem_toList, getElem!_pos d _ h1]
 rw [get_flatK mW 34 d j hj, h4, e]
 show some (mW d[j / 34]!)[j % 34]! = (mW d[j / 34]!)[j % 34]?
 have h5 : j % 34 < (mW d[j / 34]!).length := by rw [GA]; omega
 rw [List.getElem?_eq_getElem h5, getElem!_pos (mW d[j / 34]!) (j % 34) h5]
theorem UY {blk off size : Nat} {w : World} : CmpLays prog 93 #[] mW 34 cfX blk off size w := fun m os dk _ x y => by
 have h := aDo (X := Nil) (w := sortWorldK mW 34 w blk off m dk os) (c := x.1) (d := y.1) (oD _) x.2.1 y.2.1
 refine h.calls.mono ?_
 rintro e w' ⟨v, rfl, rfl, q, os', hw⟩
 exact ⟨rfl, q, os', hw⟩
theorem NS {w : World} {g : Nat} {d : Array Value} {cur : Array Value} {e : TypeId} {p : Nat × Nat} (h : w.heap[g]? = some (.cells cur e p)) : (putRow id w g 0 d).heap[g]? = some (.cells (putCells id 0 d cur) e p) := by
 unfold putRow mapBlock
 show (w.heap.modify g _)[g]? = _
 rw [Array.getElem?_modify, if_pos rfl, h]; rfl
theorem IQ {w : World} {g b : Nat} {d : Array Value} (hb : b ≠ g) : (putRow id w g 0 d).heap[b]? = w.heap[b]? := by
 unfold putRow mapBlock
 show (w.heap.modify g _)[b]? = _
 rw [Array.getElem?_modify, if_neg (fun h => hb h.symm)]
theorem zZ {d cur : Array Value} (h : d.size ≤ cur.size) : (putCells id 0 d cur).size = cur.size ∧ (putCells id 0 d cur).toList.take d.size = d.toList := by
 have hs : (putCells id 0 d cur).size = cur.size := by simp [putCells]
 refine ⟨hs, List.ext_getElem? fun i => ?_⟩
 rw [List.getElem?_take]
 split
 ·
  rename_i hi
  rw [Array.getElem?_toList, Array.getElem?_toList, Array.getElem?_eq_getElem (by omega), Array.getElem?_eq_getElem hi]
  unfold putCells
  rw [Array.getElem_mapIdx, if_pos ⟨Nat.zero_le _, by omega⟩]
  show some d[i - 0]! = _
  rw [Nat.sub_zero, getElem!_pos d i hi]
 ·
  rename_i hi
  rw [Array.getElem?_toList, Array.getElem?_eq_none (by omega)]
theorem aAs {w : World} {base : Nat} {v : Value} {l : List Ch} (hown : w.ownsRow base 127 34 v l.length (l.flatMap eL)) (hx : XL l) (iD : ∀ c ∈ l, c.s.oneCell' = true) (hd : PR l) (hlen : l.length ≤ 1000000) :
  bC prog 92 [v, .func (.func 93) #[] #[]].toArray w fun r w' => ∃ l' : List Ch, r = .tuple #[] ∧ l.Perm l' ∧ sL l' ∧ Out (fun b => v.ownBlock = some b) w w' ∧ w'.ownsRow base 127 34 v l'.length (l'.flatMap eL) := by
 refine bC.RZ ?_
 have hk : ∀ c ∈ l, c.k.length = 32 ∧ c.s.oneCell' = true := fun c hc => ⟨hx c hc, iD c hc⟩
 obtain ⟨h1, ⟨rfl, h2⟩ | ⟨g, cap, cur, rfl, hg, C6, j0, SQ, hsz, FH⟩⟩ := hown
 ·
  have h3 : l = [] := List.eq_nil_of_length_eq_zero h2
  subst h3
  refine (AnyF.slices_SortFunc_none (P := prog) (ρ := Tryz.AR) { Tryz.aAZ with } none 0 (.func (.func 93) #[] #[]) w).mono ?_
  rintro e w' ⟨rfl, rfl⟩
  exact ⟨_, rfl, [], rfl, List.Perm.refl _, List.Pairwise.nil, Out.refl _ _, by simp, .inl ⟨rfl, rfl⟩⟩
 ·
  obtain ⟨d, hdd⟩ : ∃ d : Array W9, d = (KW l hk).toArray := ⟨_, rfl⟩
  have hds : d.size = l.length := by rw [hdd]; simp [M7]
  have hdv : d.toList.map (·.1) = l := by rw [hdd]; exact uA l hk
  have hgl : g < w.heap.size := by
   rcases Nat.lt_or_ge g w.heap.size with h | h
   ·
    exact h
   ·
    rw [Array.getElem?_eq_none h] at C6; cases C6
  have hH : HoldsK mW 34 w g 0 d := fun j hj => by
   rw [size_flatK] at hj
   have h3 := BH d j hj
   rw [hdv, ← FH, List.getElem?_take_of_lt (by omega), Array.getElem?_toList] at h3
   refine ⟨?_, ?_⟩
   ·
    show w.cell? ⟨g, 0 + j, none⟩ = some ((flatK mW 34 d)[j]!)
    rw [h3, Nat.zero_add]
    simp [World.cell?, C6]
   ·
    simp [World.frozen?, C6]
  have aFB := AnyQ.slices_SortFunc Tryz.aAZ 34 (fun w => kS tT w) (fun w => cX eU w) mW GA (fun x v hv => mC x.2.2 v hv) cfX aIG 93 #[] g 0 cap d w (fun args w => fV aJT args w) UY hH hgl (by rw [hds]; omega)
  rw [hds] at aFB
  refine aFB.mono ?_
  rintro e w' ⟨rfl, sd, n, os, rG, Y8, rfl⟩
  have hss : sd.size = l.length := by rw [rG.1, hds]
  obtain ⟨l', SU⟩ : ∃ l', l' = sd.toList.map (·.1) := ⟨_, rfl⟩
  have HP : l'.length = l.length := by rw [SU, List.length_map, Array.length_toList, hss]
  have hx' : XL l' := SU ▸ QE sd.toList
  have hp : l.Perm l' := by
   have h3 := rG.2.2
   rw [show d.extract 0 l.length = d by rw [← hds]; simp, show sd.extract 0 l.length = sd by rw [← hss]; simp] at h3
   have h4 := h3.map (fun x : W9 => x.1)
   rw [hdv, ← SU] at h4
   exact h4.symm
  have hlt : sL l' := by
   have ZG : PR l' := hd.perm hp fun h e => h e.symm
   refine List.pairwise_iff_getElem.2 fun i j hi hj hij => ?_
   have hne := List.pairwise_iff_getElem.1 ZG i j hi hj hij
   have hj2 : j < sd.size := by rw [hss, ← HP]; exact hj
   have h3 := Y8 i j (Nat.zero_le _) hij (by rw [← HP]; exact hj)
   rw [LM, decide_eq_false_iff_not, getElem!_pos sd j hj2, getElem!_pos sd i (by omega)] at h3
   have e1 : l'[i] = (sd[i]'(by omega)).1 := by simp [SU]
   have e2 : l'[j] = (sd[j]'hj2).1 := by simp [SU]
   rw [← e1, ← e2] at h3
   have h4 : num l'[i].k ≠ num l'[j].k := fun e => hne (s9 _ _ (by rw [hx' _ (List.getElem_mem hi), hx' _ (List.getElem_mem hj)]) e)
   omega
  have FO : (flatK mW 34 sd).toList = l'.flatMap eL := List.ext_getElem? fun j => by
   rcases Nat.lt_or_ge j (sd.size * 34) with hj | hj
   ·
    have h3 := BH sd j hj
    rw [← SU] at h3
    rw [← h3, Array.getElem?_toList, Array.getElem?_eq_getElem (by rw [size_flatK]; exact hj), getElem!_pos _ j (by rw [size_flatK]; exact hj)]
   ·
    rw [Array.getElem?_toList, Array.getElem?_eq_none (by rw [size_flatK]; exact hj), List.getElem?_eq_none]
    rw [dL _ hx'.len, HP, ← hss]; exact hj
  have hpt := zZ (d := flatK mW 34 sd) (cur := cur) (by rw [size_flatK, hss, hsz]; exact Nat.mul_le_mul_right _ j0)
  have hat : (sortWorldK mW 34 w g 0 n sd os).heap[g]? = some (.cells (putCells id 0 (flatK mW 34 sd) cur) 127 (0, 0)) := by
   show ((putRow id (Go.Sort.ahead w n) g 0 (flatK mW 34 sd)).heap ++ os)[g]? = _
   have hc2 : (Go.Sort.ahead w n).heap[g]? = some (.cells cur 127 (0, 0)) := C6
   have h4 := NS (d := flatK mW 34 sd) hc2
   rw [Array.getElem?_append_left (Array.getElem?_eq_some_iff.1 h4).1, h4]
  refine ⟨_, rfl, l', rfl, hp, hlt, ⟨rfl, rfl, rfl, ?_, fun b hb hn => ?_⟩, ?_⟩
  ·
   show w.heap.size ≤ ((putRow id (Go.Sort.ahead w n) g 0 (flatK mW 34 sd)).heap ++ os).size
   have : (putRow id (Go.Sort.ahead w n) g 0 (flatK mW 34 sd)).heap.size = w.heap.size := by show (w.heap.modify g _).size = _; simp
   rw [Array.size_append, this]; omega
  ·
   have hne : b ≠ g := fun h => hn (by subst h; rfl)
   have : (putRow id (Go.Sort.ahead w n) g 0 (flatK mW 34 sd)).heap.size = w.heap.size := by show (w.heap.modify g _).size = _; simp
   show ((putRow id (Go.Sort.ahead w n) g 0 (flatK mW 34 sd)).heap ++ os)[b]? = _
   rw [Array.getElem?_append_left (by rw [this]; exact hb), IQ hne]; rfl
  ·
   rw [← HP]
   refine ⟨?_, .inr ⟨g, cap, _, rfl, hg, hat, by rw [HP]; exact j0, SQ, by rw [hpt.1, hsz], ?_⟩⟩
   ·
    rw [dL _ hx'.len]
   ·
    have h5 := hpt.2
    rw [size_flatK, hss, FO] at h5
    rw [HP]; exact h5
theorem CX : Go.Maps.Keyed prog 24 := Go.Maps.Keyed.of_law (Go.WideMaps.ArrKey.law (P := prog) (k := 24) (e := 5) (n := 32) ⟨eS gW, by kernel_rfl, by kernel_rfl, by kernel_rfl⟩)
def yE (k : List UInt8) : List Lit := k.map fun x => Lit.int .u8 (x.toNat : Int)
def aAC (k : List UInt8) : Lit := .string (keyBytes (yE k))
theorem E8 {α β : Type} (f : α → Option β) (g : α → β) : ∀ l : List α, (∀ x ∈ l, f x = some (g x)) → l.mapM f = some (l.map g)
 | [], _ => rfl
 | x :: l, h => by
  rw [List.mapM_cons, h x (by simp), E8 f g l fun y hy => h y (List.mem_cons_of_mem _ hy)]
  rfl
theorem F2 {α β : Type} (f : α → β) : ∀ l : List α, (l.map fun i => [f i]).flatten = l.map f
 | [] => rfl
 | x :: l => by
  show [f x] ++ (l.map fun i => [f i]).flatten = f x :: l.map f
  rw [F2 f l]; rfl
theorem wf8 (x : UInt8) : (Lit.int .u8 (x.toNat : Int)).wf = true := by
 have h1 : IntKind.u8.min = 0 := by kernel_rfl
 have h2 : IntKind.u8.max = 255 := by kernel_rfl
 have := x.toNat_lt
 show (decide (IntKind.u8.min ≤ (x.toNat : Int)) && decide ((x.toNat : Int) ≤ IntKind.u8.max)) = true
 rw [h1, h2, decide_eq_true (by omega), decide_eq_true (by omega)]; rfl
theorem I9 (d : Nat) {k : List UInt8} (hk : k.length = 32) : (prog).keyLits (d + 2) 24 (kc k) = some (yE k) := by
 have hu := eS gW
 have h8 := gD mM
 have hc : (prog).cellsOf 24 = 32 := by kernel_rfl
 have h1 : (prog).cellsOf 5 = 1 := by kernel_rfl
 have hl : (kc k).length = 32 := by rw [aJ, hk]
 unfold Program.keyLits
 rw [hu]
 simp only []
 rw [if_pos (by rw [hl, hc]), E8 _ (fun i => [Lit.int .u8 ((k.getD i 0).toNat : Int)]) _ fun i hi => ?_]
 ·
  rw [Option.map_some]
  rw [F2]
  unfold yE
  congr 1
  refine List.ext_getElem (by simp [hk]) fun i h3 h4 => ?_
  rw [List.length_map] at h4
  rw [List.getElem_map, List.getElem_map, List.getElem_range, List.getD_eq_getElem?_getD, List.getElem?_eq_getElem h4]; rfl
 ·
  have hi' := List.mem_range.1 hi
  unfold Program.keyLits
  rw [h8, h1, Nat.mul_one]
  have e : ((kc k).drop i).take 1 = [.int .u8 ((k.getD i 0).toNat : Int)] := by
   rw [List.drop_eq_getElem_cons (by omega), List.take_succ_cons, List.take_zero]
   unfold kc
   rw [List.getElem_map, List.getD_eq_getElem?_getD, List.getElem?_eq_getElem (by omega)]; rfl
  rw [e]
  simp only []
  rw [if_pos ⟨trivial, wf8 _⟩]
theorem oH {k : List UInt8} (hk : k.length = 32) : keyOf prog 24 (.agg (kc k).toArray) = some (aAC k) := by
 have hu := eS gW
 have hc : (prog).cellsOf 24 = 32 := by kernel_rfl
 have hkt : (prog).keyType 24 = true := by kernel_rfl
 have hn : ∃ d, (prog).types.size + 1 = d + 2 := ⟨(prog).types.size - 1, by kernel_rfl⟩
 obtain ⟨d, hd⟩ := hn
 unfold keyOf
 rw [hu]
 simp only []
 have hf : Value.formed prog 24 (.agg (kc k).toArray) = true := by
  unfold Value.formed
  rw [hu]
  simp only []
  rw [hc]
  simp [aJ, hk]
 rw [if_pos (by rw [hkt, hf]; rfl), hd]
 have e : (Value.agg (kc k).toArray).cells.toList = kc k := rfl
 rw [e, I9 d hk]; rfl
theorem WH {k k' : List UInt8} (hk : k.length = 32) (hk' : k'.length = 32) (h : aAC k = aAC k') : k = k' := by
 have h1 := oH hk
 have h2 := oH hk'
 rw [← h] at h2
 have h3 := CX.inj h1 h2
 injection h3 with h4
 have h5 := congrArg Array.toList h4
 exact aCB h5
def aDK (b : Nat) (ks : List (List UInt8)) (w : World) : Prop := ∃ D : DataW Unit, w.ownsMap prog 24 (plainElem prog 4) b ks.length D ∧ ∀ k, k.length = 32 → D.atKey (aAC k) (.lit (.bool false)) = .lit (.bool (decide (k ∈ ks)))
theorem I1 {b n : Nat} {D : DataW Unit} {w w' : World} (h : w.ownsMap prog 24 (plainElem prog 4) b n D) (he : w'.heap[b]? = w.heap[b]?) : w'.ownsMap prog 24 (plainElem prog 4) b n D := by
 obtain ⟨es, clock, hb, F, hs, hD⟩ := h
 exact ⟨es, clock, he.trans hb, F, hs, hD⟩
def aP.E9 (b : Nat) (ks : List (List UInt8)) : aP where
 fp := (· = b)
 ok := aDK b ks
 loc := fun w w' h hb => by
  obtain ⟨D, h1, h2⟩ := hb
  exact ⟨D, I1 h1 (h b rfl), h2⟩
 lt := fun w h x hx => by
  subst hx
  obtain ⟨D, h1, _⟩ := h
  exact h1.lt
theorem O4 {v : Value} {x : Bool} {ps : List MemPlace} (h : plainElem (H := Unit) prog 4 v = some (.lit (.bool x), ps)) : v = .bool x := by
 unfold plainElem at h
 rw [mZ bo4] at h
 cases v <;> simp at h
 rw [h.1]
theorem MN (x : Bool) : plainElem (H := Unit) prog 4 (.bool x) = some (.lit (.bool x), []) := plainElem_bool (mZ bo4) x
theorem K3 : (prog).underlying 197 = some (.map 24 4) := by kernel_rfl
section
variable {r : Option Nat} {N : Nat} {σ : Env} {ds : List Deferred} {w w0 : World} {ops : Array Oper} {o : Oper} {rest : List Oper} {K : Env → List Deferred → World → Prop} {X : Nat → Prop} {O L : List aP} {Ps : List (World → Prop)}
theorem WL.R7 (H : St X w0 w O L Ps) (h : o.op = .makeMap 197 none) (hw : cK ops σ o = true)
  (k : ∀ b w', St X w0 w' O (aP.E9 b [] :: L) Ps → WL r prog N ops rest K (dG N σ o.dst (.map (some b))) ds w') : WL r prog N ops (o :: rest) K σ ds w := by
 refine WL.val (v := .map (some w.heap.size)) (w' := w.alloc (.map #[] 0)) hw (by unfold eY; rw [h]) ?_ (k _ _ ?_)
 ·
  simp [execOp, h, run_makeMap]
 ·
  refine H.push (Out.alloc w _) _ ⟨.map [], World.ownsMap_made w prog 24 (plainElem prog 4), fun k _ => ?_⟩ fun b hb => by (cases hb; exact Nat.le_refl _)
  simp [DataW.atKey]
theorem WL.YN {m x : Operand} {b : Nat} {ks : List (List UInt8)} {k : List UInt8} (H : St X w0 w O L Ps) (i : Nat) (h : o.op = .lookup 197 m x false) (hm : ev σ m = .map (some b)) (hx : ev σ x = .agg (kc k).toArray) (hi : L[i]? = some (aP.E9 b ks)) (hk : k.length = 32) (hw : cK ops σ o = true)
  (c : WL r prog N ops rest K (dG N σ o.dst (.bool (decide (k ∈ ks)))) ds w) : WL r prog N ops (o :: rest) K σ ds w := by
 obtain ⟨D, h1, h2⟩ := (H.l i hi : aDK b ks w)
 obtain ⟨v, ps, hrun, hv⟩ := h1.lookup CX K3 (z := .bool false) (uI (P := prog) (t := 4) (by kernel_rfl) w) (MN false) (oH hk)
 rw [h2 k hk] at hv
 obtain rfl := O4 hv
 exact WL.val hw (by unfold eY; rw [h]) (by simp [execOp, h, hm, hx, hrun]) c
theorem WL.XI {m x y : Operand} {b : Nat} {ks : List (List UInt8)} {k : List UInt8} (H : St X w0 w O L Ps) (i : Nat) (h : o.op = .mapUpdate 197 m x y) (hm : ev σ m = .map (some b)) (hx : ev σ x = .agg (kc k).toArray) (hy : ev σ y = .bool true) (hi : L[i]? = some (aP.E9 b ks)) (hk : k.length = 32) (hn : ks.length ≤ 1000000) (hw : cK ops σ o = true)
  (c : ∀ w', St X w0 w' O (L.set i (aP.E9 b (ks ++ [k]))) Ps → WL r prog N ops rest K (dG N σ o.dst undef) ds w') : WL r prog N ops (o :: rest) K σ ds w := by
 obtain ⟨D, h1, h2⟩ := (H.l i hi : aDK b ks w)
 obtain ⟨w', hrun, h3, h4⟩ := h1.update CX K3 (by unfold maxLen; omega) (oH hk) (MN true)
 refine WL.unit (w' := w') hw (by unfold eY; rw [h]) (by simp [execOp, h, hm, hx, hy, hrun]) (c w' ?_)
 refine H.o6 hi ((Out.grown h4).mono fun c _ hc => (Option.some.inj hc).symm) _ ⟨_, by rw [List.length_append]; exact h3, fun k' hk' => ?_⟩ fun _ h => .inl h
 by_cases he : k' = k
 ·
  subst he
  rw [Go.Maps.atKey_put_same h1.isMap (CX.key (oH hk))]
  simp
 ·
  rw [Go.Maps.atKey_put_other (fun e => he (WH hk' hk e)), h2 k' hk']
  simp [he]
end
def upW (u : Up) : List Value := [u.sk] ++ ([u.ch.s] ++ [.bool u.d])
theorem Up.aDp (u : Up) : u.ch.s = if u.d then .slice none 0 0 else u.sv := rfl
theorem aEe {u : Up} (h : u.d = true) : upW u = [u.sk] ++ ([.slice none 0 0] ++ [.bool u.d]) := by unfold upW; rw [Up.aDp, if_pos h]
theorem aEf {u : Up} (h : u.d = false) : upW u = QQ u := by unfold upW QQ; rw [Up.aDp, if_neg (by rw [h]; decide)]
theorem oR.take_one {l : List Up} {i : Nat} (h : i < l.length) (hg : oR (l.take i)) (hb : mR (l.take i) l[i] = 0) : oR (l.take (i + 1)) := by
 rw [List.take_succ_eq_append_getElem h]; exact hg.snoc hb
theorem U9 {l : List Up} {u : Up} : mR l u = if bW u.k u.uv ≠ 0 then bW u.k u.uv else if u.k ∈ l.map Up.k then 9 else 0 := by
 unfold mR
 have e : (∃ x ∈ l, x.k = u.k) ↔ u.k ∈ l.map Up.k := by rw [List.mem_map]
 simp only [e]
theorem JX {X : Nat → Prop} {w : World} {s : Value} {l : List Up} (hX : c6 X w) (bT : aH X (kE s l) w) (dJ : aH X (dV l) w) (hlen : l.length ≤ 1000) (LS : ∀ u ∈ l, u.k.length ≤ 9223372036854775807 ∧ u.v.length ≤ 9223372036854775807) :
  bC prog 54 [s].toArray w fun v w' => ∃ v1 v2, v = .tuple [v1, v2].toArray ∧ Out Nil w w' ∧ aH X (fK [97, 112, 112, 108, 121] (((jR l).1 : Nat) : Int) (jR l).2 v2) w' ∧ ((jR l).2 = 0 → ∃ cs : List Ch, aH X (gN v1 cs) w' ∧ aH X (iA cs) w' ∧ (l.map Up.ch).Perm cs ∧ sL cs) := by
 refine bC.aI (N := 59) func54 rfl rfl (by simp) ?_
 have H := ((St.begin hX).add (cE dJ)).add (cE bT)
 have iD := fun u (hu : u ∈ l) => YD ((dJ.here) u hu)
 have aBc : ∀ u ∈ l, u.ch.s.oneCell' = true := fun u hu => by rw [Up.aDp]; split; rfl; exact cO.fW ((dJ.here) u hu).2
 refine WE.aA (WL.as rfl rfl (WL.as rfl rfl (WL.nil (WE.aA (WL.as rfl rfl (WL.nil (WE.aA ?_)))))))
 refine WL.R7 H rfl rfl ?_
 intro vB w2 H
 refine WL.as rfl rfl (WL.nil (WE.seq (WE.aA (WL.mv rfl rfl ?_))))
 refine WL.pv (PV.dS (by exact (H.p 0 rfl : (kE s l) _)) oY rfl) rfl ?_
 refine WL.mv rfl rfl (WL.nil (WE.block ?_))
 replace H := H.kU 127 34
 replace H := H.perm (List.Perm.swap _ _ [])
 refine WE.loop (α := Nat × Value) (rg [(2, 3), (6, 4), (13, 43)]) (fun p => [(13, .int .i64 (p.1 : Int)), (4, p.2)]) (fun p wl => (p.1 ≤ l.length ∧ yY p.1 (l.take p.1) (l.drop p.1) = jR l ∧ oR (l.take p.1)) ∧ St X w wl [] [aP.E9 vB ((l.take p.1).map Up.k), aP.gZ w.heap.size p.2 127 34 ((((l.take p.1).map Up.ch)).length) ((((l.take p.1).map Up.ch)).flatMap eL)] [kE s l, dV l]) (fun p => l.length - p.1) (0, .slice none 0 0) ⟨rfl, rfl, trivial⟩ ⟨⟨Nat.zero_le _, by rw [List.take_zero, List.drop_zero]; rfl, ⟨fun _ h => (by cases h), List.Pairwise.nil⟩⟩, H⟩ ?_
 intro ⟨i, v_⟩ γ0 w3 hI
 try dsimp only at hI
 obtain ⟨⟨hi, rA, hgd⟩, H⟩ := hI
 try dsimp only at hi rA hgd
 refine WE.aA (WL.pv (PV.lss rfl rfl rfl) rfl (WL.nil (WE.seq ?_)))
 refine WE.cond rfl (fun pG => ?_) (fun pG => ?_)
 ·
  try simp only [bP] at pG
  have hlt : i < l.length := by omega
  have hvi := LS _ (List.getElem_mem hlt)
  have FI := BW l (l.length - i) i (by omega)
  rw [dif_pos hlt] at FI
  rw [FI] at rA
  have PY := oG l[i].k
  have aLF := PY
  have hos := aBc _ (List.getElem_mem hlt)
  have htl : (l.take i).length = i := by rw [List.length_take]; omega
  have qH : ((l.take i).map Up.ch).length = i := by rw [List.length_map]; exact htl
  have hbv := U9 (l := l.take i) (u := l[i])
  refine WE.skip (WE.seq (WE.block (WE.aA (WL.mv rfl rfl ?_))))
  refine WL.pv (PV.dX rfl (by exact (H.p 0 rfl : (kE s l) _)) oY mJ rfl rfl (by omega) (by omega)) rfl ?_
  refine WL.bE rfl aIa rfl rfl ((kE.rd (by exact (H.p 0 rfl : (kE s l) _)) i hlt)) (by exact mJ) ?_
  refine WL.alloc H rfl QB rfl ?_
  intro b7 w4 H
  refine WL.as rfl rfl ?_
  refine WL.aW H 0 rfl rfl rfl (new := QQ l[i]) rfl (by exact mJ) (iD _ (List.getElem_mem hlt)) (Laid.at (Laid.all rfl) rfl) rfl ?_
  intro w5 H
  refine WL.nil ?_
  refine WE.cut (α := Unit) [18, 19, 20] (fun _ => []) (fun _ wl => St X w wl [] [aP.blk b7 102 (upW l[i]), aP.E9 vB ((l.take i).map Up.k), aP.gZ w.heap.size v_ 127 34 ((((l.take i).map Up.ch)).length) ((((l.take i).map Up.ch)).flatMap eL)] [kE s l, dV l]) ?_ ?_
  ·
   refine WE.aA (WL.pv (PV.fieldAddr rfl wY rfl) rfl (WL.aX rfl vE rfl rfl (aN.aF (H.l 0 rfl) (aK.tl (aK.tl aK.hd rfl) rfl) rfl) (WL.nil ?_)))
   refine WE.cond rfl (fun kC => ?_) (fun kC => ?_)
   ·
    try simp only [bP] at kC
    have hd : l[i].d = true := (by exact kC)
    refine WE.dW (WL.pv (PV.fieldAddr rfl qW rfl) rfl ?_)
    refine WL.aW H 0 rfl rfl rfl (new := [.slice none 0 0]) rfl (by exact B9) (bB _ rfl) (Laid.at (Laid.tail Laid.head rfl) rfl) rfl ?_
    intro w6 H
    refine WL.nil ?_
    exact ⟨(), (by repeat (first | with_reducible exact bK.refl _ _ | refine bK.dG rfl ?_)), trivial, rfl, H.conv (by rw [aEe hd]; rfl)⟩
   ·
    try simp only [bP] at kC
    have hd : l[i].d = false := (by exact kC)
    refine WE.skip ?_
    exact ⟨(), (by repeat (first | with_reducible exact bK.refl _ _ | refine bK.dG rfl ?_)), trivial, rfl, H.conv (by rw [aEf hd]; rfl)⟩
  ·
   intro _ γ w7 hI
   try dsimp only at hI
   replace H := hI
   refine WE.aA (WL.pv (PV.fieldAddr rfl qX rfl) rfl (WL.aX rfl eH rfl rfl (aN.aF (H.l 0 rfl) aK.hd rfl) (WL.pv (PV.fieldAddr rfl qW rfl) rfl (WL.aX rfl eH rfl rfl (aN.aF (H.l 0 rfl) (aK.tl aK.hd rfl) rfl) ?_))))
   refine WL.call aGc rfl (MF (s := l[i].sk) (sv := l[i].ch.s) (lb := l[i].k) (vv := l[i].uv) H.aR (show aH _ (bL l[i].sk l[i].k) _ from ((by exact (H.bJ 1 rfl : aH _ (dV l) _)) : aH _ (dV l) _).imp fun _ h => h.k hlt) (show aH _ (bL l[i].ch.s l[i].uv) _ from ((by exact (H.bJ 1 rfl : aH _ (dV l) _)) : aH _ (dV l) _).imp fun _ h => h.uv hlt) hvi.1 (by unfold Up.uv; split; simp; exact hvi.2)) ?_
   rintro _ w8 ⟨rfl, hO⟩
   replace H := H.out hO
   refine WL.mv rfl rfl (WL.pv (PV.extract rfl rfl rfl) rfl (WL.pv (PV.extract rfl rfl rfl) rfl ?_))
   refine WL.alloc H rfl lC rfl ?_
   intro b8 w9 H
   refine WL.aW H 0 rfl rfl rfl (new := kc (kG l[i].k) ++ [l[i].ch.s]) rfl (cI fH (by simp only [aS, aY, aB]; omega)) (bN (bH _) (eF hos)) (Laid.at (Laid.all (by simp only [aS, aY, aB]; omega)) rfl) rfl ?_
   intro tX H
   refine WL.as rfl rfl (WL.nil ?_)
   refine WE.cut (α := Unit) (rg [(9, 1), (29, 8)]) (fun _ => [(9, .int .i64 (mR (l.take i) l[i]))]) (fun _ wl => St X w wl [] [aP.blk b8 111 (kc (kG l[i].k) ++ [l[i].ch.s]), aP.blk b7 102 (upW l[i]), aP.E9 vB ((l.take i).map Up.k), aP.gZ w.heap.size v_ 127 34 ((((l.take i).map Up.ch)).length) ((((l.take i).map Up.ch)).flatMap eL)] [kE s l, dV l]) ?_ ?_
   ·
    refine WE.aA (WL.mv rfl rfl (WL.pv (PV.eql rfl rfl rfl) rfl (WL.mv rfl rfl ?_)))
    refine WL.split (t := 31) rfl (fun JK => ?_) (fun JK => ?_)
    ·
     refine WL.known (t := 30) (c := true) rfl JK ?_
     try simp only [bP] at JK
     have SL : bW l[i].k l[i].uv = 0 := (by exact JK)
     have wF : kG l[i].k = l[i].k := if_pos (dN.1 SL).1
     refine WL.mv rfl rfl (WL.pv (PV.fieldAddr rfl gK rfl) rfl ?_)
     refine WL.bE rfl c7 rfl rfl (aN.aF (H.l 0 rfl) (aK.l (aK.all _)) rfl) (cI cM (by simp only [aS, aY, aB]; omega)) ?_
     refine WL.YN H 2 rfl rfl rfl rfl PY rfl ?_
     refine WL.pv (PV.c5 rfl rfl rfl) rfl (WL.nil ?_)
     refine WE.cond rfl (fun pE => ?_) (fun pE => ?_)
     ·
      try simp only [bP] at pE
      have hin : l[i].k ∈ ((l.take i).map Up.k) := by rw [← wF]; exact (by exact pE)
      have hb9 : (9 : Int) = (mR (l.take i) l[i]) := by rw [hbv, if_neg (by simp [SL]), if_pos hin]
      refine WE.dW (WL.as rfl rfl (WL.nil ?_))
      exact ⟨(), (by repeat (first | with_reducible exact bK.refl _ _ | refine bK.dG rfl ?_)), ⟨(by (show Value.int .i64 _ = _; rw [hb9])), trivial⟩, rfl, H⟩
     ·
      try simp only [bP] at pE
      have hin : ¬ l[i].k ∈ ((l.take i).map Up.k) := by rw [← wF]; exact (by exact pE)
      have hb9 : bW l[i].k l[i].uv = (mR (l.take i) l[i]) := by rw [hbv, if_neg (by simp [SL]), if_neg hin, SL]
      refine WE.skip ?_
      exact ⟨(), (by repeat (first | with_reducible exact bK.refl _ _ | refine bK.dG rfl ?_)), ⟨(by (show Value.int .i64 _ = _; rw [hb9])), trivial⟩, rfl, H⟩
    ·
     refine WL.known (t := 30) (c := false) rfl JK ?_
     try simp only [bP] at JK
     have SL : ¬ bW l[i].k l[i].uv = 0 := (by exact JK)
     have hb9 : bW l[i].k l[i].uv = (mR (l.take i) l[i]) := by rw [hbv, if_pos SL]
     refine WL.off rfl (WL.off rfl (WL.off rfl (WL.off rfl (WL.pv (PV.cF rfl rfl rfl) rfl (WL.nil (WE.jF rfl (WE.skip ?_)))))))
     exact ⟨(), (by repeat (first | with_reducible exact bK.refl _ _ | refine bK.dG rfl ?_)), ⟨(by (show Value.int .i64 _ = _; rw [hb9])), trivial⟩, rfl, H⟩
   ·
    intro _ γ HL hI
    try dsimp only at hI
    replace H := hI
    refine WE.seq (WE.aA (WL.mv rfl rfl (WL.pv (PV.neq rfl rfl rfl) rfl (WL.nil ?_))))
    refine WE.cond rfl (fun yM => ?_) (fun yM => ?_)
    ·
     try simp only [bP] at yM
     have tJ : (mR (l.take i) l[i]) ≠ 0 := (by exact yM)
     rw [if_pos tJ] at rA
     refine WE.aA (WL.mv rfl rfl (WL.mv rfl rfl ?_))
     refine WL.call aDa rfl (JT (op := [97, 112, 112, 108, 121]) (ix := (i : Int)) (code := (mR (l.take i) l[i])) H.aR  ) ?_
     rintro v41 DW ⟨hO, hR⟩
     replace H := (H.out hO).add hR
     refine WL.as rfl rfl (WL.as rfl rfl (WL.nil (WE.ret ⟨[_, _], _, .nil _, ⟨rfl, rfl, trivial⟩, ?_⟩)))
     refine ⟨.slice none 0 0, v41, rfl, H.aL, ?_, fun h => ?_⟩
     ·
      rw [← rA]; exact H.fX (H.bJ 0 rfl)
     ·
      rw [← rA] at h; exact absurd h tJ
    ·
     try simp only [bP] at yM
     have tJ : (mR (l.take i) l[i]) = 0 := (by exact yM)
     rw [if_neg (by simp [tJ])] at rA
     have hz0 := vA.1 tJ
     have uU := (dN.1 hz0.1).1
     have wF : kG l[i].k = l[i].k := if_pos uU
     have hS : ((l.take (i + 1)).map Up.ch) = ((l.take i).map Up.ch) ++ [l[i].ch] := by rw [List.take_succ_eq_append_getElem hlt, List.map_append]; rfl
     have hSk : ((l.take (i + 1)).map Up.k) = ((l.take i).map Up.k) ++ [l[i].k] := by rw [List.take_succ_eq_append_getElem hlt, List.map_append]; rfl
     refine WE.skip (WE.aA (WL.mv rfl rfl (WL.pv (PV.fieldAddr rfl gK rfl) rfl ?_)))
     refine WL.bE rfl c7 rfl rfl (aN.aF (H.l 0 rfl) (aK.l (aK.all _)) rfl) (cI cM (by simp only [aS, aY, aB]; omega)) ?_
     refine WL.XI H 2 rfl rfl rfl rfl rfl PY (by rw [List.length_map]; omega) rfl ?_
     intro ND H
     refine WL.nil (WE.dW (WL.mv rfl rfl (WL.pv (PV.fieldAddr rfl gK rfl) rfl ?_)))
     refine WL.bE rfl c7 rfl rfl (aN.aF (H.l 0 rfl) (aK.l (aK.all _)) rfl) (cI cM (by simp only [aS, aY, aB]; omega)) ?_
     refine WL.pv (PV.fieldAddr rfl mD rfl) rfl ?_
     refine WL.aX rfl eH rfl rfl (aN.aF (H.l 0 rfl) (aK.r (aK.all _) rfl) (by simp [aJ, aQ, *])) ?_
     refine WL.pv (PV.fieldAddr rfl wY rfl) rfl (WL.aX rfl vE rfl rfl (aN.aF (H.l 1 rfl) (aK.tl (aK.tl aK.hd rfl) rfl) rfl) ?_)
     refine WL.pv (PV.dQ rfl aA7 AL (Fl.cons rfl rfl (by simp only [aS, aY, aB]; omega) (Laid.left (Laid.all (by simp only [aS, aY, aB]; omega))) (Fl.cons rfl (cells_one hos) (by simp only [aS, aY, aB]) (Laid.right (Laid.left (Laid.all (by simp only [aS, aY, aB]))) (by simp only [aS, aY, aB]; omega)) (Fl.cons rfl rfl (by simp only [aS, aY, aB]) (Laid.right (Laid.right (Laid.all (by simp only [aS, aY, aB])) rfl) (by simp only [aS, aY, aB]; omega)) Fl.nil)))) rfl ?_
     refine WL.bA (l0 := ((kc (List.replicate 32 0) ++ ([.slice none 0 0] ++ ([.bool false]))))) H rfl vH (by decide) rfl (Fl.cons rfl rfl (by simp only [aS, aY, aB]; omega) (Laid.all (by simp only [aS, aY, aB]; omega)) Fl.nil) rfl ?_
     intro b53 QL H
     refine WL.append (m := 1) H 4 vH (by decide) rfl rfl rfl (cO.cA (n := 1) (H.l 0 rfl) (jN (c := ⟨kG l[i].k, l[i].ch.s, l[i].uv, l[i].d⟩) PY)) (mC (c := ⟨kG l[i].k, l[i].ch.s, l[i].uv, l[i].d⟩) hos) (by omega) (by decide) rfl ?_
     intro v54 QK H
     have DC := congrArg List.length hS
     rw [List.length_append, List.length_singleton] at DC
     have FX := congrArg (List.flatMap eL) hS
     rw [List.flatMap_append, List.flatMap_singleton] at FX
     replace H := H.forget 0
     replace H := H.forget 0
     replace H := H.forget 0
     rw [wF] at H
     replace H := H.conv (L' := [aP.E9 vB ((l.take (i + 1)).map Up.k), aP.gZ w.heap.size v54 127 34 ((((l.take (i + 1)).map Up.ch)).length) ((((l.take (i + 1)).map Up.ch)).flatMap eL)]) (by rw [DC, FX, hSk]; rfl)
     refine WL.as rfl rfl (WL.nil (WE.dW (WL.pv (PV.eq (v' := .int .i64 ((i + 1 : Nat) : Int)) (PV.bV rfl rfl rfl (by omega) (by omega)) rfl) rfl (WL.mv rfl rfl (WL.nil ?_)))))
     exact ⟨(i + 1, v54), (by repeat (first | with_reducible exact bK.refl _ _ | refine bK.dG rfl ?_ | refine bK.bZ rfl ?_ | refine bK.bX rfl ?_)), ⟨rfl, rfl, trivial⟩, rfl, ⟨⟨by dsimp only; omega, rA, hgd.take_one hlt tJ⟩, H⟩, (by dsimp only; omega)⟩
 ·
  try simp only [bP] at pG
  have vR : l.take i = l := List.take_of_length_le (by omega)
  have hid : l.drop i = [] := List.drop_eq_nil_of_le (by omega)
  rw [hid] at rA
  have aCU : jR l = (0, 0) := rA.symm
  rw [vR] at hgd
  rw [vR] at H
  refine WE.exit (WE.aA (WL.mv rfl rfl ?_))
  refine WL.call aJU rfl (aAs (l := l.map Up.ch) (H.l 1 rfl) hgd.ch.1 (fun c hc => by obtain ⟨u, hu, rfl⟩ := List.mem_map.1 hc; exact aBc u hu) hgd.ch.2.1 (by rw [List.length_map]; omega)) ?_
  rintro _ QJ ⟨cs, rfl, rG, qG, hO, iE⟩
  replace H := H.o6 (i := 1) rfl hO (aP.gZ w.heap.size v_ 127 34 cs.length (cs.flatMap eL)) iE (fun b hb => .inl hb)
  refine WL.nil (WE.aA (WL.mv rfl rfl (WL.as rfl rfl (WL.as rfl rfl (WL.nil (WE.ret ⟨[_, _], _, .nil _, ⟨rfl, rfl, trivial⟩, ?_⟩))))))
  refine ⟨v_, .nilIface, rfl, H.aL, ?_, fun _ => ⟨cs, ?_, ?_, rG, qG⟩⟩
  ·
   rw [aCU]; exact fun _ _ => .inl ⟨rfl, rfl⟩
  ·
   exact (nB hX (H.l 1 rfl)).imp fun _ h => cO.dM h
  ·
   exact H.fX ((show aH _ (dV l) _ from (by exact (H.bJ 1 rfl : aH _ (dV l) _))).imp fun _ h c hc => by obtain ⟨u, hu, rfl⟩ := List.mem_map.1 (rG.mem_iff.2 hc); obtain ⟨q, hq, rfl⟩ := List.getElem_of_mem hu; exact h.uv hq)
theorem KD {X : Nat → Prop} {w : World} {bt bh bc : Nat} {bits c0 : Int} {T : Tr} {m : List En} {s sv : Value} {lb vv : List UInt8} (hX : c6 X w) (fA : aN w bc 213 ([.int .i64 c0])) (vQ : aN w bt 90 ([.pointer (some ⟨bh, 0, none⟩), T.ptr])) (bT : aH (fun c_ => X c_ ∨ c_ = bc ∨ c_ = bt) (fO bh bc bits) w) (dJ : aH (fun c_ => X c_ ∨ c_ = bc ∨ c_ = bt) (cV bits T) w) (fQ : aH (fun c_ => X c_ ∨ c_ = bc ∨ c_ = bt) (bL s lb) w) (jW : aH (fun c_ => X c_ ∨ c_ = bc ∨ c_ = bt) (bL sv vv) w) (nM : aH (fun c_ => X c_ ∨ c_ = bc ∨ c_ = bt) (aZ) w) (hne : bc ≠ bt) (bU : 0 ≤ bits ∧ bits ≤ 256) (hT : T.er = grow 0 m) (hs : k9 m) (tY : KL m) (zQ : m.length ≤ 1000000) (FL : lb.length ≤ 9223372036854775807) (hvv : vv.length ≤ 9223372036854775807) :
  bC prog 18 [.pointer (some ⟨bt, 0, none⟩), s, sv].toArray w fun v w' => ∃ (T' : Tr) (c' : Int) , T'.er = grow 0 (if bW lb vv = 0 then iC m ⟨lb, sv, vv⟩ else m) ∧ Out (fun c => c = bc ∨ c = bt) w w' ∧ aN w' bc 213 [.int .i64 c'] ∧ aN w' bt 90 [.pointer (some ⟨bh, 0, none⟩), T'.ptr] ∧ aH (fun c => X c ∨ c = bc ∨ c = bt) (cV bits T') w' ∧ aH (fun c => X c ∨ c = bc ∨ c = bt) (fK [112, 117, 116] 0 (bW lb vv) v) w' := by
 refine bC.aI (N := 32) func18 rfl rfl (by simp) ?_
 have H := St.sF (b1 := bc) (b2 := bt) (t1 := 213) (t2 := 90) (l1 := [.int .i64 c0]) (l2 := [.pointer (some ⟨bh, 0, none⟩), T.ptr]) hX fA vQ hne
 replace H := H.add (iB nM)
 replace H := H.add (iB jW)
 replace H := H.add (iB fQ)
 replace H := H.add (iB dJ)
 replace H := H.add (iB bT)
 have wR : sv.oneCell' = true := cO.fW (jW.here)
 have PY := oG lb
 refine WE.aA (WL.as rfl rfl (WL.nil (WE.aA (WL.mv rfl rfl (WL.mv rfl rfl (WL.mv rfl rfl ?_))))))
 refine WL.call aDb rfl (xI (bt := bt) (op := [112, 117, 116]) (lb := lb) (vv := vv) H.aR (by exact H.bJ 2 rfl) (by exact H.bJ 3 rfl) (by assumption) (by assumption)) ?_
 rintro _ w1 ⟨pT, rfl, hO, rH⟩
 have aCQ := rH.here.Y5
 have tF := rH.here.isNil
 have Y9 := rH.here.one
 replace H := (H.out hO).add rH
 refine WL.mv rfl rfl (WL.pv (PV.extract rfl rfl rfl) rfl (WL.pv (PV.extract rfl rfl rfl) rfl ?_))
 refine WL.alloc H rfl lC rfl ?_
 intro b7 w2 H
 refine WL.aW H 0 rfl rfl rfl (new := kc (kG lb) ++ [sv]) rfl (cI fH (by simp only [aS]; omega)) (bN (bH _) (eF wR)) (Laid.at (Laid.all (by simp only [aS]; omega)) rfl) rfl ?_
 intro w3 H
 refine WL.as rfl rfl (WL.nil (WE.seq (WE.aA (WL.mv rfl rfl (WL.pv (PV.qL rfl (by kernel_rfl) (by assumption)) rfl (WL.nil ?_))))))
 refine WE.cond rfl (fun iW => ?_) (fun iW => ?_)
 ·
  try simp only [bP] at iW
  have hz : bW lb vv = 0 := by have h_ : gJ pT = true := iW; rw [tF] at h_; simpa using h_
  have uU := (dN.1 hz).1
  have aLo := (dN.1 hz).2
  have wF : kG lb = lb := if_pos uU
  refine WE.draw (.take 0 (.take 1 (.take 2 (.take 3 (.take 4 (.take 5 (.take 6 (.take 7 (.take 8 (.take 9 (.aG 10 (.take 11 (.take 12 (.aG 13 .done)))))))))))))) mixed (by kernel_rfl) ?_
  replace H := H.out (Out.drew _)
  refine WP.mv rfl rfl rfl (WP.mv rfl rfl rfl (WP.aC rfl rfl (PV.nilCheck rfl rfl) (WP.aC rfl rfl (PV.fieldAddr rfl yQ rfl) (WP.aM rfl rfl (RV.aV rfl wK rfl) (aN.aF (H.o 1 rfl) aK.hd rfl) (WP.mv rfl rfl rfl (WP.aC rfl rfl (PV.nilCheck rfl rfl) (WP.aC rfl rfl (PV.fieldAddr rfl pH rfl) ?_)))))))
  refine WP.aM rfl rfl (RV.aV rfl iQ rfl) (aN.aF (H.o 1 rfl) (aK.tl aK.hd rfl) rfl) ?_
  refine WP.dO rfl rfl rfl pV rfl (aN.aF (H.l 0 rfl) (aK.all _) rfl) (cI fH (by simp only [aS]; omega)) ?_
  refine WP.aG rfl ?_
  refine WL.call aKg rfl (aDF (T := T) (M := m) (k := kG lb) (lv := vv) (s := sv) (bits := bits) H.aR (H.o 0 rfl) (by exact (H.aO 0 rfl 1 rfl : aH _ (fO bh bc bits) _)) (by exact (H.aO 0 rfl 2 rfl : aH _ (cV bits T) _)) (by exact (H.aO 0 rfl 5 rfl : aH _ (aZ) _)) bU PY (by omega) (aH.wk1 (X := YY X _ _) (by exact (H.aO 0 rfl 4 rfl : aH _ (bL sv vv) _))) hT tY hs (by omega)) ?_
  rintro _ w4 ⟨aDA, aLf, rfl, aFN, hO, hB, hR⟩
  replace H := H.dP 0 rfl hO hB hR
  refine WL.nil ⟨(fa (nw 10 9) (fa (nw 10 8) (fa (nw 10 4) c8))), ?_⟩
  refine WP.aC rfl rfl (PV.nilCheck rfl rfl) (WP.aC rfl rfl (PV.fieldAddr rfl pH rfl) (WP.aG rfl ?_))
  refine WL.lQ H 1 rfl rfl rfl (new := [aDA.ptr]) rfl (by exact mI) (bB _ rfl) (Laid.at (Laid.tail Laid.head rfl) rfl) rfl ?_
  intro w5 H
  refine WL.nil ⟨(fa (nw 13 9) (fa (nw 13 8) (fa (nw 13 4) c8))), ?_⟩
  refine WP.done (WE.aA (WL.mv rfl rfl (WL.as rfl rfl (WL.nil (WE.ret ⟨[_], _, .nil _, ⟨rfl, trivial⟩, ?_⟩)))))
  exact ⟨aDA, _, by rw [aFN, if_pos hz, wF], H.lP, H.o 0 rfl, H.o 1 rfl, H.gH (by exact (H.bJ 0 rfl : aH _ (cV bits aDA) _)), H.gH (by exact (H.bJ 1 rfl : aH _ (fK [112, 117, 116] 0 (bW lb vv) pT) _))⟩
 ·
  try simp only [bP] at iW
  have hz : ¬ bW lb vv = 0 := by have h_ : gJ pT = false := iW; rw [tF] at h_; simpa using h_
  refine WE.skip (WE.aA (WL.mv rfl rfl (WL.as rfl rfl (WL.nil (WE.ret ⟨[_], _, .nil _, ⟨rfl, trivial⟩, ?_⟩)))))
  exact ⟨T, _, by rw [hT, if_neg hz], H.lP, H.o 0 rfl, H.o 1 rfl, H.gH (by exact (H.bJ 2 rfl : aH _ (cV bits T) _)), H.gH (by exact (H.bJ 0 rfl : aH _ (fK [112, 117, 116] 0 (bW lb vv) pT) _))⟩
theorem VT {X : Nat → Prop} {w : World} {bt bh : Nat} {bits : Int} {T : Tr} {m : List En} {s : Value} {lb : List UInt8} (hX : c6 X w) (fA : aN w bt 90 ([.pointer (some ⟨bh, 0, none⟩), T.ptr])) (bT : aH (fun c_ => X c_ ∨ c_ = bt) (cV bits T) w) (dJ : aH (fun c_ => X c_ ∨ c_ = bt) (bL s lb) w) (hT : T.er = grow 0 m) (hs : k9 m) (tY : KL m) (zQ : m.length ≤ 1000000) (FL : lb.length ≤ 9223372036854775807) :
  bC prog 19 [.pointer (some ⟨bt, 0, none⟩), s].toArray w fun v w' => ∃ sv2 ev, v = .tuple [sv2, .bool (decide (lb.length = 32) && kL m lb), ev].toArray ∧ Out Nil w w' ∧ aH (fun c => X c ∨ c = bt) (bL sv2 (if lb.length = 32 then gV m lb else [])) w' ∧ aH (fun c => X c ∨ c = bt) (fK [103, 101, 116] 0 (bW lb []) ev) w' := by
 refine bC.aI (N := 32) func19 rfl rfl (by simp) ?_
 have H := ((St.dK (b := bt) (t := 90) (l := [.pointer (some ⟨bh, 0, none⟩), T.ptr]) hX fA).add (cC dJ)).add (cC bT)
 have PY := oG lb
 have hrz := gG lb
 refine WE.aA (WL.as rfl rfl (WL.as rfl rfl (WL.as rfl rfl (WL.nil (WE.aA (WL.mv rfl rfl (WL.mv rfl rfl ?_)))))))
 refine WL.call aDb rfl (xI (bt := bt) (op := [103, 101, 116]) (lb := lb) (vv := []) H.aR (by exact H.bJ 1 rfl) (by exact fun _ _ => bL.nil _) (by assumption) (by simp_all)) ?_
 rintro _ w1 ⟨yU, rfl, hO, FY⟩
 have aJw := FY.here.Y5
 have LX := FY.here.isNil
 have aIv := FY.here.one
 replace H := (H.out hO).add FY
 refine WL.mv rfl rfl (WL.pv (PV.extract rfl rfl rfl) rfl (WL.pv (PV.extract rfl rfl rfl) rfl ?_))
 refine WL.alloc H rfl lC rfl ?_
 intro b7 w2 H
 refine WL.aW H 0 rfl rfl rfl (new := kc (kG lb) ++ [.slice none 0 0]) rfl (cI fH (by simp only [aS]; omega)) (by exact bN (bH _) (bB _ rfl)) (Laid.at (Laid.all (by simp only [aS]; omega)) rfl) rfl ?_
 intro w3 H
 refine WL.as rfl rfl (WL.nil (WE.seq (WE.aA (WL.mv rfl rfl (WL.pv (PV.rF rfl (by kernel_rfl) (by assumption)) rfl (WL.nil ?_))))))
 refine WE.cond rfl (fun r4 => ?_) (fun r4 => ?_)
 ·
  try simp only [bP] at r4
  have hz : ¬ bW lb [] = 0 := by have h_ : gJ yU = false := r4; rw [LX] at h_; simpa using h_
  have HV : ¬ lb.length = 32 := fun h => hz (by rw [hrz, if_pos h])
  refine WE.aA (WL.mv rfl rfl (WL.as rfl rfl (WL.as rfl rfl (WL.as rfl rfl (WL.nil (WE.ret ⟨[_, _, _], _, .nil _, ⟨rfl, rfl, rfl, trivial⟩, ?_⟩))))))
  refine ⟨.slice none 0 0, yU, ?_, (H.LH fA), (fun w_ _ => by rw [if_neg HV]; exact bL.nil w_), H.gA (by exact (H.bJ 0 rfl : aH _ (fK [103, 101, 116] 0 (bW lb []) yU) _))⟩
  rw [decide_eq_false HV]; rfl
 ·
  try simp only [bP] at r4
  have hz : bW lb [] = 0 := by have h_ : gJ yU = true := r4; rw [LX] at h_; simpa using h_
  have HV := (dN.1 hz).1
  have wF : kG lb = lb := if_pos HV
  refine WE.skip ?_
  refine WE.bG (.take 0 (.take 1 (.take 2 (.take 3 (.take 4 (.take 5 (.aG 6 (.take 7 (.take 8 (.take 9 (.take 10 (.take 11 .done)))))))))))) mixed (by kernel_rfl) ?_
  replace H := H.out (Out.drew _)
  refine WP.mv rfl rfl rfl (WP.aC rfl rfl (PV.nilCheck rfl rfl) (WP.aC rfl rfl (PV.fieldAddr rfl pH rfl) (WP.aM rfl rfl (RV.aV rfl iQ rfl) (aN.aF (H.o 0 rfl) (aK.tl aK.hd rfl) rfl) (WP.aC rfl rfl (PV.fieldAddr rfl gK rfl) ?_))))
  refine WP.dO rfl rfl rfl c7 rfl (aN.aF (H.l 0 rfl) (aK.l (aK.all _)) rfl) (cI cM (by simp only [aS]; omega)) ?_
  refine WP.aG rfl ?_
  refine WL.call aKf rfl (aDP (T := T) (m := m) (k := kG lb) (bits := bits) H.aR (by exact (H.bJ 1 rfl : aH _ (cV bits T) _)) PY hT hs tY) ?_
  rintro _ w4 ⟨gv, rfl, hO, hG⟩
  replace H := (H.out hO).add (show aH _ (bL gv (gV m (kG lb))) _ from hG)
  refine WL.nil ⟨(fa (nw 6 5) (fa (nw 6 3) c8)), ?_⟩
  refine WP.mv rfl rfl rfl (WP.aC rfl rfl (PV.extract rfl rfl rfl) (WP.aC rfl rfl (PV.extract rfl rfl rfl) (WP.as rfl rfl rfl (WP.as rfl rfl rfl (WP.done (WE.aA (WL.mv rfl rfl ?_)))))))
  refine WL.mv rfl rfl (WL.as rfl rfl (WL.as rfl rfl (WL.as rfl rfl (WL.nil (WE.ret ⟨[_, _, _], _, .nil _, ⟨rfl, rfl, rfl, trivial⟩, ?_⟩)))))
  have SO : yU = .nilIface := by rcases FY.here with ⟨_, h_⟩ | ⟨h_, _⟩; exact h_; exact absurd hz h_
  refine ⟨gv, yU, ?_, (H.LH fA), (H.gA (by exact (H.bJ 0 rfl : aH _ (bL gv (gV m (kG lb))) _))).imp (fun _ h => by rw [if_pos HV]; rw [wF] at h; exact h), H.gA (by exact (H.bJ 1 rfl : aH _ (fK [103, 101, 116] 0 (bW lb []) yU) _))⟩
  rw [decide_eq_true HV, SO, wF]; rfl
theorem VU {X : Nat → Prop} {w : World} {bt bh bc : Nat} {bits c0 : Int} {T : Tr} {m : List En} {s : Value} {lb : List UInt8} (hX : c6 X w) (fA : aN w bc 213 ([.int .i64 c0])) (vQ : aN w bt 90 ([.pointer (some ⟨bh, 0, none⟩), T.ptr])) (bT : aH (fun c_ => X c_ ∨ c_ = bc ∨ c_ = bt) (fO bh bc bits) w) (dJ : aH (fun c_ => X c_ ∨ c_ = bc ∨ c_ = bt) (cV bits T) w) (fQ : aH (fun c_ => X c_ ∨ c_ = bc ∨ c_ = bt) (bL s lb) w) (jW : aH (fun c_ => X c_ ∨ c_ = bc ∨ c_ = bt) (aZ) w) (hne : bc ≠ bt) (bU : 0 ≤ bits ∧ bits ≤ 256) (hT : T.er = grow 0 m) (hs : k9 m) (tY : KL m) (zQ : m.length ≤ 1000000) (FL : lb.length ≤ 9223372036854775807) :
  bC prog 20 [.pointer (some ⟨bt, 0, none⟩), s].toArray w fun v w' => ∃ (T' : Tr) (c' : Int) (ev : Value), v = .tuple [.bool (decide (lb.length = 32) && kL m lb), ev].toArray ∧ T'.er = grow 0 (if bW lb [] = 0 then fJ m lb else m) ∧ Out (fun c => c = bc ∨ c = bt) w w' ∧ aN w' bc 213 [.int .i64 c'] ∧ aN w' bt 90 [.pointer (some ⟨bh, 0, none⟩), T'.ptr] ∧ aH (fun c => X c ∨ c = bc ∨ c = bt) (cV bits T') w' ∧ aH (fun c => X c ∨ c = bc ∨ c = bt) (fK [100, 101, 108, 101, 116, 101] 0 (bW lb []) ev) w' := by
 refine bC.aI (N := 38) func20 rfl rfl (by simp) ?_
 have H := St.sF (b1 := bc) (b2 := bt) (t1 := 213) (t2 := 90) (l1 := [.int .i64 c0]) (l2 := [.pointer (some ⟨bh, 0, none⟩), T.ptr]) hX fA vQ hne
 replace H := H.add (iB jW)
 replace H := H.add (iB fQ)
 replace H := H.add (iB dJ)
 replace H := H.add (iB bT)
 have PY := oG lb
 have hrz := gG lb
 refine WE.aA (WL.as rfl rfl (WL.as rfl rfl (WL.nil (WE.aA (WL.mv rfl rfl (WL.mv rfl rfl ?_))))))
 refine WL.call aDb rfl (xI (bt := bt) (op := [100, 101, 108, 101, 116, 101]) (lb := lb) (vv := []) H.aR (by exact H.bJ 2 rfl) (by exact fun _ _ => bL.nil _) (by assumption) (by simp_all)) ?_
 rintro _ w1 ⟨pT, rfl, hO, rH⟩
 have aCQ := rH.here.Y5
 have tF := rH.here.isNil
 have Y9 := rH.here.one
 replace H := (H.out hO).add rH
 refine WL.mv rfl rfl (WL.pv (PV.extract rfl rfl rfl) rfl (WL.pv (PV.extract rfl rfl rfl) rfl ?_))
 refine WL.alloc H rfl lC rfl ?_
 intro b6 w2 H
 refine WL.aW H 0 rfl rfl rfl (new := kc (kG lb) ++ [.slice none 0 0]) rfl (cI fH (by simp only [aS]; omega)) (by exact bN (bH _) (bB _ rfl)) (Laid.at (Laid.all (by simp only [aS]; omega)) rfl) rfl ?_
 intro w3 H
 refine WL.as rfl rfl (WL.nil (WE.seq (WE.aA (WL.mv rfl rfl (WL.pv (PV.rF rfl (by kernel_rfl) (by assumption)) rfl (WL.nil ?_))))))
 refine WE.cond rfl (fun iW => ?_) (fun iW => ?_)
 ·
  try simp only [bP] at iW
  have hz : ¬ bW lb [] = 0 := by have h_ : gJ pT = false := iW; rw [tF] at h_; simpa using h_
  have HV : ¬ lb.length = 32 := fun h => hz (by rw [hrz, if_pos h])
  refine WE.aA (WL.mv rfl rfl (WL.as rfl rfl (WL.as rfl rfl (WL.nil (WE.ret ⟨[_, _], _, .nil _, ⟨rfl, rfl, trivial⟩, ?_⟩)))))
  refine ⟨T, _, pT, ?_, by rw [hT, if_neg hz], H.lP, H.o 0 rfl, H.o 1 rfl, H.gH (by exact (H.bJ 2 rfl : aH _ (cV bits T) _)), H.gH (by exact (H.bJ 0 rfl : aH _ (fK [100, 101, 108, 101, 116, 101] 0 (bW lb []) pT) _))⟩
  rw [decide_eq_false HV]; rfl
 ·
  try simp only [bP] at iW
  have hz : bW lb [] = 0 := by have h_ : gJ pT = true := iW; rw [tF] at h_; simpa using h_
  have HV := (dN.1 hz).1
  have wF : kG lb = lb := if_pos HV
  refine WE.skip ?_
  refine WE.bG (.take 0 (.take 1 (.take 2 (.take 3 (.take 4 (.take 5 (.take 6 (.take 7 (.take 8 (.take 9 (.aG 10 (.take 11 (.take 12 (.take 13 (.take 14 (.take 15 .done)))))))))))))))) mixed (by kernel_rfl) ?_
  replace H := H.out (Out.drew _)
  refine WP.mv rfl rfl rfl (WP.aC rfl rfl (PV.nilCheck rfl rfl) (WP.aC rfl rfl (PV.fieldAddr rfl yQ rfl) (WP.aM rfl rfl (RV.aV rfl wK rfl) (aN.aF (H.o 1 rfl) aK.hd rfl) (WP.mv rfl rfl rfl (WP.aC rfl rfl (PV.nilCheck rfl rfl) (WP.aC rfl rfl (PV.fieldAddr rfl pH rfl) (WP.aM rfl rfl (RV.aV rfl iQ rfl) (aN.aF (H.o 1 rfl) (aK.tl aK.hd rfl) rfl) ?_)))))))
  refine WP.aC rfl rfl (PV.fieldAddr rfl gK rfl) ?_
  refine WP.dO rfl rfl rfl c7 rfl (aN.aF (H.l 0 rfl) (aK.l (aK.all _)) rfl) (cI cM (by simp only [aS]; omega)) ?_
  refine WP.aG rfl ?_
  refine WL.call aKe rfl (PK (T := T) (M := m) (k := kG lb) (bits := bits) H.aR (H.o 0 rfl) (by exact (H.aO 0 rfl 1 rfl : aH _ (fO bh bc bits) _)) (by exact (H.aO 0 rfl 2 rfl : aH _ (cV bits T) _)) (by exact (H.aO 0 rfl 4 rfl : aH _ (aZ) _)) bU PY hT (hs.pm tY) (by omega)) ?_
  rintro _ w4 ⟨KC, aLP, aLM, rfl, TU, aFw, aKY, hO, hB, hR⟩
  replace H := H.dP 0 rfl hO hB hR
  refine WL.nil ⟨(fa (nw 10 9) (fa (nw 10 7) (fa (nw 10 3) c8))), ?_⟩
  refine WP.mv rfl rfl rfl (WP.aC rfl rfl (PV.extract rfl rfl rfl) (WP.aC rfl rfl (PV.extract rfl rfl rfl) (WP.as rfl rfl rfl (WP.as rfl rfl rfl (WP.done (WE.aA (WL.mv rfl rfl ?_)))))))
  refine WL.mv rfl rfl (WL.pv (PV.nilCheck rfl rfl) rfl (WL.pv (PV.fieldAddr rfl pH rfl) rfl ?_))
  refine WL.lQ H 1 rfl rfl rfl (new := [KC.ptr]) rfl (by exact mI) (bB _ rfl) (Laid.at (Laid.tail Laid.head rfl) rfl) rfl ?_
  intro w5 H
  refine WL.nil (WE.aA (WL.mv rfl rfl (WL.as rfl rfl (WL.as rfl rfl (WL.nil (WE.ret ⟨[_, _], _, .nil _, ⟨rfl, rfl, trivial⟩, ?_⟩))))))
  have SO : pT = .nilIface := by rcases rH.here with ⟨_, h_⟩ | ⟨h_, _⟩; exact h_; exact absurd hz h_
  refine ⟨KC, _, pT, ?_, by rw [TU, if_pos hz, wF], H.lP, H.o 0 rfl, H.o 1 rfl, H.gH (by exact (H.bJ 0 rfl : aH _ (cV bits KC) _)), H.gH (by exact (H.bJ 1 rfl : aH _ (fK [100, 101, 108, 101, 116, 101] 0 (bW lb []) pT) _))⟩
  rw [decide_eq_true HV, SO, aFw, wF]; rfl
noncomputable def aHJ : Array Value → Sem Value := (Extern.find f252).getD fun _ => pure (.bool false)
theorem coE (w : World) : (aHJ [.agg [(.pointer (some ⟨3, 42, none⟩))].toArray].toArray).run prog w = .ok (.bool true) w := by kernel_rfl
theorem BV : ∀ (l b : List Up) (i : Nat), (yY i b l).2 = 0 → yY i b l = (0, 0)
 | [], _, _, _ => rfl
 | u :: l, b, i, h => by
  unfold yY at h ⊢
  by_cases hu : mR b u = 0
  ·
   rw [if_neg (by simp [hu])] at h ⊢
   exact BV l (b ++ [u]) (i + 1) h
  ·
   rw [if_pos hu] at h; exact absurd h hu
theorem O0 {l : List Up} (h : (jR l).2 = 0) : (jR l).1 = 0 := by
 have := BV l [] 0 h
 unfold jR; rw [this]
theorem XL.perm {l l' : List Ch} (h : XL l) (hp : l.Perm l') : XL l' := fun c hc => h c (hp.mem_iff.2 hc)
theorem pP.perm {l l' : List Ch} (h : pP l) (hp : l.Perm l') : pP l' := fun c hc => h c (hp.mem_iff.2 hc)
theorem aE1 {X : Nat → Prop} {w : World}  (hX : c6 X w) :
  bC prog 98 [.iface 42 (.int .i64 0), .iface 42 (.int .i64 0), .bool true].toArray w fun v w' => v = .bool true ∧ Out Nil w w' := by
 refine bC.aI (N := 54) func98 rfl rfl (by simp) ?_
 have H := St.begin hX
 refine WE.aA (WL.as rfl rfl (WL.nil (WE.block ?_)))
 refine WE.j6 1 ?_
 refine dZ.step ?_
 refine WE.block (WE.seq (WE.aA (WL.mv rfl rfl (WL.mv rfl rfl (WL.known (t := 15) (c := true) rfl rfl (WL.mv rfl rfl (WL.mv rfl rfl ?_)))))))
 refine WL.pv (PV.UN rfl (by kernel_rfl) aIY (by kernel_rfl) rfl rfl) rfl (WL.pv (PV.c5 rfl rfl rfl) rfl (WL.nil ?_))
 refine WE.cR rfl rfl ?_
 refine WE.aA (WL.as rfl rfl (WL.nil (WE.ret ⟨[_], _, .nil _, ⟨rfl, trivial⟩, ?_⟩)))
 refine ⟨?_, H.aL⟩
 rfl
theorem aIm {X : Nat → Prop} {w : World}  (hX : c6 X w) :
  bC prog 56 [.iface 42 (.int .i64 0), .iface 42 (.int .i64 0)].toArray w fun v w' => v = .bool true ∧ Out Nil w w' := by
 refine bC.aI (N := 22) func56 rfl rfl (by simp) ?_
 have H := St.begin hX
 refine WE.aA (WL.as rfl rfl (WL.nil (WE.seq (WE.aA (WL.mv rfl rfl ?_)))))
 refine WL.pv (PV.qL rfl (by kernel_rfl) (by exact zS.of)) rfl ?_
 refine WL.mv rfl rfl (WL.known (t := 8) (c := false) rfl rfl (WL.mv rfl rfl ?_))
 refine WL.pv (PV.qL rfl (by kernel_rfl) (by exact zS.of)) rfl ?_
 refine WL.pv (PV.cF rfl rfl rfl) rfl (WL.nil ?_)
 refine WE.bD rfl rfl ?_
 refine WE.skip (WE.aA (WL.mv rfl rfl ?_))
 refine WL.extern (e := Extern.ReflectliteType.typeOf) func97 (by kernel_rfl) (by kernel_rfl) (by kernel_rfl) (by kernel_rfl) rfl (toE 0 _) ?_
 refine WL.jV (e := aHJ) rfl (fun w => meC _ w) func252 (by kernel_rfl) (by kernel_rfl) (by kernel_rfl) (by kernel_rfl) rfl (coE _) ?_
 refine WL.as rfl rfl (WL.nil (WE.aA (WL.mv rfl rfl (WL.mv rfl rfl (WL.mv rfl rfl ?_)))))
 refine WL.call aJR rfl (aE1 H.aR) ?_
 rintro _ w3 ⟨rfl, hO⟩
 replace H := H.out hO
 refine WL.as rfl rfl (WL.nil (WE.ret ⟨[_], _, .nil _, ⟨rfl, trivial⟩, ?_⟩))
 refine ⟨?_, H.aL⟩
 rfl
theorem G4 {X : Nat → Prop} {w : World} {bt bh bc : Nat} {bits c0 : Int} {T : Tr} {m : List En} {s : Value} {l : List Up} (hX : c6 X w) (fA : aN w bc 213 ([.int .i64 c0])) (vQ : aN w bt 90 ([.pointer (some ⟨bh, 0, none⟩), T.ptr])) (bT : aH (fun c_ => X c_ ∨ c_ = bc ∨ c_ = bt) (fO bh bc bits) w) (dJ : aH (fun c_ => X c_ ∨ c_ = bc ∨ c_ = bt) (cV bits T) w) (fQ : aH (fun c_ => X c_ ∨ c_ = bc ∨ c_ = bt) (kE s l) w) (jW : aH (fun c_ => X c_ ∨ c_ = bc ∨ c_ = bt) (dV l) w) (nM : aH (fun c_ => X c_ ∨ c_ = bc ∨ c_ = bt) (aZ) w) (hne : bc ≠ bt) (bU : 0 ≤ bits ∧ bits ≤ 256) (hT : T.er = grow 0 m) (hs : k9 m) (tY : KL m) (zQ : m.length ≤ 1000) (hlen : l.length ≤ 1000) (LS : ∀ u ∈ l, u.k.length ≤ 9223372036854775807 ∧ u.v.length ≤ 9223372036854775807) :
  bC prog 21 [.pointer (some ⟨bt, 0, none⟩), s].toArray w fun v w' => ∃ (T' : Tr) (c' : Int), T'.er = grow 0 (if (jR l).2 = 0 then uD m l else m) ∧ Out (fun c => c = bc ∨ c = bt) w w' ∧ aN w' bc 213 [.int .i64 c'] ∧ aN w' bt 90 [.pointer (some ⟨bh, 0, none⟩), T'.ptr] ∧ aH (fun c => X c ∨ c = bc ∨ c = bt) (cV bits T') w' ∧ aH (fun c => X c ∨ c = bc ∨ c = bt) (fK [97, 112, 112, 108, 121] (((jR l).1 : Nat) : Int) (jR l).2 v) w' := by
 refine bC.aI (N := 43) func21 rfl rfl (by simp) ?_
 have H := St.sF (b1 := bc) (b2 := bt) (t1 := 213) (t2 := 90) (l1 := [.int .i64 c0]) (l2 := [.pointer (some ⟨bh, 0, none⟩), T.ptr]) hX fA vQ hne
 replace H := H.add (iB nM)
 replace H := H.add (iB jW)
 replace H := H.add (iB fQ)
 replace H := H.add (iB dJ)
 replace H := H.add (iB bT)
 refine WE.aA (WL.as rfl rfl (WL.nil (WE.seq (WE.aA (WL.mv rfl rfl (WL.pv (PV.jU rfl IV rfl rfl) rfl (WL.nil ?_)))))))
 refine WE.bD rfl rfl ?_
 refine WE.skip (WE.aA (WL.mv rfl rfl ?_))
 refine WL.call aKd rfl (JX (s := s) (l := l) H.aR (by exact (H.bJ 2 rfl : aH _ (kE s l) _)) (by exact (H.bJ 3 rfl : aH _ (dV l) _)) hlen LS) ?_
 rintro _ w1 ⟨v1_, v2_, rfl, hO, hE, hC⟩
 have aLJ := hE.here.Y5
 have aBf := hE.here.isNil
 replace H := (H.out hO).add (show aH _ (fK [97, 112, 112, 108, 121] (((jR l).1 : Nat) : Int) (jR l).2 v2_) _ from hE)
 refine WL.mv rfl rfl (WL.pv (PV.extract rfl rfl rfl) rfl (WL.pv (PV.extract rfl rfl rfl) rfl (WL.as rfl rfl (WL.as rfl rfl (WL.nil (WE.seq (WE.aA ?_)))))))
 refine WL.mv rfl rfl (WL.pv (PV.rF rfl (by kernel_rfl) (by assumption)) rfl (WL.nil ?_))
 refine WE.cond rfl (fun r4 => ?_) (fun r4 => ?_)
 ·
  try simp only [bP] at r4
  have hz : ¬ (jR l).2 = 0 := by have h_ : gJ v2_ = false := r4; rw [aBf] at h_; simpa using h_
  refine WE.aA (WL.mv rfl rfl (WL.as rfl rfl (WL.nil (WE.ret ⟨[_], _, .nil _, ⟨rfl, trivial⟩, ?_⟩))))
  exact ⟨T, _, by rw [hT, if_neg hz], H.lP, H.o 0 rfl, H.o 1 rfl, H.gH (by exact (H.bJ 2 rfl : aH _ (cV bits T) _)), H.gH (by exact (H.bJ 0 rfl : aH _ (fK [97, 112, 112, 108, 121] (((jR l).1 : Nat) : Int) (jR l).2 v2_) _))⟩
 ·
  try simp only [bP] at r4
  have hz : (jR l).2 = 0 := by have h_ : gJ v2_ = true := r4; rw [aBf] at h_; simpa using h_
  obtain ⟨cs, hSc, hVc, rG, aJr⟩ := hC hz
  have hgu := (u4 hz).ch
  have hxc := hgu.1.perm rG
  have aI7 := hgu.2.2.perm rG
  have hlc : cs.length = l.length := by rw [← rG.length_eq, List.length_map]
  have aJE : mG m cs = uD m l := by rw [aB6, VI rG hgu.2.1 hs tY hgu.1]
  replace H := (H.add hVc).add hSc
  refine WE.skip ?_
  refine WE.bG (.take 0 (.take 1 (.take 2 (.take 3 (.take 4 (.take 5 (.take 6 (.take 7 (.take 8 (.aG 9 (.take 10 (.take 11 (.take 12 (.take 13 (.take 14 .done))))))))))))))) mixed (by kernel_rfl) ?_
  replace H := H.out (Out.drew _)
  refine WP.mv rfl rfl rfl (WP.aC rfl rfl (PV.nilCheck rfl rfl) (WP.aC rfl rfl (PV.fieldAddr rfl yQ rfl) (WP.aM rfl rfl (RV.aV rfl wK rfl) (aN.aF (H.o 1 rfl) aK.hd rfl) (WP.mv rfl rfl rfl (WP.aC rfl rfl (PV.nilCheck rfl rfl) (WP.aC rfl rfl (PV.fieldAddr rfl pH rfl) (WP.aM rfl rfl (RV.aV rfl iQ rfl) (aN.aF (H.o 1 rfl) (aK.tl aK.hd rfl) rfl) ?_)))))))
  refine WP.mv rfl rfl rfl (WP.aG rfl ?_)
  refine WL.call aKc rfl (PU (T := T) (m := m) (l := cs) (s := v1_) (bits := bits) H.aR (H.o 0 rfl) (by exact (H.aO 0 rfl 3 rfl : aH _ (fO bh bc bits) _)) (by exact (H.aO 0 rfl 4 rfl : aH _ (cV bits T) _)) (by exact (H.aO 0 rfl 0 rfl : aH _ (gN v1_ cs) _)) (by exact (H.aO 0 rfl 1 rfl : aH _ (iA cs) _)) (by exact (H.aO 0 rfl 7 rfl : aH _ (aZ) _)) bU hT hs tY hxc aI7 aJr.chk (by omega)) ?_
  rintro _ w2 ⟨KC, aLe, rfl, TU, hO, hB, hR⟩
  replace H := H.dP 0 rfl hO hB hR
  refine WL.nil ⟨(fa (nw 9 7) (fa (nw 9 3) c8)), ?_⟩
  refine WP.mv rfl rfl rfl (WP.aC rfl rfl (PV.extract rfl rfl rfl) (WP.aC rfl rfl (PV.extract rfl rfl rfl) (WP.as rfl rfl rfl (WP.as rfl rfl rfl (WP.done (WE.seq (WE.aA ?_)))))))
  refine WL.mv rfl rfl (WL.pv (PV.lK rfl (by kernel_rfl)) rfl (WL.pv (PV.lK rfl (by kernel_rfl)) rfl ?_))
  refine WL.call aKb rfl (aIm H.aR) ?_
  rintro _ w3 ⟨rfl, hO⟩
  replace H := H.out hO
  refine WL.nil ?_
  refine WE.cR rfl rfl ?_
  refine WE.dW (WL.mv rfl rfl (WL.mv rfl rfl (WL.pv (PV.nilCheck rfl rfl) rfl (WL.pv (PV.fieldAddr rfl pH rfl) rfl ?_))))
  refine WL.lQ H 1 rfl rfl rfl (new := [KC.ptr]) rfl (by exact mI) (bB _ rfl) (Laid.at (Laid.tail Laid.head rfl) rfl) rfl ?_
  intro w4 H
  refine WL.nil (WE.aA (WL.mv rfl rfl ?_))
  refine WL.call aDa rfl (JT (op := [97, 112, 112, 108, 121]) (ix := 0) (code := 0) H.aR  ) ?_
  rintro v42 w5 ⟨hO, hR⟩
  replace H := (H.out hO).add hR
  refine WL.as rfl rfl (WL.nil (WE.ret ⟨[_], _, .nil _, ⟨rfl, trivial⟩, ?_⟩))
  exact ⟨KC, _, by rw [TU, if_pos hz, aJE], H.lP, H.o 0 rfl, H.o 1 rfl, H.gH (by exact (H.bJ 1 rfl : aH _ (cV bits KC) _)), (H.gH (H.bJ 0 rfl)).imp fun _ h => by rw [O0 hz, hz]; exact h⟩
theorem St.aDx {X : Nat → Prop} {w0 w : World} {b1 b2 : Nat} {t1 t2 : TypeId} {l1 l2 DX FC : List Value} {L : List aP} {Ps : List (World → Prop)} {p : World → Prop} (H : St X w0 w [aP.blk b1 t1 DX, aP.blk b2 t2 FC] L Ps) (hp : aH (fun c => YY X [aP.blk b1 t1 l1, aP.blk b2 t2 l2] L c ∨ c = b1 ∨ c = b2) p w) : St X w0 w [aP.blk b1 t1 DX, aP.blk b2 t2 FC] L (p :: Ps) :=
 H.add (hp.mono fun c _ hc => by
  rcases hc with hc | ⟨e, he, hb⟩ | hc
  ·
   exact .inl (.inl hc)
  ·
   rcases List.mem_cons.1 he with rfl | he
   ·
    exact .inr (.inl hb)
   ·
    rw [List.mem_singleton.1 he] at hb; exact .inr (.inr hb)
  ·
   exact .inl (.inr (.inr hc)))
theorem eC.rm {m : List En} {k : List UInt8} {w : World} (h : eC m w) : eC (fJ m k) w := fun e he => h e (jK.1 he).1
theorem eC.aEJ {m : List En} {k v : List UInt8} {s : Value} {w : World} (h : eC m w) (hs : bL s v w) : eC (iC m ⟨k, s, v⟩) w := fun e he => by
 rcases oE.1 he with rfl | he
 ·
  exact hs
 ·
  exact h e he.1
theorem eC.dG : ∀ (l : List Up) {m : List En} {w : World}, eC m w → dV l w → eC (uD m l) w
 | [], _, _, h, _ => h
 | u :: l, m, w, h, hu => eC.dG l (m := VH m u) (by
  unfold VH
  split
  ·
   exact h.rm
  ·
   exact h.aEJ (hu u (by simp)).2) fun x hx => hu x (List.mem_cons_of_mem _ hx)
def A3 (m : List En) (k : List UInt8) : Bool := decide (k.length = 32) && kL m k
def zP (m : List En) (k : List UInt8) : List UInt8 := if k.length = 32 then gV m k else []
theorem aHI {m : List En} {o : nW} (h : o.n = 0) : pZ m o = if bW o.k o.v = 0 then iC m ⟨o.k, o.sv, o.v⟩ else m := by unfold pZ; rw [if_pos h]
theorem aDl {m : List En} {o : nW} (h : o.n = 1) : pZ m o = m := by unfold pZ; rw [if_neg (by omega), if_pos h]
theorem Z8 {m : List En} {o : nW} (h : o.n = 2) : pZ m o = if bW o.k [] = 0 then fJ m o.k else m := by unfold pZ; rw [if_neg (by omega), if_neg (by omega), if_pos h]
theorem aHH {m : List En} {o : nW} (h : o.n ≠ 0 ∧ o.n ≠ 1 ∧ o.n ≠ 2) : pZ m o = if (jR o.b).2 = 0 then uD m o.b else m := by unfold pZ; rw [if_neg h.1, if_neg h.2.1, if_neg h.2.2]
theorem UP {m : List En} {o : nW} (h : o.n = 2) (hh : A3 m o.k = true) : pZ m o = fJ m o.k := by
 unfold A3 at hh
 simp at hh
 rw [Z8 h, gG, if_pos hh.1, if_pos rfl]
theorem UO {m : List En} {o : nW} (h : o.n = 2) (hh : A3 m o.k = false) : pZ m o = m := by
 unfold A3 at hh
 rw [Z8 h, gG]
 by_cases hk : o.k.length = 32
 ·
  rw [if_pos hk, if_pos rfl]
  rw [decide_eq_true hk, Bool.true_and] at hh
  exact CF hh
 ·
  rw [if_neg hk, if_neg (by decide)]
theorem aIr {X : Nat → Prop} {w : World} {bt bh bc : Nat} {bits c0 : Int} {T : Tr} {m : List En} {s2 : Value} {o : nW} {nn : Nat} (hX : c6 X w) (fA : aN w bc 213 ([.int .i64 c0])) (vQ : aN w bt 90 ([.pointer (some ⟨bh, 0, none⟩), T.ptr])) (bT : aH (fun c_ => X c_ ∨ c_ = bc ∨ c_ = bt) (fO bh bc bits) w) (dJ : aH (fun c_ => X c_ ∨ c_ = bc ∨ c_ = bt) (cV bits T) w) (fQ : aH (fun c_ => X c_ ∨ c_ = bc ∨ c_ = bt) (fF s2 m) w) (jW : aH (fun c_ => X c_ ∨ c_ = bc ∨ c_ = bt) (eC m) w) (nM : aH (fun c_ => X c_ ∨ c_ = bc ∨ c_ = bt) (OV o) w) (sK : aH (fun c_ => X c_ ∨ c_ = bc ∨ c_ = bt) (aZ) w) (DZ : aH (fun c_ => X c_ ∨ c_ = bc ∨ c_ = bt) (eV) w) (hne : bc ≠ bt) (bU : 0 ≤ bits ∧ bits ≤ 256) (hT : T.er = grow 0 m) (pD : e9 nn m) (ZA : nn ≤ 500) (hko : o.k.length ≤ 100) (hvo : o.v.length ≤ 70000) (JP : DS o.b) (hn : o.n = 0) :
  bC prog 17 [.pointer (some ⟨bt, 0, none⟩), s2, .agg (uO o).toArray].toArray w fun v w' => ∃ (T' : Tr) (c' : Int) (s3 : Value), v = .tuple [s3, .bool false].toArray ∧ T'.er = grow 0 (pZ m o) ∧ Out (fun c => c = bc ∨ c = bt) w w' ∧ aN w' bc 213 [.int .i64 c'] ∧ aN w' bt 90 [.pointer (some ⟨bh, 0, none⟩), T'.ptr] ∧ aH (fun c => X c ∨ c = bc ∨ c = bt) (cV bits T') w' ∧ aH (fun c => X c ∨ c = bc ∨ c = bt) (fF s3 (pZ m o)) w' ∧ aH (fun c => X c ∨ c = bc ∨ c = bt) (eC (pZ m o)) w' := by
 refine bC.aI (N := 132) func17 rfl rfl (by simp) ?_
 have H := St.sF (b1 := bc) (b2 := bt) (t1 := 213) (t2 := 90) (l1 := [.int .i64 c0]) (l2 := [.pointer (some ⟨bh, 0, none⟩), T.ptr]) hX fA vQ hne
 replace H := H.add (iB DZ)
 replace H := H.add (iB sK)
 replace H := H.add (iB nM)
 replace H := H.add (iB jW)
 replace H := H.add (iB fQ)
 replace H := H.add (iB dJ)
 replace H := H.add (iB bT)
 have FJ := qO.of (jW.here)
 have hs := pD.s
 have tY := pD.k
 have zQ := pD.l
 have uU : (List.replicate 32 (0 : UInt8)).length = 32 := List.length_replicate
 refine WE.aA ?_
 refine WL.box (l := uO o) H rfl rfl rfl ?_
 intro b5 w1 H
 refine WL.as rfl rfl (WL.as rfl rfl (WL.nil (WE.seq (WE.aA (WL.pv (PV.fieldAddr rfl iP rfl) rfl (WL.aX rfl l9 rfl rfl (aN.aF (H.l 0 rfl) aK.hd rfl) (WL.nil ?_)))))))
 refine WE.block (WE.aA (WL.pv (PV.eql rfl rfl rfl) rfl (WL.as rfl rfl (WL.nil ?_))))
 refine WE.cR rfl (by simp [hn]) ?_
 refine WE.aA (WL.pv (PV.fieldAddr rfl j4 rfl) rfl (WL.aX rfl eH rfl rfl (aN.aF (H.l 0 rfl) (aK.tl aK.hd rfl) rfl) (WL.pv (PV.fieldAddr rfl u2 rfl) rfl (WL.aX rfl eH rfl rfl (aN.aF (H.l 0 rfl) (aK.tl (aK.tl aK.hd rfl) rfl) rfl) ?_))))
 refine WL.call Z3 rfl (o8 (lb := o.k) (vv := o.v) H.aR (by exact (H.bJ 4 rfl : aH _ (OV o) _).imp fun _ h => h.1) (by exact (H.bJ 4 rfl : aH _ (OV o) _).imp fun _ h => h.2.1)) ?_
 rintro _ w2 ⟨rfl, hO⟩
 replace H := H.out hO
 refine WL.as rfl rfl (WL.nil (WE.seq (WE.aA (WL.mv rfl rfl (WL.pv (PV.fieldAddr rfl j4 rfl) rfl (WL.aX rfl eH rfl rfl (aN.aF (H.l 0 rfl) (aK.tl aK.hd rfl) rfl) (WL.pv (PV.fieldAddr rfl u2 rfl) rfl ?_)))))))
 refine WL.aX rfl eH rfl rfl (aN.aF (H.l 0 rfl) (aK.tl (aK.tl aK.hd rfl) rfl) rfl) ?_
 refine WL.call aDg rfl (KD (bt := bt) (bh := bh) (bc := bc) (bits := bits) (T := T) (m := m) (s := o.sk) (sv := o.sv) (lb := o.k) (vv := o.v) H.aR (H.o 0 rfl) (H.o 1 rfl) (by exact (H.nC 0 rfl : aH _ (fO bh bc bits) _)) (by exact (H.nC 1 rfl : aH _ (cV bits T) _)) (by exact (H.nC 4 rfl : aH _ (OV o) _).imp fun _ h => h.1) (by exact (H.nC 4 rfl : aH _ (OV o) _).imp fun _ h => h.2.1) (by exact (H.nC 5 rfl : aH _ (aZ) _)) hne bU hT hs tY (by omega) (by omega) (by omega)) ?_
 rintro aBI w3 ⟨aAo, aLO, aBp, hO, uX, qS, hR, aF1⟩
 have H_ := H.u5 hO uX qS hR
 replace H := St.aDx H_ aF1
 refine WL.mv rfl rfl ?_
 refine WL.call Z2 rfl (wN (op := [112, 117, 116]) (ix := 0) (code := bW o.k o.v) (ev := aBI) H.aR (by exact (H.bJ 8 rfl : aH _ (eV) _)) (by exact (H.bJ 0 rfl : aH _ (fK [112, 117, 116] 0 (bW o.k o.v) aBI) _))) ?_
 rintro _ w4 ⟨rfl, hO⟩
 replace H := H.out hO
 refine WL.nil ?_
 refine WE.bD rfl rfl ?_
 refine WE.skip (WE.seq (WE.aA (WL.mv rfl rfl (WL.pv (PV.neq rfl rfl rfl) rfl (WL.nil ?_)))))
 refine WE.cond rfl (fun yM => ?_) (fun yM => ?_)
 ·
  try simp only [bP] at yM
  have hz : ¬ bW o.k o.v = 0 := by exact yM
  have C5 : pZ m o = m := by rw [aHI hn, if_neg hz]
  refine WE.aA (WL.mv rfl rfl (WL.as rfl rfl (WL.as rfl rfl (WL.nil (WE.ret ⟨[_, _], _, .nil _, ⟨rfl, rfl, trivial⟩, ?_⟩)))))
  refine ⟨aAo, _, s2, ?_, ?_, H.lP, H.o 0 rfl, H.o 1 rfl, H.gH (by exact (H.bJ 1 rfl : aH _ (cV bits aAo) _)), ?_, ?_⟩
  ·
   rfl
  ·
   rw [aBp, if_neg hz, C5]
  ·
   rw [C5]; exact H.gH (by exact (H.bJ 4 rfl : aH _ (fF s2 m) _))
  ·
   rw [C5]; exact H.gH (by exact (H.bJ 5 rfl : aH _ (eC m) _))
 ·
  try simp only [bP] at yM
  have hz : bW o.k o.v = 0 := by exact yM
  have C5 : pZ m o = iC m ⟨o.k, o.sv, o.v⟩ := by rw [aHI hn, if_pos hz]
  have aBk := (dN.1 hz).1
  have aKS := (dN.1 hz).2
  refine WE.skip ?_
  refine WE.bG (.take 0 (.take 1 (.take 2 (.take 4 (.take 5 (.aG 3 (.aG 6 (.take 7 (.take 8 .done))))))))) mixed (by kernel_rfl) ?_
  replace H := H.out (Out.drew _)
  refine WP.mv rfl rfl rfl (WP.aC rfl rfl (PV.fieldAddr rfl j4 rfl) (WP.aM rfl rfl (RV.aV rfl eH rfl) (aN.aF (H.l 0 rfl) (aK.tl aK.hd rfl) rfl) (WP.aC rfl rfl (PV.fieldAddr rfl u2 rfl) (WP.aM rfl rfl (RV.aV rfl eH rfl) (aN.aF (H.l 0 rfl) (aK.tl (aK.tl aK.hd rfl) rfl) rfl) (WP.aG rfl ?_)))))
  refine WL.call T5 rfl (sW (lb := o.k) H.aR (by exact (H.bJ 6 rfl : aH _ (OV o) _).imp fun _ h => h.1) aBk) ?_
  rintro _ w5 ⟨rfl, hO⟩
  replace H := H.out hO
  refine WL.nil ⟨(fa (rk hO) (fa (nw 3 2) c8)), ?_⟩
  refine WP.aG rfl ?_
  refine WL.call aGl rfl (aBV (s := s2) (m := m) (q := o.k) (vv := o.v) H.aR (by exact (H.bJ 4 rfl : aH _ (fF s2 m) _)) (by exact (H.bJ 6 rfl : aH _ (OV o) _).imp fun _ h => h.2.1) tY FJ (by omega) aBk) ?_
  rintro v46 w6 ⟨hO, hR⟩
  replace H := (H.out hO).add (show aH _ (fF v46 (iC m ⟨o.k, o.sv, o.v⟩)) _ from hR)
  refine WL.nil ⟨(fa (nw 6 5) (fa (nw 6 2) c8)), ?_⟩
  refine WP.as rfl rfl rfl (WP.as rfl rfl rfl (WP.done (WE.ret ⟨[_, _], _, .nil _, ⟨rfl, rfl, trivial⟩, ?_⟩)))
  refine ⟨aAo, _, v46, ?_, ?_, H.lP, H.o 0 rfl, H.o 1 rfl, H.gH (by exact (H.bJ 2 rfl : aH _ (cV bits aAo) _)), ?_, ?_⟩
  ·
   rfl
  ·
   rw [aBp, if_pos hz, C5]
  ·
   rw [C5]; exact H.gH (by exact (H.bJ 0 rfl : aH _ (fF v46 (iC m ⟨o.k, o.sv, o.v⟩)) _))
  ·
   rw [C5]; exact (H.gH (aH.and (show aH _ (eC m) _ from (by exact (H.bJ 6 rfl : aH _ (eC m) _))) (show aH _ (OV o) _ from (by exact (H.bJ 7 rfl : aH _ (OV o) _))))).imp fun _ h => eC.aEJ h.1 h.2.2.1
theorem aIq {X : Nat → Prop} {w : World} {bt bh bc : Nat} {bits c0 : Int} {T : Tr} {m : List En} {s2 : Value} {o : nW} {nn : Nat} (hX : c6 X w) (fA : aN w bc 213 ([.int .i64 c0])) (vQ : aN w bt 90 ([.pointer (some ⟨bh, 0, none⟩), T.ptr])) (bT : aH (fun c_ => X c_ ∨ c_ = bc ∨ c_ = bt) (fO bh bc bits) w) (dJ : aH (fun c_ => X c_ ∨ c_ = bc ∨ c_ = bt) (cV bits T) w) (fQ : aH (fun c_ => X c_ ∨ c_ = bc ∨ c_ = bt) (fF s2 m) w) (jW : aH (fun c_ => X c_ ∨ c_ = bc ∨ c_ = bt) (eC m) w) (nM : aH (fun c_ => X c_ ∨ c_ = bc ∨ c_ = bt) (OV o) w) (sK : aH (fun c_ => X c_ ∨ c_ = bc ∨ c_ = bt) (aZ) w) (DZ : aH (fun c_ => X c_ ∨ c_ = bc ∨ c_ = bt) (eV) w) (hne : bc ≠ bt) (bU : 0 ≤ bits ∧ bits ≤ 256) (hT : T.er = grow 0 m) (pD : e9 nn m) (ZA : nn ≤ 500) (hko : o.k.length ≤ 100) (hvo : o.v.length ≤ 70000) (JP : DS o.b) (hn : o.n = 1) :
  bC prog 17 [.pointer (some ⟨bt, 0, none⟩), s2, .agg (uO o).toArray].toArray w fun v w' => ∃ (T' : Tr) (c' : Int) (s3 : Value), v = .tuple [s3, .bool false].toArray ∧ T'.er = grow 0 (pZ m o) ∧ Out (fun c => c = bc ∨ c = bt) w w' ∧ aN w' bc 213 [.int .i64 c'] ∧ aN w' bt 90 [.pointer (some ⟨bh, 0, none⟩), T'.ptr] ∧ aH (fun c => X c ∨ c = bc ∨ c = bt) (cV bits T') w' ∧ aH (fun c => X c ∨ c = bc ∨ c = bt) (fF s3 (pZ m o)) w' ∧ aH (fun c => X c ∨ c = bc ∨ c = bt) (eC (pZ m o)) w' := by
 refine bC.aI (N := 132) func17 rfl rfl (by simp) ?_
 have H := St.sF (b1 := bc) (b2 := bt) (t1 := 213) (t2 := 90) (l1 := [.int .i64 c0]) (l2 := [.pointer (some ⟨bh, 0, none⟩), T.ptr]) hX fA vQ hne
 replace H := H.add (iB DZ)
 replace H := H.add (iB sK)
 replace H := H.add (iB nM)
 replace H := H.add (iB jW)
 replace H := H.add (iB fQ)
 replace H := H.add (iB dJ)
 replace H := H.add (iB bT)
 have FJ := qO.of (jW.here)
 have hs := pD.s
 have tY := pD.k
 have zQ := pD.l
 have uU : (List.replicate 32 (0 : UInt8)).length = 32 := List.length_replicate
 refine WE.aA ?_
 refine WL.box (l := uO o) H rfl rfl rfl ?_
 intro b5 w1 H
 refine WL.as rfl rfl (WL.as rfl rfl (WL.nil (WE.seq (WE.aA (WL.pv (PV.fieldAddr rfl iP rfl) rfl (WL.aX rfl l9 rfl rfl (aN.aF (H.l 0 rfl) aK.hd rfl) (WL.nil ?_)))))))
 refine WE.block (WE.aA (WL.pv (PV.eql rfl rfl rfl) rfl (WL.as rfl rfl (WL.nil ?_))))
 refine WE.bD rfl (by simp [hn]) ?_
 refine WE.seq (WE.aA (WL.pv (PV.eql rfl rfl rfl) rfl (WL.as rfl rfl (WL.nil ?_))))
 refine WE.cR rfl (by simp [hn]) ?_
 refine WE.skip ?_
 refine WE.cR rfl (by simp [hn]) ?_
 refine WE.aA (WL.pv (PV.fieldAddr rfl j4 rfl) rfl (WL.aX rfl eH rfl rfl (aN.aF (H.l 0 rfl) (aK.tl aK.hd rfl) rfl) ?_))
 refine WL.call Z3 rfl (o8 (lb := o.k) (vv := []) H.aR (by exact (H.bJ 4 rfl : aH _ (OV o) _).imp fun _ h => h.1) (fun w_ _ => bL.nil w_)) ?_
 rintro _ w2 ⟨rfl, hO⟩
 replace H := H.out hO
 refine WL.as rfl rfl (WL.nil (WE.aA (WL.as rfl rfl (WL.nil (WE.aA (WL.as rfl rfl (WL.nil ?_)))))))
 refine WE.cut (α := Value) (rg [(10, 2), (53, 10)]) (fun oJ => [(10, oJ), (11, .bool (A3 m o.k))]) (fun oJ wl => St X w wl [aP.blk bc 213 [.int .i64 c0], aP.blk bt 90 [.pointer (some ⟨bh, 0, none⟩), T.ptr]] [aP.blk b5 56 (uO o)] [bL oJ (zP m o.k), fO bh bc bits, cV bits T, fF s2 m, eC m, OV o, aZ, eV]) ?_ ?_
 ·
  refine WE.aA (WL.mv rfl rfl (WL.pv (PV.eql rfl rfl rfl) rfl (WL.nil ?_)))
  refine WE.cond rfl (fun yL => ?_) (fun yL => ?_)
  ·
   try simp only [bP] at yL
   have JE : bW o.k [] = 0 := by exact yL
   have pX := (dN.1 JE).1
   have hoh : kL m o.k = A3 m o.k := by unfold A3; rw [decide_eq_true pX, Bool.true_and]
   have wR : gV m o.k = zP m o.k := by unfold zP; rw [if_pos pX]
   refine WE.dW (WL.mv rfl rfl (WL.pv (PV.fieldAddr rfl j4 rfl) rfl (WL.aX rfl eH rfl rfl (aN.aF (H.l 0 rfl) (aK.tl aK.hd rfl) rfl) ?_)))
   refine WL.call T5 rfl (sW (lb := o.k) H.aR (by exact (H.bJ 4 rfl : aH _ (OV o) _).imp fun _ h => h.1) pX) ?_
   rintro _ w3 ⟨rfl, hO⟩
   replace H := H.out hO
   refine WL.call aGn rfl (AX (s := s2) (m := m) (k := o.k) H.aR (by exact (H.bJ 2 rfl : aH _ (fF s2 m) _)) tY (by omega) pX) ?_
   rintro _ w4 ⟨rfl, hO⟩
   replace H := H.out hO
   replace H := H.add (show aH _ (bL (gS m o.k) (gV m o.k)) _ from ((by exact (H.bJ 3 rfl : aH _ (eC m) _)) : aH _ (eC m) _).imp fun _ h => T2 h _)
   refine WL.mv rfl rfl (WL.pv (PV.extract rfl rfl rfl) rfl (WL.pv (PV.extract rfl rfl rfl) rfl (WL.as rfl rfl (WL.as rfl rfl (WL.nil ?_)))))
   exact ⟨(gS m o.k), (by repeat (first | with_reducible exact bK.refl _ _ | refine bK.dG rfl ?_)), ⟨rfl, (by (show Value.bool _ = _; rw [hoh])), trivial⟩, rfl, (show St X w _ _ _ [bL (gS m o.k) (zP m o.k), _, _, _, _, _, _, _] by rw [← wR]; exact H)⟩
  ·
   try simp only [bP] at yL
   have JE : ¬ bW o.k [] = 0 := by exact yL
   have pX : ¬ o.k.length = 32 := fun h => JE (by rw [gG, if_pos h])
   have hoh : false = A3 m o.k := by unfold A3; rw [decide_eq_false pX]; rfl
   have wR : zP m o.k = [] := by unfold zP; rw [if_neg pX]
   refine WE.skip ?_
   exact ⟨(.slice none 0 0), (by repeat (first | with_reducible exact bK.refl _ _ | refine bK.dG rfl ?_)), ⟨rfl, (by (show Value.bool _ = _; rw [hoh])), trivial⟩, rfl, H.add (show aH _ (bL (.slice none 0 0) (zP m o.k)) _ from fun w_ _ => by rw [wR]; exact bL.nil w_)⟩
 ·
  intro oJ γ w5 hI
  try dsimp only at hI
  replace H := hI
  refine WE.seq (WE.aA (WL.pv (PV.fieldAddr rfl iP rfl) rfl (WL.aX rfl l9 rfl rfl (aN.aF (H.l 0 rfl) aK.hd rfl) (WL.pv (PV.eql rfl rfl rfl) rfl (WL.nil ?_)))))
  refine WE.cR rfl (by simp [hn]) ?_
  refine WE.aA (WL.mv rfl rfl (WL.pv (PV.fieldAddr rfl j4 rfl) rfl (WL.aX rfl eH rfl rfl (aN.aF (H.l 0 rfl) (aK.tl aK.hd rfl) rfl) ?_)))
  refine WL.call aGO rfl (VT (bt := bt) (bh := bh) (bits := bits) (T := T) (m := m) (s := o.sk) (lb := o.k) H.aR (H.o 1 rfl) (by exact (H.aO 1 rfl 2 rfl : aH _ (cV bits T) _)) (by exact (H.aO 1 rfl 5 rfl : aH _ (OV o) _).imp fun _ h => h.1) hT hs tY (by omega) (by omega)) ?_
  rintro _ w6 ⟨aEn, aDj, rfl, hO, LY, HU⟩
  replace H := H.out hO
  replace H := (H.add (show aH _ (bL aEn (zP m o.k)) _ from (LY.mono fun _ _ h_ => .inl h_))).add (show aH _ (fK [103, 101, 116] 0 (bW o.k []) aDj) _ from (HU.mono fun _ _ h_ => .inl h_))
  refine WL.mv rfl rfl (WL.pv (PV.extract rfl rfl rfl) rfl (WL.pv (PV.extract rfl rfl rfl) rfl (WL.pv (PV.extract rfl rfl rfl) rfl (WL.as rfl rfl (WL.as rfl rfl (WL.as rfl rfl (WL.nil ?_)))))))
  refine WE.aA (WL.mv rfl rfl (WL.mv rfl rfl (WL.mv rfl rfl ?_)))
  refine WL.call Z2 rfl (wN (op := [103, 101, 116]) (ix := 0) (code := (bW o.k [])) (ev := aDj) H.aR (by exact (H.bJ 9 rfl : aH _ (eV) _)) (by exact (H.bJ 0 rfl : aH _ (fK [103, 101, 116] 0 ((bW o.k [])) aDj) _))) ?_
  rintro _ w7 ⟨rfl, hO⟩
  replace H := H.out hO
  refine WL.mv rfl rfl (WL.known (t := 78) (c := false) rfl rfl (WL.mv rfl rfl (WL.mv rfl rfl (WL.pv (PV.aEW rfl bo4 rfl rfl) rfl (WL.pv (PV.cF rfl rfl rfl) rfl (WL.mv rfl rfl ?_))))))
  refine WL.known (t := 83) (c := false) rfl (by simp [A3]) ?_
  refine WL.mv rfl rfl (WL.mv rfl rfl ?_)
  refine WL.call aDd rfl (KF (la := zP m o.k) (lb := zP m o.k) H.aR (by exact (H.bJ 1 rfl : aH _ (bL aEn (zP m o.k)) _)) (by exact (H.bJ 2 rfl : aH _ (bL oJ (zP m o.k)) _)) (by have := aC3 pD.short o.k; unfold zP; split; omega; simp)) ?_
  rintro _ w8 ⟨rfl, hO⟩
  replace H := H.out hO
  refine WL.pv (PV.not rfl rfl) rfl (WL.pv (PV.cF rfl rfl rfl) rfl (WL.as rfl rfl (WL.as rfl rfl (WL.nil (WE.ret ⟨[_, _], _, .nil _, ⟨rfl, rfl, trivial⟩, ?_⟩)))))
  refine ⟨T, _, s2, ?_, ?_, H.lP, H.o 0 rfl, H.o 1 rfl, H.gH (by exact (H.bJ 4 rfl : aH _ (cV bits T) _)), ?_, ?_⟩
  ·
   show Value.tuple [s2, .bool (!decide (zP m o.k = zP m o.k))].toArray = _; simp
  ·
   rw [hT, aDl hn]
  ·
   rw [aDl hn]; exact H.gH (by exact (H.bJ 5 rfl : aH _ (fF s2 m) _))
  ·
   rw [aDl hn]; exact H.gH (by exact (H.bJ 6 rfl : aH _ (eC m) _))
theorem aIp {X : Nat → Prop} {w : World} {bt bh bc : Nat} {bits c0 : Int} {T : Tr} {m : List En} {s2 : Value} {o : nW} {nn : Nat} (hX : c6 X w) (fA : aN w bc 213 ([.int .i64 c0])) (vQ : aN w bt 90 ([.pointer (some ⟨bh, 0, none⟩), T.ptr])) (bT : aH (fun c_ => X c_ ∨ c_ = bc ∨ c_ = bt) (fO bh bc bits) w) (dJ : aH (fun c_ => X c_ ∨ c_ = bc ∨ c_ = bt) (cV bits T) w) (fQ : aH (fun c_ => X c_ ∨ c_ = bc ∨ c_ = bt) (fF s2 m) w) (jW : aH (fun c_ => X c_ ∨ c_ = bc ∨ c_ = bt) (eC m) w) (nM : aH (fun c_ => X c_ ∨ c_ = bc ∨ c_ = bt) (OV o) w) (sK : aH (fun c_ => X c_ ∨ c_ = bc ∨ c_ = bt) (aZ) w) (DZ : aH (fun c_ => X c_ ∨ c_ = bc ∨ c_ = bt) (eV) w) (hne : bc ≠ bt) (bU : 0 ≤ bits ∧ bits ≤ 256) (hT : T.er = grow 0 m) (pD : e9 nn m) (ZA : nn ≤ 500) (hko : o.k.length ≤ 100) (hvo : o.v.length ≤ 70000) (JP : DS o.b) (hn : o.n = 2) :
  bC prog 17 [.pointer (some ⟨bt, 0, none⟩), s2, .agg (uO o).toArray].toArray w fun v w' => ∃ (T' : Tr) (c' : Int) (s3 : Value), v = .tuple [s3, .bool false].toArray ∧ T'.er = grow 0 (pZ m o) ∧ Out (fun c => c = bc ∨ c = bt) w w' ∧ aN w' bc 213 [.int .i64 c'] ∧ aN w' bt 90 [.pointer (some ⟨bh, 0, none⟩), T'.ptr] ∧ aH (fun c => X c ∨ c = bc ∨ c = bt) (cV bits T') w' ∧ aH (fun c => X c ∨ c = bc ∨ c = bt) (fF s3 (pZ m o)) w' ∧ aH (fun c => X c ∨ c = bc ∨ c = bt) (eC (pZ m o)) w' := by
 refine bC.aI (N := 132) func17 rfl rfl (by simp) ?_
 have H := St.sF (b1 := bc) (b2 := bt) (t1 := 213) (t2 := 90) (l1 := [.int .i64 c0]) (l2 := [.pointer (some ⟨bh, 0, none⟩), T.ptr]) hX fA vQ hne
 replace H := H.add (iB DZ)
 replace H := H.add (iB sK)
 replace H := H.add (iB nM)
 replace H := H.add (iB jW)
 replace H := H.add (iB fQ)
 replace H := H.add (iB dJ)
 replace H := H.add (iB bT)
 have FJ := qO.of (jW.here)
 have hs := pD.s
 have tY := pD.k
 have zQ := pD.l
 have uU : (List.replicate 32 (0 : UInt8)).length = 32 := List.length_replicate
 refine WE.aA ?_
 refine WL.box (l := uO o) H rfl rfl rfl ?_
 intro b5 w1 H
 refine WL.as rfl rfl (WL.as rfl rfl (WL.nil (WE.seq (WE.aA (WL.pv (PV.fieldAddr rfl iP rfl) rfl (WL.aX rfl l9 rfl rfl (aN.aF (H.l 0 rfl) aK.hd rfl) (WL.nil ?_)))))))
 refine WE.block (WE.aA (WL.pv (PV.eql rfl rfl rfl) rfl (WL.as rfl rfl (WL.nil ?_))))
 refine WE.bD rfl (by simp [hn]) ?_
 refine WE.seq (WE.aA (WL.pv (PV.eql rfl rfl rfl) rfl (WL.as rfl rfl (WL.nil ?_))))
 refine WE.bD rfl (by simp [hn]) ?_
 refine WE.dW (WL.pv (PV.eql rfl rfl rfl) rfl (WL.as rfl rfl (WL.nil ?_)))
 refine WE.cR rfl (by simp [hn]) ?_
 refine WE.aA (WL.pv (PV.fieldAddr rfl j4 rfl) rfl (WL.aX rfl eH rfl rfl (aN.aF (H.l 0 rfl) (aK.tl aK.hd rfl) rfl) ?_))
 refine WL.call Z3 rfl (o8 (lb := o.k) (vv := []) H.aR (by exact (H.bJ 4 rfl : aH _ (OV o) _).imp fun _ h => h.1) (fun w_ _ => bL.nil w_)) ?_
 rintro _ w2 ⟨rfl, hO⟩
 replace H := H.out hO
 refine WL.as rfl rfl (WL.nil (WE.aA (WL.as rfl rfl (WL.nil (WE.aA (WL.as rfl rfl (WL.nil ?_)))))))
 refine WE.cut (α := Value) (rg [(10, 2), (53, 10)]) (fun oJ => [(10, oJ), (11, .bool (A3 m o.k))]) (fun oJ wl => St X w wl [aP.blk bc 213 [.int .i64 c0], aP.blk bt 90 [.pointer (some ⟨bh, 0, none⟩), T.ptr]] [aP.blk b5 56 (uO o)] [bL oJ (zP m o.k), fO bh bc bits, cV bits T, fF s2 m, eC m, OV o, aZ, eV]) ?_ ?_
 ·
  refine WE.aA (WL.mv rfl rfl (WL.pv (PV.eql rfl rfl rfl) rfl (WL.nil ?_)))
  refine WE.cond rfl (fun yL => ?_) (fun yL => ?_)
  ·
   try simp only [bP] at yL
   have JE : bW o.k [] = 0 := by exact yL
   have pX := (dN.1 JE).1
   have hoh : kL m o.k = A3 m o.k := by unfold A3; rw [decide_eq_true pX, Bool.true_and]
   have wR : gV m o.k = zP m o.k := by unfold zP; rw [if_pos pX]
   refine WE.dW (WL.mv rfl rfl (WL.pv (PV.fieldAddr rfl j4 rfl) rfl (WL.aX rfl eH rfl rfl (aN.aF (H.l 0 rfl) (aK.tl aK.hd rfl) rfl) ?_)))
   refine WL.call T5 rfl (sW (lb := o.k) H.aR (by exact (H.bJ 4 rfl : aH _ (OV o) _).imp fun _ h => h.1) pX) ?_
   rintro _ w3 ⟨rfl, hO⟩
   replace H := H.out hO
   refine WL.call aGn rfl (AX (s := s2) (m := m) (k := o.k) H.aR (by exact (H.bJ 2 rfl : aH _ (fF s2 m) _)) tY (by omega) pX) ?_
   rintro _ w4 ⟨rfl, hO⟩
   replace H := H.out hO
   replace H := H.add (show aH _ (bL (gS m o.k) (gV m o.k)) _ from ((by exact (H.bJ 3 rfl : aH _ (eC m) _)) : aH _ (eC m) _).imp fun _ h => T2 h _)
   refine WL.mv rfl rfl (WL.pv (PV.extract rfl rfl rfl) rfl (WL.pv (PV.extract rfl rfl rfl) rfl (WL.as rfl rfl (WL.as rfl rfl (WL.nil ?_)))))
   exact ⟨(gS m o.k), (by repeat (first | with_reducible exact bK.refl _ _ | refine bK.dG rfl ?_)), ⟨rfl, (by (show Value.bool _ = _; rw [hoh])), trivial⟩, rfl, (show St X w _ _ _ [bL (gS m o.k) (zP m o.k), _, _, _, _, _, _, _] by rw [← wR]; exact H)⟩
  ·
   try simp only [bP] at yL
   have JE : ¬ bW o.k [] = 0 := by exact yL
   have pX : ¬ o.k.length = 32 := fun h => JE (by rw [gG, if_pos h])
   have hoh : false = A3 m o.k := by unfold A3; rw [decide_eq_false pX]; rfl
   have wR : zP m o.k = [] := by unfold zP; rw [if_neg pX]
   refine WE.skip ?_
   exact ⟨(.slice none 0 0), (by repeat (first | with_reducible exact bK.refl _ _ | refine bK.dG rfl ?_)), ⟨rfl, (by (show Value.bool _ = _; rw [hoh])), trivial⟩, rfl, H.add (show aH _ (bL (.slice none 0 0) (zP m o.k)) _ from fun w_ _ => by rw [wR]; exact bL.nil w_)⟩
 ·
  intro oJ γ w5 hI
  try dsimp only at hI
  replace H := hI
  refine WE.seq (WE.aA (WL.pv (PV.fieldAddr rfl iP rfl) rfl (WL.aX rfl l9 rfl rfl (aN.aF (H.l 0 rfl) aK.hd rfl) (WL.pv (PV.eql rfl rfl rfl) rfl (WL.nil ?_)))))
  refine WE.bD rfl (by simp [hn]) ?_
  refine WE.skip (WE.aA (WL.mv rfl rfl (WL.pv (PV.fieldAddr rfl j4 rfl) rfl (WL.aX rfl eH rfl rfl (aN.aF (H.l 0 rfl) (aK.tl aK.hd rfl) rfl) ?_))))
  refine WL.call aGH rfl (VU (bt := bt) (bh := bh) (bc := bc) (bits := bits) (T := T) (m := m) (s := o.sk) (lb := o.k) H.aR (H.o 0 rfl) (H.o 1 rfl) (by exact (H.nC 1 rfl : aH _ (fO bh bc bits) _)) (by exact (H.nC 2 rfl : aH _ (cV bits T) _)) (by exact (H.nC 5 rfl : aH _ (OV o) _).imp fun _ h => h.1) (by exact (H.nC 6 rfl : aH _ (aZ) _)) hne bU hT hs tY (by omega) (by omega)) ?_
  rintro _ w6 ⟨aAn, aKw, UK, rfl, aFF, hO, uX, qS, hR, aF0⟩
  have H_ := H.u5 hO uX qS hR
  replace H := St.aDx H_ aF0
  refine WL.mv rfl rfl (WL.pv (PV.extract rfl rfl rfl) rfl (WL.pv (PV.extract rfl rfl rfl) rfl (WL.as rfl rfl (WL.as rfl rfl (WL.nil ?_)))))
  refine WE.cut (α := Value) (rg [(1, 1), (96, 6)]) (fun g2_ => [(1, g2_)]) (fun g2_ wl => St X w wl [aP.blk bc 213 [.int .i64 aKw], aP.blk bt 90 [.pointer (some ⟨bh, 0, none⟩), aAn.ptr]] [aP.blk b5 56 (uO o)] [fF g2_ (pZ m o), fK [100, 101, 108, 101, 116, 101] 0 (bW o.k []) UK, cV bits aAn, eC m, eV]) ?_ ?_
  ·
   refine WE.aA (WL.mv rfl rfl (WL.nil ?_))
   refine WE.cond rfl (fun TE => ?_) (fun TE => ?_)
   ·
    try simp only [bP] at TE
    have hh : A3 m o.k = true := by exact TE
    have C5 := UP hn hh
    have pX : o.k.length = 32 := by unfold A3 at hh; simp at hh; exact hh.1
    refine WE.dW (WL.mv rfl rfl (WL.pv (PV.fieldAddr rfl j4 rfl) rfl (WL.aX rfl eH rfl rfl (aN.aF (H.l 0 rfl) (aK.tl aK.hd rfl) rfl) ?_)))
    refine WL.call T5 rfl (sW (lb := o.k) H.aR (by exact (H.bJ 7 rfl : aH _ (OV o) _).imp fun _ h => h.1) pX) ?_
    rintro _ w7 ⟨rfl, hO⟩
    replace H := H.out hO
    refine WL.call aDc rfl (zI (m := m) (q := o.k) H.aR (by exact (H.bJ 5 rfl : aH _ (fF s2 m) _)) tY FJ (by omega) pX) ?_
    rintro aB3 w8 ⟨hO, hR⟩
    replace H := (H.out hO).add (show aH _ (fF aB3 (fJ m o.k)) _ from hR)
    refine WL.as rfl rfl (WL.nil ?_)
    exact ⟨aB3, (by repeat (first | with_reducible exact bK.refl _ _ | refine bK.dG rfl ?_)), ⟨rfl, trivial⟩, rfl, (show St X w _ _ _ [fF aB3 (pZ m o), _, _, _, _] by rw [C5]; exact H.rS [0, 1, 2, 7, 10])⟩
   ·
    try simp only [bP] at TE
    have hh : A3 m o.k = false := by exact TE
    have C5 := UO hn hh
    refine WE.skip ?_
    exact ⟨s2, (by repeat (first | with_reducible exact bK.refl _ _ | refine bK.dG rfl ?_)), ⟨rfl, trivial⟩, rfl, (show St X w _ _ _ [fF s2 (pZ m o), _, _, _, _] by rw [C5]; exact H.rS [5, 0, 1, 6, 9])⟩
  ·
   intro g2_ γ w9 hI
   try dsimp only at hI
   replace H := hI
   refine WE.aA (WL.mv rfl rfl (WL.mv rfl rfl (WL.mv rfl rfl ?_)))
   refine WL.call Z2 rfl (wN (op := [100, 101, 108, 101, 116, 101]) (ix := 0) (code := (bW o.k [])) (ev := UK) H.aR (by exact (H.bJ 4 rfl : aH _ (eV) _)) (by exact (H.bJ 1 rfl : aH _ (fK [100, 101, 108, 101, 116, 101] 0 ((bW o.k [])) UK) _))) ?_
   rintro _ tX ⟨rfl, hO⟩
   replace H := H.out hO
   refine WL.mv rfl rfl (WL.known (t := 106) (c := false) rfl rfl (WL.mv rfl rfl (WL.mv rfl rfl (WL.pv (PV.aEW rfl bo4 rfl rfl) rfl (WL.pv (PV.cF rfl rfl rfl) rfl (WL.as rfl rfl (WL.as rfl rfl ?_)))))))
   refine WL.nil (WE.ret ⟨[_, _], _, .nil _, ⟨rfl, rfl, trivial⟩, ?_⟩)
   refine ⟨aAn, _, g2_, ?_, ?_, H.lP, H.o 0 rfl, H.o 1 rfl, H.gH (by exact (H.bJ 2 rfl : aH _ (cV bits aAn) _)), ?_, ?_⟩
   ·
    show Value.tuple [g2_, .bool ((decide (o.k.length = 32) && kL m o.k) != A3 m o.k)].toArray = _; simp [A3]
   ·
    rw [aFF, Z8 hn]
   ·
    exact H.gH (by exact (H.bJ 0 rfl : aH _ (fF g2_ (pZ m o)) _))
   ·
    rw [Z8 hn]; split; exact (H.gH (by exact (H.bJ 3 rfl : aH _ (eC m) _))).imp fun _ h => eC.rm (show eC m _ from h); exact H.gH (by exact (H.bJ 3 rfl : aH _ (eC m) _))
theorem aIo {X : Nat → Prop} {w : World} {bt bh bc : Nat} {bits c0 : Int} {T : Tr} {m : List En} {s2 : Value} {o : nW} {nn : Nat} (hX : c6 X w) (fA : aN w bc 213 ([.int .i64 c0])) (vQ : aN w bt 90 ([.pointer (some ⟨bh, 0, none⟩), T.ptr])) (bT : aH (fun c_ => X c_ ∨ c_ = bc ∨ c_ = bt) (fO bh bc bits) w) (dJ : aH (fun c_ => X c_ ∨ c_ = bc ∨ c_ = bt) (cV bits T) w) (fQ : aH (fun c_ => X c_ ∨ c_ = bc ∨ c_ = bt) (fF s2 m) w) (jW : aH (fun c_ => X c_ ∨ c_ = bc ∨ c_ = bt) (eC m) w) (nM : aH (fun c_ => X c_ ∨ c_ = bc ∨ c_ = bt) (OV o) w) (sK : aH (fun c_ => X c_ ∨ c_ = bc ∨ c_ = bt) (aZ) w) (DZ : aH (fun c_ => X c_ ∨ c_ = bc ∨ c_ = bt) (eV) w) (hne : bc ≠ bt) (bU : 0 ≤ bits ∧ bits ≤ 256) (hT : T.er = grow 0 m) (pD : e9 nn m) (ZA : nn ≤ 500) (hko : o.k.length ≤ 100) (hvo : o.v.length ≤ 70000) (JP : DS o.b) (hn : o.n ≠ 0 ∧ o.n ≠ 1 ∧ o.n ≠ 2) :
  bC prog 17 [.pointer (some ⟨bt, 0, none⟩), s2, .agg (uO o).toArray].toArray w fun v w' => ∃ (T' : Tr) (c' : Int) (s3 : Value), v = .tuple [s3, .bool false].toArray ∧ T'.er = grow 0 (pZ m o) ∧ Out (fun c => c = bc ∨ c = bt) w w' ∧ aN w' bc 213 [.int .i64 c'] ∧ aN w' bt 90 [.pointer (some ⟨bh, 0, none⟩), T'.ptr] ∧ aH (fun c => X c ∨ c = bc ∨ c = bt) (cV bits T') w' ∧ aH (fun c => X c ∨ c = bc ∨ c = bt) (fF s3 (pZ m o)) w' ∧ aH (fun c => X c ∨ c = bc ∨ c = bt) (eC (pZ m o)) w' := by
 refine bC.aI (N := 132) func17 rfl rfl (by simp) ?_
 have H := St.sF (b1 := bc) (b2 := bt) (t1 := 213) (t2 := 90) (l1 := [.int .i64 c0]) (l2 := [.pointer (some ⟨bh, 0, none⟩), T.ptr]) hX fA vQ hne
 replace H := H.add (iB DZ)
 replace H := H.add (iB sK)
 replace H := H.add (iB nM)
 replace H := H.add (iB jW)
 replace H := H.add (iB fQ)
 replace H := H.add (iB dJ)
 replace H := H.add (iB bT)
 have FJ := qO.of (jW.here)
 have hs := pD.s
 have tY := pD.k
 have zQ := pD.l
 have uU : (List.replicate 32 (0 : UInt8)).length = 32 := List.length_replicate
 refine WE.aA ?_
 refine WL.box (l := uO o) H rfl rfl rfl ?_
 intro b5 w1 H
 refine WL.as rfl rfl (WL.as rfl rfl (WL.nil (WE.seq (WE.aA (WL.pv (PV.fieldAddr rfl iP rfl) rfl (WL.aX rfl l9 rfl rfl (aN.aF (H.l 0 rfl) aK.hd rfl) (WL.nil ?_)))))))
 refine WE.block (WE.aA (WL.pv (PV.eql rfl rfl rfl) rfl (WL.as rfl rfl (WL.nil ?_))))
 refine WE.bD rfl (by simp [hn]) ?_
 refine WE.seq (WE.aA (WL.pv (PV.eql rfl rfl rfl) rfl (WL.as rfl rfl (WL.nil ?_))))
 refine WE.bD rfl (by simp [hn]) ?_
 refine WE.dW (WL.pv (PV.eql rfl rfl rfl) rfl (WL.as rfl rfl (WL.nil ?_)))
 refine WE.bD rfl (by simp [hn]) ?_
 refine WE.skip (WE.aA (WL.pv (PV.fieldAddr rfl u0 rfl) rfl (WL.aX rfl PD rfl rfl (aN.aF (H.l 0 rfl) (aK.tl (aK.tl (aK.tl aK.hd rfl) rfl) rfl) rfl) ?_)))
 refine WL.call aGv rfl (ML (s := o.sb) (l := o.b) H.aR (by exact (H.bJ 4 rfl : aH _ (OV o) _).imp fun _ h => h.2.2.1) (by exact (H.bJ 4 rfl : aH _ (OV o) _).imp fun _ h => h.2.2.2) (by have := JP.1; omega) (fun u hu => ⟨Nat.le_trans (JP.2 u hu).1 (by decide), Nat.le_trans (JP.2 u hu).2 (by decide)⟩)) ?_
 rintro _ w2 ⟨rfl, hO⟩
 replace H := H.out hO
 refine WL.mv rfl rfl (WL.pv (PV.extract rfl rfl rfl) rfl (WL.pv (PV.extract rfl rfl rfl) rfl (WL.as rfl rfl (WL.as rfl rfl (WL.nil (WE.seq (WE.aA ?_)))))))
 refine WL.mv rfl rfl (WL.pv (PV.fieldAddr rfl u0 rfl) rfl (WL.aX rfl PD rfl rfl (aN.aF (H.l 0 rfl) (aK.tl (aK.tl (aK.tl aK.hd rfl) rfl) rfl) rfl) ?_))
 refine WL.call aGC rfl (G4 (bt := bt) (bh := bh) (bc := bc) (bits := bits) (T := T) (m := m) (s := o.sb) (l := o.b) H.aR (H.o 0 rfl) (H.o 1 rfl) (by exact (H.nC 0 rfl : aH _ (fO bh bc bits) _)) (by exact (H.nC 1 rfl : aH _ (cV bits T) _)) (by exact (H.nC 4 rfl : aH _ (OV o) _).imp fun _ h => h.2.2.1) (by exact (H.nC 4 rfl : aH _ (OV o) _).imp fun _ h => h.2.2.2) (by exact (H.nC 5 rfl : aH _ (aZ) _)) hne bU hT hs tY (by omega) (by have := JP.1; omega) (fun u hu => ⟨Nat.le_trans (JP.2 u hu).1 (by decide), Nat.le_trans (JP.2 u hu).2 (by decide)⟩)) ?_
 rintro UL w3 ⟨MX, aK3, TV, hO, uX, qS, hR, aC2⟩
 have H_ := H.u5 hO uX qS hR
 replace H := St.aDx H_ aC2
 refine WL.mv rfl rfl (WL.mv rfl rfl ?_)
 refine WL.call Z2 rfl (wN (op := [97, 112, 112, 108, 121]) (ix := (((jR o.b).1 : Nat) : Int)) (code := (jR o.b).2) (ev := UL) H.aR (by exact (H.bJ 8 rfl : aH _ (eV) _)) (by exact (H.bJ 0 rfl : aH _ (fK [97, 112, 112, 108, 121] (((jR o.b).1 : Nat) : Int) ((jR o.b).2) UL) _))) ?_
 rintro _ w4 ⟨rfl, hO⟩
 replace H := H.out hO
 refine WL.nil ?_
 refine WE.bD rfl rfl ?_
 refine WE.skip (WE.seq (WE.aA (WL.mv rfl rfl (WL.pv (PV.neq rfl rfl rfl) rfl (WL.nil ?_)))))
 refine WE.cond rfl (fun FT => ?_) (fun FT => ?_)
 ·
  try simp only [bP] at FT
  have hz : ¬ (jR o.b).2 = 0 := by exact FT
  have C5 : pZ m o = m := by rw [aHH hn, if_neg hz]
  refine WE.aA (WL.mv rfl rfl (WL.as rfl rfl (WL.as rfl rfl (WL.nil (WE.ret ⟨[_, _], _, .nil _, ⟨rfl, rfl, trivial⟩, ?_⟩)))))
  refine ⟨MX, _, s2, ?_, ?_, H.lP, H.o 0 rfl, H.o 1 rfl, H.gH (by exact (H.bJ 1 rfl : aH _ (cV bits MX) _)), ?_, ?_⟩
  ·
   rfl
  ·
   rw [TV, if_neg hz, C5]
  ·
   rw [C5]; exact H.gH (by exact (H.bJ 4 rfl : aH _ (fF s2 m) _))
  ·
   rw [C5]; exact H.gH (by exact (H.bJ 5 rfl : aH _ (eC m) _))
 ·
  try simp only [bP] at FT
  have hz : (jR o.b).2 = 0 := by exact FT
  have C5 : pZ m o = uD m o.b := by rw [aHH hn, if_pos hz]
  have hgu := u4 hz
  refine WE.skip (WE.aA (WL.mv rfl rfl (WL.pv (PV.fieldAddr rfl u0 rfl) rfl (WL.aX rfl PD rfl rfl (aN.aF (H.l 0 rfl) (aK.tl (aK.tl (aK.tl aK.hd rfl) rfl) rfl) rfl) ?_))))
  refine WL.call aKh rfl (aAk (s2 := s2) (s := o.sb) (m := m) (l := o.b) H.aR (by exact (H.bJ 4 rfl : aH _ (fF s2 m) _)) (by exact (H.bJ 6 rfl : aH _ (OV o) _).imp fun _ h => h.2.2.1) (by exact (H.bJ 6 rfl : aH _ (OV o) _).imp fun _ h => h.2.2.2) (pD.more (by omega)) FJ hgu (by have := JP.1; omega)) ?_
  rintro v131 w5 ⟨hO, hR⟩
  replace H := (H.out hO).add (show aH _ (fF v131 (uD m o.b)) _ from hR)
  refine WL.as rfl rfl (WL.as rfl rfl (WL.nil (WE.ret ⟨[_, _], _, .nil _, ⟨rfl, rfl, trivial⟩, ?_⟩)))
  refine ⟨MX, _, v131, ?_, ?_, H.lP, H.o 0 rfl, H.o 1 rfl, H.gH (by exact (H.bJ 2 rfl : aH _ (cV bits MX) _)), ?_, ?_⟩
  ·
   rfl
  ·
   rw [TV, if_pos hz, C5]
  ·
   rw [C5]; exact H.gH (by exact (H.bJ 0 rfl : aH _ (fF v131 (uD m o.b)) _))
  ·
   rw [C5]; exact (H.gH (aH.and (show aH _ (eC m) _ from (by exact (H.bJ 6 rfl : aH _ (eC m) _))) (show aH _ (OV o) _ from (by exact (H.bJ 7 rfl : aH _ (OV o) _))))).imp fun _ h => eC.dG o.b h.1 h.2.2.2.2
theorem aKR {X : Nat → Prop} {w : World} {bt bh bc : Nat} {bits c0 : Int} {T : Tr} {m : List En} {s2 : Value} {o : nW} {nn : Nat} (hX : c6 X w) (fA : aN w bc 213 [.int .i64 c0]) (vQ : aN w bt 90 [.pointer (some ⟨bh, 0, none⟩), T.ptr])
  (bT : aH (fun c => X c ∨ c = bc ∨ c = bt) (fO bh bc bits) w) (dJ : aH (fun c => X c ∨ c = bc ∨ c = bt) (cV bits T) w) (fQ : aH (fun c => X c ∨ c = bc ∨ c = bt) (fF s2 m) w) (jW : aH (fun c => X c ∨ c = bc ∨ c = bt) (eC m) w) (nM : aH (fun c => X c ∨ c = bc ∨ c = bt) (OV o) w) (sK : aH (fun c => X c ∨ c = bc ∨ c = bt) aZ w) (DZ : aH (fun c => X c ∨ c = bc ∨ c = bt) eV w)
  (hne : bc ≠ bt) (bU : 0 ≤ bits ∧ bits ≤ 256) (hT : T.er = grow 0 m) (pD : e9 nn m) (ZA : nn ≤ 500) (hko : o.k.length ≤ 100) (hvo : o.v.length ≤ 70000) (JP : DS o.b) :
  bC prog 17 [.pointer (some ⟨bt, 0, none⟩), s2, .agg (uO o).toArray].toArray w (fun v w' => ∃ (T' : Tr) (c' : Int) (s3 : Value), v = .tuple [s3, .bool false].toArray ∧ T'.er = grow 0 (pZ m o) ∧ Out (fun c => c = bc ∨ c = bt) w w' ∧ aN w' bc 213 [.int .i64 c'] ∧ aN w' bt 90 [.pointer (some ⟨bh, 0, none⟩), T'.ptr] ∧ aH (fun c => X c ∨ c = bc ∨ c = bt) (cV bits T') w' ∧ aH (fun c => X c ∨ c = bc ∨ c = bt) (fF s3 (pZ m o)) w' ∧ aH (fun c => X c ∨ c = bc ∨ c = bt) (eC (pZ m o)) w') := by
 by_cases h0 : o.n = 0
 ·
  exact aIr hX fA vQ bT dJ fQ jW nM sK DZ hne bU hT pD ZA hko hvo JP h0
 ·
  by_cases h1 : o.n = 1
  ·
   exact aIq hX fA vQ bT dJ fQ jW nM sK DZ hne bU hT pD ZA hko hvo JP h1
  ·
   by_cases h2 : o.n = 2
   ·
    exact aIp hX fA vQ bT dJ fQ jW nM sK DZ hne bU hT pD ZA hko hvo JP h2
   ·
    exact aIo hX fA vQ bT dJ fQ jW nM sK DZ hne bU hT pD ZA hko hvo JP ⟨h0, h1, h2⟩
def GR (bits : Int) (T : Tr) (m : List En) (bh bc : Nat) (s2 : Value) (w : World) : Prop := fO bh bc bits w ∧ cV bits T w ∧ fF s2 m w ∧ eC m w
section
variable {X : Nat → Prop} {w0 w w' : World} {O L : List aP} {Ps : List (World → Prop)} {p : World → Prop}
theorem _root_.Go.Sp.St.aHY (H : St X w0 w O L (p :: Ps)) {q r s : World → Prop} (hp : ∀ w, p w → q w ∧ r w ∧ s w) : St X w0 w O L (q :: r :: s :: Ps) :=
 have h := H.bJ 0 rfl
 ((((H.drop (KJ := Ps) fun _ h => List.mem_cons_of_mem _ h).add (p := s) (h.imp fun _ h => (hp _ h).2.2)).add (p := r) (h.imp fun _ h => (hp _ h).2.1)).add (p := q) (h.imp fun _ h => (hp _ h).1))
theorem _root_.Go.Sp.St.aHX (H : St X w0 w O L (p :: Ps)) {q r s t : World → Prop} (hp : ∀ w, p w → q w ∧ r w ∧ s w ∧ t w) : St X w0 w O L (q :: r :: s :: t :: Ps) :=
 have h := H.bJ 0 rfl
 (((((H.drop (KJ := Ps) fun _ h => List.mem_cons_of_mem _ h).add (p := t) (h.imp fun _ h => (hp _ h).2.2.2)).add (p := s) (h.imp fun _ h => (hp _ h).2.2.1)).add (p := r) (h.imp fun _ h => (hp _ h).2.1)).add (p := q) (h.imp fun _ h => (hp _ h).1))
theorem _root_.Go.Sp.St.aES (H : St X w0 w O L Ps) (i j : Nat) {b b2 : Nat} {t t2 : TypeId} {l l2 : List Value} (hi : L[i]? = some (aP.blk b t l)) (hj : L[j]? = some (aP.blk b2 t2 l2)) (hij : i ≠ j) : aH (fun c => Nil c ∨ c = b) (fun w => dD w ⟨b2, 0, none⟩ l2) w :=
 (aH.HK (H.mK i j hi hj hij)).imp fun _ h => aN.rd h
theorem _root_.Go.Sp.St.vT (H : St X w0 w O L Ps) (i : Nat) {b : Nat} {t : TypeId} {l : List Value} (hi : L[i]? = some (aP.blk b t l)) (n : Nat) (hp : Ps[n]? = some p) : aH (fun c => Nil c ∨ c = b) p w := (H.iL i hi n hp).wk
theorem _root_.Go.Sp.St.vN (H : St X w0 w O L Ps) (j : Nat) {b2 : Nat} {t2 : TypeId} {l2 : List Value} (hj : L[j]? = some (aP.blk b2 t2 l2)) : aH Nil (fun w => dD w ⟨b2, 0, none⟩ l2) w := (H.X2 j hj).imp fun _ h => aN.rd h
end
theorem e9.pm {n : Nat} {m : List En} (h : e9 n m) : Pm 0 m := h.s.pm h.k
theorem KP.map {l : List nW} (h : KP l) : e9 240 (runM l) := by
 have h1 := e9.run h l.length (Nat.le_refl _)
 rw [List.take_length] at h1
 have := h.1
 exact h1.more (by omega)
abbrev Z_ : List UInt8 := List.replicate 32 0
abbrev Tz (a : Nat) (s : Value) : Tr := .leaf a Z_ [7] s
def Ez (sv : Value) : En := ⟨Z_, sv, [7]⟩
theorem aIn (sv : Value) : Pm 0 [Ez sv] := Pm.zero (fun e he => by rw [List.mem_singleton.1 he]; rfl) (List.pairwise_singleton _ _)
theorem KQ {a1 : Nat} {s1 : Value} : zF (pK (Tz a1 s1) Z_) (Tr.dp Z_ 0 (Tz a1 s1)) (Tr.fin (Tz a1 s1) Z_).key ((Tr.fin (Tz a1 s1) Z_).vd 256) Z_ (nI 256 [7]) true := ⟨fun _ => ⟨rfl, rfl, rfl⟩, fun h => by cases h⟩
theorem aDU {a1 : Nat} {s1 : Value} (hp : jG (pK (Tz a1 s1) Z_) (Tr.dp Z_ 0 (Tz a1 s1)) (Tr.fin (Tz a1 s1) Z_).key ((Tr.fin (Tz a1 s1) Z_).vd 256) (pA (Tz a1 s1) Z_ (Tr.dp Z_ 0 (Tz a1 s1))) (jB 256 (Tz a1 s1) Z_ (Tr.dp Z_ 0 (Tz a1 s1)))) : (fM (pK (Tz a1 s1) Z_) (Tr.dp Z_ 0 (Tz a1 s1)) (Tr.fin (Tz a1 s1) Z_).key ((Tr.fin (Tz a1 s1) Z_).vd 256) (pA (Tz a1 s1) Z_ (Tr.dp Z_ 0 (Tz a1 s1))) (jB 256 (Tz a1 s1) Z_ (Tr.dp Z_ 0 (Tz a1 s1)))).length = 100 := (GB hp).trans rfl
theorem IG {X : Nat → Prop} {w : World}  (hX : c6 X w) (bT : aH X (aZ) w) (dJ : aH X (eV) w) :
  bC prog 8 [].toArray w fun v w' => v = .bool true ∧ Out Nil w w' := by
 refine bC.aI (N := 53) func8 rfl rfl (by decide +revert) ?_
 have H := ((St.begin hX).add (cE dJ)).add (cE bT)
 refine WE.aA (WL.as rfl rfl (WL.nil (WE.aA ?_)))
 refine WL.call aGp rfl (VS (i := 256) H.aR  (by decide)) ?_
 rintro _ w1 ⟨y5, mQ, sG, rfl, hO, SZ, SY, aBg, uX, qS, hR⟩
 replace H := H.IU hO (aP.blk y5 90 [.pointer (some ⟨mQ, 0, none⟩), .pointer none]) (aP.blk sG 213 [.int .i64 0]) uX qS (fun c hc => by cases hc; exact SZ) (fun c hc => by cases hc; exact SY) (u6 aBg) hR
 replace H := H.add (show aH _ (cV 256 .nil) _ from fun _ _ => trivial)
 refine WL.mv rfl rfl (WL.pv (PV.extract rfl rfl rfl) rfl (WL.pv (PV.extract rfl rfl rfl) rfl (WL.as rfl rfl (WL.as rfl rfl (WL.nil (WE.seq (WE.aA ?_)))))))
 refine WL.mv rfl rfl (WL.pv (PV.jU rfl IV rfl rfl) rfl (WL.mv rfl rfl (WL.known (t := 12) (c := false) rfl rfl (WL.mv rfl rfl (WL.pv (PV.neq rfl rfl rfl) rfl (WL.pv (PV.cF rfl rfl rfl) rfl (WL.mv rfl rfl ?_)))))))
 refine WL.known (t := 16) (c := false) rfl rfl (WL.mv rfl rfl ?_)
 refine WL.makeSlice (n := 32) H rfl iG rfl (by decide) (by decide) rfl ?_
 intro VB w3 H
 replace H := H.freeze (i := 0) rfl
 replace H := H.add (show aH _ (bL (.slice (some ⟨VB, 0, none⟩) 32 32) Z_) _ from (H.bJ 0 rfl).imp fun _ h => bL.cA h rfl)
 refine WL.bA (l0 := [.int .u8 (0)]) H rfl iG (by decide) (cW _ _) (Fl.cons rfl rfl (by simp only [aS, aY, aB, aD]) Laid.head Fl.nil) rfl ?_
 intro b19 w6 H
 replace H := H.freeze (i := 0) rfl
 replace H := H.add ((H.bJ 0 rfl).imp fun _ h => bL.cA (l := [7]) h rfl)
 refine WL.call aDg rfl (KD (bt := y5) (bh := mQ) (bc := sG) (bits := 256) (T := .nil) (m := []) (lb := Z_) (vv := [7]) H.aR (H.l 1 rfl) (H.l 0 rfl) (by exact (H.iN 1 0 rfl rfl 5 rfl : aH _ (fO mQ sG 256) _)) (by exact (H.iN 1 0 rfl rfl 4 rfl : aH _ (cV 256 .nil) _)) (by exact (H.iN 1 0 rfl rfl 2 rfl : aH _ (bL (.slice (some ⟨VB, 0, none⟩) 32 32) Z_) _)) (by exact (H.iN 1 0 rfl rfl 0 rfl : aH _ (bL (.slice (some ⟨b19, 0, none⟩) 1 1) [7]) _)) (by exact (H.iN 1 0 rfl rfl 6 rfl : aH _ (aZ) _)) (Ne.symm aBg) (by decide) (eM 0).symm List.Pairwise.nil (fun _ h => by cases h) (by simp) (by simp) (by simp)) ?_
 rintro aLN w7 ⟨T1, c1, ZL, hO, uX, qS, hR, hE⟩
 have hz0 : bW Z_ [7] = 0 := dN.2 ⟨rfl, by decide⟩
 obtain rfl := fK.none hE hz0
 have HT : T1.er = .leaf Z_ [7] := ZL.trans (by rw [if_pos hz0]; exact dR 0 _)
 obtain ⟨a1, s1, rfl⟩ := Tr.tC HT
 replace H := H.qM 1 0 rfl rfl (by decide) hO uX qS hR
 have hok : jG (pK (Tz a1 s1) Z_) (Tr.dp Z_ 0 (Tz a1 s1)) (Tr.fin (Tz a1 s1) Z_).key ((Tr.fin (Tz a1 s1) Z_).vd 256) (pA (Tz a1 s1) Z_ (Tr.dp Z_ 0 (Tz a1 s1))) (jB 256 (Tz a1 s1) Z_ (Tr.dp Z_ 0 (Tz a1 s1))) := RM (m := [Ez .nilIface]) (dR 0 (Ez .nilIface)).symm (aIn _) trivial rfl
 have aKZ := aDU hok
 have hroot : fI 256 Z_ (gI 256 (Tr.dp Z_ 0 (Tz a1 s1)) (pA (Tz a1 s1) Z_ (Tr.dp Z_ 0 (Tz a1 s1))) (jB 256 (Tz a1 s1) Z_ (Tr.dp Z_ 0 (Tz a1 s1)))) (eB (cZ (eT (pK (Tz a1 s1) Z_) (Tr.fin (Tz a1 s1) Z_).key ((Tr.fin (Tz a1 s1) Z_).vd 256))) 256) (Tr.dp Z_ 0 (Tz a1 s1)) = ((Tz a1 s1).er.nV 256) := IW (Nat.zero_le _)
 have TC := eW 256 (Tz a1 s1).er
 refine WL.pv (PV.rF rfl (by kernel_rfl) (by exact zS.nil)) rfl ?_
 refine WL.pv (PV.cF rfl rfl rfl) rfl (WL.nil ?_)
 refine WE.bD rfl rfl ?_
 refine WE.skip (WE.aA (WL.mv rfl rfl ?_))
 refine WL.call aHh rfl (MY (X := Nil) (bt := y5) (bh := mQ) (bc := sG) (bits := 256) (T := (Tz a1 s1)) (fun _ h => h.elim) (H.l 1 rfl) (H.aES 1 0 rfl rfl (by decide)) (by exact (H.vT 1 rfl 6 rfl : aH _ (fO mQ sG 256) _)) (by exact (H.vT 1 rfl 0 rfl : aH _ (cV 256 (Tz a1 s1)) _)) (by exact (H.vT 1 rfl 7 rfl : aH _ (aZ) _)) (by decide)) ?_
 rintro _ w8 ⟨m24, rfl, hO, hB⟩
 replace H := H.called 1 rfl hO hB
 refine WL.alloc H rfl lB rfl ?_
 intro b3 w9 H
 refine WL.aW H 0 rfl rfl rfl (new := kc ((Tz a1 s1).er.nV 256)) rfl (by exact dH) (bH _) (Laid.at (Laid.all (by simp only [aS, aY, aB, aD])) rfl) rfl ?_
 intro tX H
 replace H := H.freeze (i := 0) rfl
 replace H := H.add (show aH _ (bL (.slice (some ⟨b3, 0, none⟩) 32 32) ((Tz a1 s1).er.nV 256)) _ from (H.bJ 0 rfl).imp fun _ h => bL.cA h TC)
 refine WL.nil (WE.aA (WL.mv rfl rfl ?_))
 refine WL.call JS rfl (pO (X := Nil) (bt := y5) (bh := mQ) (T := (Tz a1 s1)) (fun _ h => h.elim) (H.vN 0 rfl)) ?_
 rintro _ xG ⟨rfl, hO⟩
 replace H := H.out hO
 refine WL.mv rfl rfl ?_
 refine WL.call aDi rfl (DR (X := Nil) (bt := y5) (bh := mQ) (T := (Tz a1 s1)) (fun _ h => h.elim) (H.vN 0 rfl)) ?_
 rintro _ HL ⟨rfl, hO⟩
 replace H := H.out hO
 refine WL.pv (PV.lY rfl gW gO q7 Fl.nil) rfl ?_
 refine WL.call fb9 rfl (aAw (bh := mQ) (bc := sG) (bits := 256) (T := (Tz a1 s1)) (k := Z_) H.aR (H.l 1 rfl) (by exact (H.iL 1 rfl 8 rfl : aH _ (fO mQ sG 256) _)) (by exact (H.iL 1 rfl 2 rfl : aH _ (cV 256 (Tz a1 s1)) _)) (by exact (H.iL 1 rfl 9 rfl : aH _ (aZ) _)) (by decide) rfl trivial) ?_
 rintro _ DW ⟨m31, aEz, rfl, hO, hB, hR⟩
 replace H := H.pM 1 rfl hO hB hR
 refine WL.call aKq rfl (WO (kd := pK (Tz a1 s1) Z_) (dp := Tr.dp Z_ 0 (Tz a1 s1)) (lk := (Tr.fin (Tz a1 s1) Z_).key) (lv := (Tr.fin (Tz a1 s1) Z_).vd 256) (B := pA (Tz a1 s1) Z_ (Tr.dp Z_ 0 (Tz a1 s1))) (sb := jB 256 (Tz a1 s1) Z_ (Tr.dp Z_ 0 (Tz a1 s1))) (sl := aEz) H.aR (by exact (H.bJ 0 rfl : aH _ (fE aEz _) _)) hok) ?_
 rintro _ H9 ⟨s32, rfl, hO, hR⟩
 replace H := (H.out hO).add hR
 refine WL.mv rfl rfl (WL.pv (PV.extract rfl rfl rfl) rfl (WL.pv (PV.extract rfl rfl rfl) rfl (WL.as rfl rfl (WL.as rfl rfl (WL.nil ?_)))))
 refine WE.bG (.take 0 (.take 1 (.take 2 (.take 3 (.take 4 (.take 5 (.take 6 (.take 7 (.take 8 (.take 10 (.take 14 (.EX 9 (.jT 11 (.aG 12 (.take 13 (.aG 15 (.take 16 (.take 17 (.take 18 .done)))))) 12 (.aG 11 (.take 13 (.aG 15 (.take 16 (.take 17 (.take 18 .done))))))) 11 (.jT 9 (.aG 12 (.take 13 (.aG 15 (.take 16 (.take 17 (.take 18 .done)))))) 12 (.take 13 (.aG 9 (.aG 15 (.take 16 (.take 17 (.take 18 .done))))))) 12 (.jT 9 (.aG 11 (.take 13 (.aG 15 (.take 16 (.take 17 (.take 18 .done)))))) 11 (.take 13 (.aG 9 (.aG 15 (.take 16 (.take 17 (.take 18 .done))))))))))))))))))) mixed (by kernel_rfl) ?_
 replace H := H.out (Out.drew _)
 refine WP.mv rfl rfl rfl (WP.aC rfl rfl (PV.eql rfl rfl rfl) (WP.mv rfl rfl rfl ?_))
 refine WP.known (t := 37) (c := true) rfl rfl ?_
 refine WP.mv rfl rfl rfl ?_
 refine WP.aC rfl rfl (PV.dS (by exact (H.p 0 rfl : (bL s32 (fM (pK (Tz a1 s1) Z_) (Tr.dp Z_ 0 (Tz a1 s1)) (Tr.fin (Tz a1 s1) Z_).key ((Tr.fin (Tz a1 s1) Z_).vd 256) (pA (Tz a1 s1) Z_ (Tr.dp Z_ 0 (Tz a1 s1))) (jB 256 (Tz a1 s1) Z_ (Tr.dp Z_ 0 (Tz a1 s1))))) _)) eN rfl) ?_
 refine WP.aC rfl rfl (PV.eql rfl rfl rfl) (WP.aC rfl rfl (PV.c5 rfl rfl rfl) (WP.mv rfl rfl rfl ?_))
 refine WP.known (t := 42) (c := true) rfl rfl ?_
 refine WP.mv rfl rfl rfl ?_
 refine WP.aC rfl rfl (PV.iH rfl pN (by rw [gO]; rfl) rfl) ?_
 refine WP.mv rfl rfl rfl ?_
 refine WP.join (α := Nat × Nat) (.take 13 (.aG 15 (.take 16 (.take 17 (.take 18 .done))))) [44, 46, 47] (fun g_ => [(44, .pointer (some ⟨mQ, 0, none⟩)), (46, (.slice (some ⟨g_.1, 0, none⟩) 32 32)), (47, (.slice (some ⟨g_.2, 0, none⟩) 1 1))]) (fun g_ wl => St X w wl [] [aP.blk y5 90 [.pointer (some ⟨mQ, 0, none⟩), (Tz a1 s1).ptr], aP.blk sG 213 [.int .i64 m31]] [bL (.slice (some ⟨g_.1, 0, none⟩) 32 32) Z_, bL (.slice (some ⟨g_.2, 0, none⟩) 1 1) [7], bL s32 (fM (pK (Tz a1 s1) Z_) (Tr.dp Z_ 0 (Tz a1 s1)) (Tr.fin (Tz a1 s1) Z_).key ((Tr.fin (Tz a1 s1) Z_).vd 256) (pA (Tz a1 s1) Z_ (Tr.dp Z_ 0 (Tz a1 s1))) (jB 256 (Tz a1 s1) Z_ (Tr.dp Z_ 0 (Tz a1 s1)))), bL (.slice (some ⟨b3, 0, none⟩) 32 32) ((Tz a1 s1).er.nV 256), fO mQ sG 256, aZ, eV]) ?_ ?_
 ·
  intro jn_
  refine WP.EX rfl rfl rfl ?_ ?_ ?_ 
  ·
   refine WL.call JS rfl (pO (X := Nil) (bt := y5) (bh := mQ) (T := (Tz a1 s1)) (fun _ h => h.elim) (H.vN 0 rfl)) ?_
   rintro _ ND ⟨rfl, hO⟩
   replace H := H.out hO
   refine WL.nil ⟨c8, ?_⟩
   refine WP.jT rfl rfl ?_ ?_ 
   ·
    refine WL.makeSlice (n := 32) H rfl iG rfl (by decide) (by decide) rfl ?_
    intro AG QK H
    replace H := H.freeze (i := 0) rfl
    replace H := H.add (show aH _ (bL (.slice (some ⟨AG, 0, none⟩) 32 32) Z_) _ from (H.bJ 0 rfl).imp fun _ h => bL.cA h rfl)
    refine WL.nil ⟨c8, ?_⟩
    refine WP.aG rfl ?_
    refine WL.bA (l0 := [.int .u8 (0)]) H rfl iG (by decide) (cW _ _) (Fl.cons rfl rfl (by simp only [aS, aY, aB, aD]) Laid.head Fl.nil) rfl ?_
    intro J4 w20 H
    replace H := H.freeze (i := 0) rfl
    replace H := H.add ((H.bJ 0 rfl).imp fun _ h => bL.cA (l := [7]) h rfl)
    refine WL.nil ⟨c8, ?_⟩
    exact jn_ _ _ ⟨(AG, J4), (by repeat (first | with_reducible exact bK.refl _ _ | refine bK.dG rfl ?_)), ⟨rfl, rfl, rfl, trivial⟩, (by exact H.rS [2, 0, 4, 6, 14, 15, 16])⟩
   ·
    refine WL.bA (l0 := [.int .u8 (0)]) H rfl iG (by decide) (cW _ _) (Fl.cons rfl rfl (by simp only [aS, aY, aB, aD]) Laid.head Fl.nil) rfl ?_
    intro J4 w21 H
    replace H := H.freeze (i := 0) rfl
    replace H := H.add ((H.bJ 0 rfl).imp fun _ h => bL.cA (l := [7]) h rfl)
    refine WL.nil ⟨c8, ?_⟩
    refine WP.aG rfl ?_
    refine WL.makeSlice (n := 32) H rfl iG rfl (by decide) (by decide) rfl ?_
    intro AG w23 H
    replace H := H.freeze (i := 0) rfl
    replace H := H.add (show aH _ (bL (.slice (some ⟨AG, 0, none⟩) 32 32) Z_) _ from (H.bJ 0 rfl).imp fun _ h => bL.cA h rfl)
    refine WL.nil ⟨c8, ?_⟩
    exact jn_ _ _ ⟨(AG, J4), (by repeat (first | with_reducible exact bK.refl _ _ | refine bK.dG rfl ?_)), ⟨rfl, rfl, rfl, trivial⟩, (by exact H.rS [0, 2, 4, 6, 14, 15, 16])⟩
  ·
   refine WL.makeSlice (n := 32) H rfl iG rfl (by decide) (by decide) rfl ?_
   intro AG w27 H
   replace H := H.freeze (i := 0) rfl
   replace H := H.add (show aH _ (bL (.slice (some ⟨AG, 0, none⟩) 32 32) Z_) _ from (H.bJ 0 rfl).imp fun _ h => bL.cA h rfl)
   refine WL.nil ⟨c8, ?_⟩
   refine WP.jT rfl rfl ?_ ?_ 
   ·
    refine WL.call JS rfl (pO (X := Nil) (bt := y5) (bh := mQ) (T := (Tz a1 s1)) (fun _ h => h.elim) (H.vN 0 rfl)) ?_
    rintro _ w30 ⟨rfl, hO⟩
    replace H := H.out hO
    refine WL.nil ⟨c8, ?_⟩
    refine WP.aG rfl ?_
    refine WL.bA (l0 := [.int .u8 (0)]) H rfl iG (by decide) (cW _ _) (Fl.cons rfl rfl (by simp only [aS, aY, aB, aD]) Laid.head Fl.nil) rfl ?_
    intro J4 w31 H
    replace H := H.freeze (i := 0) rfl
    replace H := H.add ((H.bJ 0 rfl).imp fun _ h => bL.cA (l := [7]) h rfl)
    refine WL.nil ⟨c8, ?_⟩
    exact jn_ _ _ ⟨(AG, J4), (by repeat (first | with_reducible exact bK.refl _ _ | refine bK.dG rfl ?_)), ⟨rfl, rfl, rfl, trivial⟩, (by exact H.rS [2, 0, 4, 6, 14, 15, 16])⟩
   ·
    refine WL.bA (l0 := [.int .u8 (0)]) H rfl iG (by decide) (cW _ _) (Fl.cons rfl rfl (by simp only [aS, aY, aB, aD]) Laid.head Fl.nil) rfl ?_
    intro J4 w32 H
    replace H := H.freeze (i := 0) rfl
    replace H := H.add ((H.bJ 0 rfl).imp fun _ h => bL.cA (l := [7]) h rfl)
    refine WL.nil ⟨c8, ?_⟩
    refine WP.aC rfl rfl (PV.dQ rfl aCp aB0 (Fl.cons rfl rfl (by simp only [aS, aY, aB, aD]) Laid.head (Fl.cons rfl rfl (by simp only [aS, aY, aB, aD]) (Laid.tail Laid.head rfl) (Fl.cons rfl rfl (by simp only [aS, aY, aB, aD]) (Laid.tail (Laid.tail Laid.head rfl) rfl) Fl.nil)))) ?_
    refine WP.aG rfl ?_
    refine WL.call JS rfl (pO (X := Nil) (bt := y5) (bh := mQ) (T := (Tz a1 s1)) (fun _ h => h.elim) (H.vN 0 rfl)) ?_
    rintro _ w33 ⟨rfl, hO⟩
    replace H := H.out hO
    refine WL.nil ⟨c8, ?_⟩
    refine WP.aG rfl ?_
    refine WL.call aDh rfl (zD (bh := mQ) (bc := sG) (bits := 256) (kd := pK (Tz a1 s1) Z_) (dp := Tr.dp Z_ 0 (Tz a1 s1)) (lk := (Tr.fin (Tz a1 s1) Z_).key) (lv := (Tr.fin (Tz a1 s1) Z_).vd 256) (B := pA (Tz a1 s1) Z_ (Tr.dp Z_ 0 (Tz a1 s1))) (sb := jB 256 (Tz a1 s1) Z_ (Tr.dp Z_ 0 (Tz a1 s1))) (k := Z_) (vv := [7]) (rb := ((Tz a1 s1).er.nV 256)) (sr := (.slice (some ⟨b3, 0, none⟩) 32 32)) (sk := (.slice (some ⟨AG, 0, none⟩) 32 32)) (sv := (.slice (some ⟨J4, 0, none⟩) 1 1)) (se := s32) (pr := true) H.aR (H.l 1 rfl) (by exact (H.iL 1 rfl 14 rfl : aH _ (fO mQ sG 256) _)) (by exact (H.iL 1 rfl 6 rfl : aH _ (bL (.slice (some ⟨b3, 0, none⟩) 32 32) ((Tz a1 s1).er.nV 256)) _)) (by exact (H.iL 1 rfl 2 rfl : aH _ (bL (.slice (some ⟨AG, 0, none⟩) 32 32) Z_) _)) (by exact (H.iL 1 rfl 0 rfl : aH _ (bL (.slice (some ⟨J4, 0, none⟩) 1 1) [7]) _)) (by exact (H.iL 1 rfl 4 rfl : aH _ (bL s32 (fM (pK (Tz a1 s1) Z_) (Tr.dp Z_ 0 (Tz a1 s1)) (Tr.fin (Tz a1 s1) Z_).key ((Tr.fin (Tz a1 s1) Z_).vd 256) (pA (Tz a1 s1) Z_ (Tr.dp Z_ 0 (Tz a1 s1))) (jB 256 (Tz a1 s1) Z_ (Tr.dp Z_ 0 (Tz a1 s1))))) _)) (by exact (H.iL 1 rfl 15 rfl : aH _ (aZ) _)) (by exact (H.iL 1 rfl 16 rfl : aH _ (eV) _)) (by decide) hok rfl TC (by decide) KQ) ?_
    rintro _ w34 ⟨m50, FG, hO, hB⟩
    rw [if_pos hroot] at FG
    subst FG
    replace H := H.called 1 rfl hO hB
    refine WL.nil ⟨c8, ?_⟩
    refine WP.aC rfl rfl (PV.eql rfl rfl rfl) (WP.aC rfl rfl (PV.c5 rfl rfl rfl) (WP.as rfl rfl rfl (WP.done (WE.ret ⟨[_], _, .nil _, ⟨rfl, trivial⟩, ?_⟩))))
    refine ⟨?_, H.aL⟩
    rfl
  ·
   refine WL.bA (l0 := [.int .u8 (0)]) H rfl iG (by decide) (cW _ _) (Fl.cons rfl rfl (by simp only [aS, aY, aB, aD]) Laid.head Fl.nil) rfl ?_
   intro J4 w35 H
   replace H := H.freeze (i := 0) rfl
   replace H := H.add ((H.bJ 0 rfl).imp fun _ h => bL.cA (l := [7]) h rfl)
   refine WL.nil ⟨c8, ?_⟩
   refine WP.jT rfl rfl ?_ ?_ 
   ·
    refine WL.call JS rfl (pO (X := Nil) (bt := y5) (bh := mQ) (T := (Tz a1 s1)) (fun _ h => h.elim) (H.vN 0 rfl)) ?_
    rintro _ w36 ⟨rfl, hO⟩
    replace H := H.out hO
    refine WL.nil ⟨c8, ?_⟩
    refine WP.aG rfl ?_
    refine WL.makeSlice (n := 32) H rfl iG rfl (by decide) (by decide) rfl ?_
    intro AG w38 H
    replace H := H.freeze (i := 0) rfl
    replace H := H.add (show aH _ (bL (.slice (some ⟨AG, 0, none⟩) 32 32) Z_) _ from (H.bJ 0 rfl).imp fun _ h => bL.cA h rfl)
    refine WL.nil ⟨c8, ?_⟩
    exact jn_ _ _ ⟨(AG, J4), (by repeat (first | with_reducible exact bK.refl _ _ | refine bK.dG rfl ?_)), ⟨rfl, rfl, rfl, trivial⟩, (by exact H.rS [0, 2, 4, 6, 14, 15, 16])⟩
   ·
    refine WL.makeSlice (n := 32) H rfl iG rfl (by decide) (by decide) rfl ?_
    intro AG w42 H
    replace H := H.freeze (i := 0) rfl
    replace H := H.add (show aH _ (bL (.slice (some ⟨AG, 0, none⟩) 32 32) Z_) _ from (H.bJ 0 rfl).imp fun _ h => bL.cA h rfl)
    refine WL.nil ⟨c8, ?_⟩
    refine WP.aC rfl rfl (PV.dQ rfl aCp aB0 (Fl.cons rfl rfl (by simp only [aS, aY, aB, aD]) Laid.head (Fl.cons rfl rfl (by simp only [aS, aY, aB, aD]) (Laid.tail Laid.head rfl) (Fl.cons rfl rfl (by simp only [aS, aY, aB, aD]) (Laid.tail (Laid.tail Laid.head rfl) rfl) Fl.nil)))) ?_
    refine WP.aG rfl ?_
    refine WL.call JS rfl (pO (X := Nil) (bt := y5) (bh := mQ) (T := (Tz a1 s1)) (fun _ h => h.elim) (H.vN 0 rfl)) ?_
    rintro _ w45 ⟨rfl, hO⟩
    replace H := H.out hO
    refine WL.nil ⟨c8, ?_⟩
    refine WP.aG rfl ?_
    refine WL.call aDh rfl (zD (bh := mQ) (bc := sG) (bits := 256) (kd := pK (Tz a1 s1) Z_) (dp := Tr.dp Z_ 0 (Tz a1 s1)) (lk := (Tr.fin (Tz a1 s1) Z_).key) (lv := (Tr.fin (Tz a1 s1) Z_).vd 256) (B := pA (Tz a1 s1) Z_ (Tr.dp Z_ 0 (Tz a1 s1))) (sb := jB 256 (Tz a1 s1) Z_ (Tr.dp Z_ 0 (Tz a1 s1))) (k := Z_) (vv := [7]) (rb := ((Tz a1 s1).er.nV 256)) (sr := (.slice (some ⟨b3, 0, none⟩) 32 32)) (sk := (.slice (some ⟨AG, 0, none⟩) 32 32)) (sv := (.slice (some ⟨J4, 0, none⟩) 1 1)) (se := s32) (pr := true) H.aR (H.l 1 rfl) (by exact (H.iL 1 rfl 14 rfl : aH _ (fO mQ sG 256) _)) (by exact (H.iL 1 rfl 6 rfl : aH _ (bL (.slice (some ⟨b3, 0, none⟩) 32 32) ((Tz a1 s1).er.nV 256)) _)) (by exact (H.iL 1 rfl 0 rfl : aH _ (bL (.slice (some ⟨AG, 0, none⟩) 32 32) Z_) _)) (by exact (H.iL 1 rfl 2 rfl : aH _ (bL (.slice (some ⟨J4, 0, none⟩) 1 1) [7]) _)) (by exact (H.iL 1 rfl 4 rfl : aH _ (bL s32 (fM (pK (Tz a1 s1) Z_) (Tr.dp Z_ 0 (Tz a1 s1)) (Tr.fin (Tz a1 s1) Z_).key ((Tr.fin (Tz a1 s1) Z_).vd 256) (pA (Tz a1 s1) Z_ (Tr.dp Z_ 0 (Tz a1 s1))) (jB 256 (Tz a1 s1) Z_ (Tr.dp Z_ 0 (Tz a1 s1))))) _)) (by exact (H.iL 1 rfl 15 rfl : aH _ (aZ) _)) (by exact (H.iL 1 rfl 16 rfl : aH _ (eV) _)) (by decide) hok rfl TC (by decide) KQ) ?_
    rintro _ w46 ⟨m50, FG, hO, hB⟩
    rw [if_pos hroot] at FG
    subst FG
    replace H := H.called 1 rfl hO hB
    refine WL.nil ⟨c8, ?_⟩
    refine WP.aC rfl rfl (PV.eql rfl rfl rfl) (WP.aC rfl rfl (PV.c5 rfl rfl rfl) (WP.as rfl rfl rfl (WP.done (WE.ret ⟨[_], _, .nil _, ⟨rfl, trivial⟩, ?_⟩))))
    refine ⟨?_, H.aL⟩
    rfl
 ·
  intro ⟨AG, J4⟩ γ_ w47 hI
  try dsimp only at hI
  replace H := hI
  refine WP.aC rfl rfl (PV.dQ rfl aCp aB0 (Fl.cons rfl rfl (by simp only [aS, aY, aB, aD]) Laid.head (Fl.cons rfl rfl (by simp only [aS, aY, aB, aD]) (Laid.tail Laid.head rfl) (Fl.cons rfl rfl (by simp only [aS, aY, aB, aD]) (Laid.tail (Laid.tail Laid.head rfl) rfl) Fl.nil)))) ?_
  refine WP.aG rfl ?_
  refine WL.call aDh rfl (zD (bh := mQ) (bc := sG) (bits := 256) (kd := pK (Tz a1 s1) Z_) (dp := Tr.dp Z_ 0 (Tz a1 s1)) (lk := (Tr.fin (Tz a1 s1) Z_).key) (lv := (Tr.fin (Tz a1 s1) Z_).vd 256) (B := pA (Tz a1 s1) Z_ (Tr.dp Z_ 0 (Tz a1 s1))) (sb := jB 256 (Tz a1 s1) Z_ (Tr.dp Z_ 0 (Tz a1 s1))) (k := Z_) (vv := [7]) (rb := ((Tz a1 s1).er.nV 256)) (sr := (.slice (some ⟨b3, 0, none⟩) 32 32)) (sk := (.slice (some ⟨AG, 0, none⟩) 32 32)) (sv := (.slice (some ⟨J4, 0, none⟩) 1 1)) (se := s32) (pr := true) H.aR (H.l 1 rfl) (by exact (H.iL 1 rfl 4 rfl : aH _ (fO mQ sG 256) _)) (by exact (H.iL 1 rfl 3 rfl : aH _ (bL (.slice (some ⟨b3, 0, none⟩) 32 32) ((Tz a1 s1).er.nV 256)) _)) (by exact (H.iL 1 rfl 0 rfl : aH _ (bL (.slice (some ⟨AG, 0, none⟩) 32 32) Z_) _)) (by exact (H.iL 1 rfl 1 rfl : aH _ (bL (.slice (some ⟨J4, 0, none⟩) 1 1) [7]) _)) (by exact (H.iL 1 rfl 2 rfl : aH _ (bL s32 (fM (pK (Tz a1 s1) Z_) (Tr.dp Z_ 0 (Tz a1 s1)) (Tr.fin (Tz a1 s1) Z_).key ((Tr.fin (Tz a1 s1) Z_).vd 256) (pA (Tz a1 s1) Z_ (Tr.dp Z_ 0 (Tz a1 s1))) (jB 256 (Tz a1 s1) Z_ (Tr.dp Z_ 0 (Tz a1 s1))))) _)) (by exact (H.iL 1 rfl 5 rfl : aH _ (aZ) _)) (by exact (H.iL 1 rfl 6 rfl : aH _ (eV) _)) (by decide) hok rfl TC (by decide) KQ) ?_
  rintro _ w48 ⟨m50, FG, hO, hB⟩
  rw [if_pos hroot] at FG
  subst FG
  replace H := H.called 1 rfl hO hB
  refine WL.nil ⟨c8, ?_⟩
  refine WP.aC rfl rfl (PV.eql rfl rfl rfl) (WP.aC rfl rfl (PV.c5 rfl rfl rfl) (WP.as rfl rfl rfl (WP.done (WE.ret ⟨[_], _, .nil _, ⟨rfl, trivial⟩, ?_⟩))))
  refine ⟨?_, H.aL⟩
  rfl
theorem ZO {X : Nat → Prop} {w : World} {i : Int} {s : Value} {l : List nW} (hX : c6 X w) (bT : aH X (AH s l) w) (dJ : aH X (lN l) w) (fQ : aH X (aZ) w) (jW : aH X (eV) w) (hlen : l.length ≤ 9223372036854775807) (hq : ∀ o ∈ l, o.k.length ≤ 9223372036854775807 ∧ o.v.length ≤ 9223372036854775807 ∧ o.b.length ≤ 9223372036854775807 ∧ ∀ u ∈ o.b, u.k.length ≤ 9223372036854775807 ∧ u.v.length ≤ 9223372036854775807) :
  bC prog 7 [.int .i64 i, s].toArray w fun v w' => ∃ (b : Bool) (tp s2 : Value), v = .tuple [tp, s2, .bool b].toArray ∧ Out Nil w w' ∧ (b = true → (0 ≤ i ∧ i ≤ 256) ∧ KP l ∧ ∃ (bt bh bc : Nat) (T : Tr) (c' : Int), tp = .pointer (some ⟨bt, 0, none⟩) ∧ T.er = grow 0 (runM l) ∧ w.heap.size ≤ bt ∧ w.heap.size ≤ bc ∧ bt ≠ bc ∧ aN w' bt 90 [.pointer (some ⟨bh, 0, none⟩), T.ptr] ∧ aN w' bc 213 [.int .i64 c'] ∧ aH (fun c => X c ∨ c = bt ∨ c = bc) (GR i T (runM l) bh bc s2) w') := by
 refine bC.aI (N := 52) func7 rfl rfl (by simp) ?_
 have H := ((((St.begin hX).add (cE jW)).add (cE fQ)).add (cE dJ)).add (cE bT)
 refine WE.aA (WL.as rfl rfl (WL.as rfl rfl (WL.as rfl rfl (WL.nil (WE.seq (WE.aA (WL.mv rfl rfl ?_)))))))
 refine WL.call aKm rfl (aAv (i := i) H.aR  ) ?_
 rintro _ w1 ⟨rfl, hO⟩
 replace H := H.out hO
 refine WL.pv (PV.not rfl rfl) rfl (WL.mv rfl rfl ?_)
 refine WL.split (t := 15) rfl (fun tI => ?_) (fun tI => ?_)
 ·
  refine WL.known (t := 14) (c := true) rfl tI ?_
  try simp only [bP] at tI
  refine WL.off rfl (WL.off rfl (WL.off rfl (WL.pv (PV.c5 rfl rfl rfl) rfl (WL.nil (WE.kZ rfl (WE.aA (WL.as rfl rfl ?_)))))))
  refine WL.as rfl rfl (WL.as rfl rfl (WL.nil (WE.ret ⟨[_, _, _], _, .nil _, ⟨rfl, rfl, rfl, trivial⟩, ?_⟩)))
  exact ⟨false, _, _, rfl, H.aL, fun h => by cases h⟩
 ·
  refine WL.known (t := 14) (c := false) rfl tI ?_
  try simp only [bP] at tI
  have bU : 0 ≤ i ∧ i ≤ 256 := by exact tI
  refine WL.mv rfl rfl ?_
  refine WL.call aG0 rfl (FA (s := s) (l := l) H.aR (by exact (H.bJ 0 rfl : aH _ (AH s l) _)) (by exact (H.bJ 1 rfl : aH _ (lN l) _)) hlen hq) ?_
  rintro _ w2 ⟨n17, rfl, aJN, hO⟩
  replace H := H.out hO
  refine WL.pv (PV.eql rfl rfl rfl) rfl (WL.pv (PV.cF rfl rfl rfl) rfl (WL.nil ?_))
  refine WE.cond rfl (fun kC => ?_) (fun kC => ?_)
  ·
   try simp only [bP] at kC
   refine WE.aA (WL.as rfl rfl (WL.as rfl rfl (WL.as rfl rfl (WL.nil (WE.ret ⟨[_, _, _], _, .nil _, ⟨rfl, rfl, rfl, trivial⟩, ?_⟩)))))
   exact ⟨false, _, _, rfl, H.aL, fun h => by cases h⟩
  ·
   try simp only [bP] at kC
   have pY : KP l := aJN (by exact kC)
   refine WE.skip (WE.aA (WL.mv rfl rfl ?_))
   refine WL.call aGp rfl (VS (i := i) H.aR  bU) ?_
   rintro _ w3 ⟨GN, vV, y8, rfl, hO, SZ, SY, JI, uX, qS, hR⟩
   replace H := H.IU hO (aP.blk GN 90 [.pointer (some ⟨vV, 0, none⟩), .pointer none]) (aP.blk y8 213 [.int .i64 0]) uX qS (fun c hc => by cases hc; exact SZ) (fun c hc => by cases hc; exact SY) (u6 JI) hR
   refine WL.mv rfl rfl (WL.pv (PV.extract rfl rfl rfl) rfl (WL.pv (PV.extract rfl rfl rfl) rfl (WL.as rfl rfl (WL.as rfl rfl (WL.nil (WE.seq (WE.aA ?_)))))))
   refine WL.mv rfl rfl (WL.pv (PV.jU rfl IV rfl rfl) rfl (WL.mv rfl rfl (WL.known (t := 27) (c := false) rfl rfl (WL.mv rfl rfl (WL.pv (PV.neq rfl rfl rfl) rfl (WL.pv (PV.cF rfl rfl rfl) rfl (WL.mv rfl rfl ?_)))))))
   refine WL.known (t := 31) (c := false) rfl rfl (WL.mv rfl rfl ?_)
   refine WL.call JS rfl (pO (X := Nil) (bt := GN) (bh := vV) (T := .nil) (fun _ h => h.elim) (H.vN 0 rfl)) ?_
   rintro _ w4 ⟨rfl, hO⟩
   replace H := H.out hO
   refine WL.pv (PV.jU rfl aEK rfl rfl) rfl (WL.pv (PV.cF rfl rfl rfl) rfl (WL.nil ?_))
   refine WE.bD rfl rfl ?_
   refine WE.skip (WE.aA (WL.as rfl rfl (WL.nil (WE.seq (WE.aA (WL.mv rfl rfl ?_))))))
   refine WL.pv (PV.dS (by exact (H.p 1 rfl : (AH s l) _)) ID rfl) rfl ?_
   refine WL.mv rfl rfl (WL.nil (WE.block ?_))
   replace H := H.add (show aH _ (eC (runM (l.take 0))) _ from fun _ _ e he => by rw [List.take_zero] at he; cases he)
   replace H := H.add (show aH _ (fF (.slice none 0 0) (runM (l.take 0))) _ from fun w_ _ => by rw [List.take_zero]; exact cO.nil w_ 33)
   replace H := H.add (show aH _ (cV i .nil) _ from fun _ _ => trivial)
   refine WE.loop (α := Nat × Value × Tr × Int) (rg [(9, 1), (11, 1), (38, 12)]) (fun p => [(38, .int .i64 (p.1 : Int)), (9, p.2.1)]) (fun p wl => (p.1 ≤ l.length ∧ p.2.2.1.er = grow 0 (runM (l.take p.1))) ∧ St X w wl [] [aP.blk GN 90 [.pointer (some ⟨vV, 0, none⟩), p.2.2.1.ptr], aP.blk y8 213 [.int .i64 p.2.2.2]] [fO vV y8 i, cV i p.2.2.1, fF p.2.1 (runM (l.take p.1)), eC (runM (l.take p.1)), AH s l, lN l, aZ, eV]) (fun p => l.length - p.1) (0, .slice none 0 0, .nil, 0) ⟨rfl, rfl, trivial⟩ ⟨⟨Nat.zero_le _, (by dsimp only; rw [List.take_zero]; exact (eM 0).symm)⟩, H.rS [3, 0, 1, 2, 4, 5, 6, 7]⟩ ?_
   intro ⟨j, s2, T, c⟩ γ0 w5 hI
   try dsimp only at hI
   obtain ⟨⟨hj, hT⟩, H⟩ := hI
   try dsimp only at hj hT
   refine WE.aA (WL.pv (PV.lss rfl rfl rfl) rfl (WL.nil (WE.seq ?_)))
   refine WE.cond rfl (fun aCY => ?_) (fun aCY => ?_)
   ·
    try simp only [bP] at aCY
    have hlt : j < l.length := by omega
    have SN := pY.2 _ (List.getElem_mem hlt)
    have pD := e9.run pY j (by omega)
    have aFk := pY.1
    have DY := AV hlt
    refine WE.skip (WE.seq (WE.block (WE.aA ?_)))
    refine WL.pv (PV.dX rfl (by exact (H.p 4 rfl : (AH s l) _)) ID B8 rfl rfl (by omega) (by omega)) rfl ?_
    refine WL.bE rfl VL rfl rfl ((AH.rd (by exact (H.p 4 rfl : (AH s l) _)) j hlt)) (by exact B8) ?_
    refine WL.alloc H rfl aBZ rfl ?_
    intro VC w6 H
    refine WL.aW H 0 rfl rfl rfl (new := uO l[j]) rfl (by exact B8) (CM (by exact (H.p 5 rfl : lN l _) _ (List.getElem_mem hlt))) (Laid.at (Laid.all rfl) rfl) rfl ?_
    intro w7 H
    refine WL.nil (WE.dW (WL.mv rfl rfl (WL.mv rfl rfl ?_)))
    refine WL.bE rfl VL rfl rfl (aN.aF (H.l 0 rfl) (aK.all _) rfl) (by exact B8) ?_
    refine WL.call aKp rfl (aKR (bt := GN) (bh := vV) (bc := y8) (bits := i) (T := T) (m := (runM (l.take j))) (s2 := s2) (o := l[j]) (nn := 20 * j) H.aR (H.l 2 rfl) (H.l 1 rfl) (by exact (H.iN 2 1 rfl rfl 0 rfl : aH _ (fO vV y8 i) _)) (by exact (H.iN 2 1 rfl rfl 1 rfl : aH _ (cV i T) _)) (by exact (H.iN 2 1 rfl rfl 2 rfl : aH _ (fF s2 (runM (l.take j))) _)) (by exact (H.iN 2 1 rfl rfl 3 rfl : aH _ (eC (runM (l.take j))) _)) (by exact (H.iN 2 1 rfl rfl 5 rfl : aH _ (lN l) _).imp fun _ h => h _ (List.getElem_mem hlt)) (by exact (H.iN 2 1 rfl rfl 6 rfl : aH _ (aZ) _)) (by exact (H.iN 2 1 rfl rfl 7 rfl : aH _ (eV) _)) (Ne.symm JI) bU hT pD (by omega) SN.1 SN.2.1 SN.2.2) ?_
    rintro _ w8 ⟨T46, c46, s46, rfl, aFW, hO, uX, qS, LY, HU, hR3⟩
    rw [← DY] at aFW HU hR3
    replace H := H.qM 2 1 rfl rfl (by decide) hO uX qS (aH.aH0 LY HU hR3)
    replace H := H.aHY (q := cV i T46) (r := fF s46 (runM (l.take (j + 1)))) (s := eC (runM (l.take (j + 1)))) (fun _ h => h)
    replace H := H.forget 0
    refine WL.mv rfl rfl (WL.pv (PV.extract rfl rfl rfl) rfl (WL.pv (PV.extract rfl rfl rfl) rfl (WL.as rfl rfl (WL.nil (WE.dW (WL.pv (PV.eq (v' := .int .i64 ((j + 1 : Nat) : Int)) (PV.bV rfl rfl rfl (by omega) (by omega)) rfl) rfl (WL.mv rfl rfl ?_)))))))
    refine WL.nil ?_
    exact ⟨(j + 1, s46, T46, c46), (by repeat (first | with_reducible exact bK.refl _ _ | refine bK.dG rfl ?_ | refine bK.bZ rfl ?_ | refine bK.bX rfl ?_)), ⟨rfl, rfl, trivial⟩, rfl, ⟨⟨by dsimp only; omega, aFW⟩, H.rS [3, 0, 1, 2, 7, 8, 9, 10]⟩, (by dsimp only; omega)⟩
   ·
    try simp only [bP] at aCY
    have hje : l.take j = l := List.take_of_length_le (by omega)
    refine WE.exit (WE.aA (WL.mv rfl rfl (WL.mv rfl rfl (WL.as rfl rfl (WL.as rfl rfl (WL.as rfl rfl (WL.nil ?_)))))))
    refine WE.ret ⟨[_, _, _], _, .nil _, ⟨rfl, rfl, rfl, trivial⟩, ?_⟩
    rw [hje] at hT H
    have hgr := ((H.bJ 0 rfl).and ((H.bJ 1 rfl).and ((H.bJ 2 rfl).and (H.bJ 3 rfl))))
    replace H := H.add (show aH _ (GR i T (runM l) vV y8 s2) _ from hgr)
    exact ⟨true, _, s2, rfl, H.aL, fun _ => ⟨bU, pY, GN, vV, y8, T, c, rfl, hT, H.kI _ (List.mem_of_getElem? (i := 0) rfl) _ rfl, H.kI _ (List.mem_of_getElem? (i := 1) rfl) _ rfl, JI, H.l 0 rfl, H.l 1 rfl, H.aBs 0 rfl⟩⟩
theorem aGa {n : Nat} {m : List En} (h : e9 n m) (k : List UInt8) : (gV m k).length ≤ 65535 := by
 unfold gV
 cases hg : getM m k with
 | none => simp
 | some e => exact h.v e (DD hg).1
theorem KL.E5 {a b : List En} (h : CV a = CV b) (hb : KL b) : KL a := fun e he => by
 obtain ⟨i, hi, rfl⟩ := List.getElem_of_mem he
 have h1 := CU h
 rw [(h1.2 i hi (by omega)).1]
 exact hb _ (List.getElem_mem _)
theorem SV.E5 {a b : List En} (h : CV a = CV b) {n : Nat} (hb : ∀ e ∈ b, e.v.length ≤ n) : ∀ e ∈ a, e.v.length ≤ n := fun e he => by
 obtain ⟨i, hi, rfl⟩ := List.getElem_of_mem he
 have h1 := CU h
 rw [(h1.2 i hi (by omega)).2]
 exact hb _ (List.getElem_mem _)
theorem MZ.E5 {a b : List En} (h : CV a = CV b) : MZ a b := CU h
theorem aDB {X : Nat → Prop} {w : World} {bt bh : Nat} {i : Int} {T : Tr} (hX : c6 X w) (bT : aH X (fun w => dD w ⟨bt, 0, none⟩ [.pointer (some ⟨bh, 0, none⟩), T.ptr]) w) (dJ : aH X (cV i T) w) :
  bC prog 57 [.pointer (some ⟨bt, 0, none⟩)].toArray w fun v w' => v = .int .i64 (T.er.gC : Int) ∧ Out Nil w w' := by
 refine bC.aI (N := 6) func57 rfl rfl (by simp) ?_
 have H := ((St.begin hX).add (cE dJ)).add (cE bT)
 refine WE.aA (WL.as rfl rfl (WL.nil (WE.aA (WL.mv rfl rfl ?_))))
 refine WL.call aDi rfl (DR (bt := bt) (bh := bh) (T := T) H.aR (by exact (H.bJ 0 rfl : aH _ (fun w => dD w ⟨bt, 0, none⟩ [.pointer (some ⟨bh, 0, none⟩), T.ptr]) _))) ?_
 rintro _ w1 ⟨rfl, hO⟩
 replace H := H.out hO
 refine WL.call aC4 rfl (WA (T := T) (bits := i) H.aR (by exact (H.bJ 1 rfl : aH _ (cV i T) _))) ?_
 rintro _ w2 ⟨rfl, hO⟩
 replace H := H.out hO
 refine WL.as rfl rfl (WL.nil (WE.ret ⟨[_], _, .nil _, ⟨rfl, trivial⟩, ?_⟩))
 exact ⟨rfl, H.aL⟩
theorem aAp {X : Nat → Prop} {w : World} {bt bh : Nat} {i : Int} {T : Tr} (hX : c6 X w) (bT : aH X (fun w => dD w ⟨bt, 0, none⟩ [.pointer (some ⟨bh, 0, none⟩), T.ptr]) w) (dJ : aH X (cV i T) w) (hfit : T.er.fit 0) (D2 : T.er.gC ≤ 1000000) :
  bC prog 59 [.pointer (some ⟨bt, 0, none⟩)].toArray w fun v w' => ∃ es : List En, Out Nil w w' ∧ aH X (fF v es) w' ∧ aH X (eC es) w' ∧ CV es = kvT (T.oS 0) := by
 refine bC.aI (N := 6) func59 rfl rfl (by simp) ?_
 have H := ((St.begin hX).add (cE dJ)).add (cE bT)
 refine WE.aA (WL.as rfl rfl (WL.nil (WE.aA (WL.mv rfl rfl ?_))))
 refine WL.call aDi rfl (DR (bt := bt) (bh := bh) (T := T) H.aR (by exact (H.bJ 0 rfl : aH _ (fun w => dD w ⟨bt, 0, none⟩ [.pointer (some ⟨bh, 0, none⟩), T.ptr]) _))) ?_
 rintro _ w1 ⟨rfl, hO⟩
 replace H := H.out hO
 refine WL.call aKn rfl (PO (T := T) (bits := i) H.aR (by exact (H.bJ 1 rfl : aH _ (cV i T) _)) hfit D2) ?_
 rintro v5 w2 ⟨es, hO, hS, hV, hes⟩
 replace H := ((H.out hO).add hV).add hS
 refine WL.as rfl rfl (WL.nil (WE.ret ⟨[_], _, .nil _, ⟨rfl, trivial⟩, ?_⟩))
 exact ⟨es, H.aL, H.fX (H.bJ 0 rfl), H.fX (H.bJ 1 rfl), hes⟩
theorem PS {X : Nat → Prop} {w : World} {bt bh bc nn : Nat} {i c0 : Int} {T : Tr} {m : List En} {s2 : Value} (hX : c6 X w) (fA : aN w bc 213 ([.int .i64 c0])) (bT : aH (fun c_ => X c_ ∨ c_ = bc) (fun w => dD w ⟨bt, 0, none⟩ [.pointer (some ⟨bh, 0, none⟩), T.ptr]) w) (dJ : aH (fun c_ => X c_ ∨ c_ = bc) (fO bh bc i) w) (fQ : aH (fun c_ => X c_ ∨ c_ = bc) (cV i T) w) (jW : aH (fun c_ => X c_ ∨ c_ = bc) (fF s2 m) w) (nM : aH (fun c_ => X c_ ∨ c_ = bc) (eC m) w) (sK : aH (fun c_ => X c_ ∨ c_ = bc) (aZ) w) (bU : 0 ≤ i ∧ i ≤ 256) (hT : T.er = grow 0 m) (pD : e9 nn m) (ZA : nn ≤ 1000) :
  bC prog 23 [.pointer (some ⟨bt, 0, none⟩), .int .i64 i, s2].toArray w fun v w' => ∃ c' : Int, v = .int .i64 0 ∧ Out (· = bc) w w' ∧ aN w' bc 213 [.int .i64 c'] := by
 refine bC.aI (N := 26) func23 rfl rfl (by simp) ?_
 have H := ((((((St.dK (b := bc) (t := 213) (l := [.int .i64 c0]) hX fA).add (cC sK)).add (cC nM)).add (cC jW)).add (cC fQ)).add (cC dJ)).add (cC bT)
 have nL := pD.pm
 have zQ := pD.l
 have hfit : T.er.fit 0 := by rw [hT]; exact tL nL
 have D2 : T.er.gC = m.length := by rw [hT]; exact mN nL
 refine WE.aA (WL.as rfl rfl (WL.nil (WE.seq (WE.aA (WL.mv rfl rfl ?_)))))
 refine WL.call aHh rfl (MY (bt := bt) (bh := bh) (bc := bc) (bits := i) (T := T) H.aR (H.o 0 rfl) (by exact (H.aO 0 rfl 0 rfl : aH _ (fun w => dD w ⟨bt, 0, none⟩ [.pointer (some ⟨bh, 0, none⟩), T.ptr]) _)) (by exact (H.aO 0 rfl 1 rfl : aH _ (fO bh bc i) _)) (by exact (H.aO 0 rfl 2 rfl : aH _ (cV i T) _)) (by exact (H.aO 0 rfl 5 rfl : aH _ (aZ) _)) bU) ?_
 rintro _ w1 ⟨m8, rfl, hO, hB⟩
 replace H := H.eZ 0 rfl hO hB
 refine WL.mv rfl rfl (WL.mv rfl rfl ?_)
 refine WL.call aDf rfl (aDD (s := s2) (m := m) (bits := i) (d := 0) H.aR (by exact (H.bJ 3 rfl : aH _ (fF s2 m) _)) (by exact (H.bJ 4 rfl : aH _ (eC m) _)) (by exact (H.bJ 5 rfl : aH _ (aZ) _)) nL (by omega) pD.short bU) ?_
 rintro _ w2 ⟨rfl, hO⟩
 replace H := H.out hO
 refine WL.pv (PV.DM rfl pN mM gO (by kernel_rfl) rfl rfl (by exact eW _ _) (by exact eW _ _)) rfl ?_
 refine WL.mv rfl rfl ?_
 refine WL.known (t := 13) (c := true) rfl (by simp [hT, n4]) ?_
 refine WL.mv rfl rfl ?_
 refine WL.call aKa rfl (aDB (bt := bt) (bh := bh) (i := i) (T := T) H.aR (by exact (H.bJ 0 rfl : aH _ (fun w => dD w ⟨bt, 0, none⟩ [.pointer (some ⟨bh, 0, none⟩), T.ptr]) _)) (by exact (H.bJ 2 rfl : aH _ (cV i T) _))) ?_
 rintro _ w3 ⟨rfl, hO⟩
 replace H := H.out hO
 refine WL.mv rfl rfl ?_
 refine WL.pv (PV.dS (by exact (H.p 3 rfl : (fF s2 m) _)) lR rfl) rfl ?_
 refine WL.pv (PV.eql rfl rfl rfl) rfl (WL.pv (PV.c5 rfl rfl rfl) rfl (WL.mv rfl rfl ?_))
 refine WL.known (t := 20) (c := true) rfl (by simp [D2]) ?_
 refine WL.mv rfl rfl ?_
 refine WL.call aJ8 rfl (aAp (bt := bt) (bh := bh) (i := i) (T := T) H.aR (by exact (H.bJ 0 rfl : aH _ (fun w => dD w ⟨bt, 0, none⟩ [.pointer (some ⟨bh, 0, none⟩), T.ptr]) _)) (by exact (H.bJ 2 rfl : aH _ (cV i T) _)) hfit (by omega)) ?_
 rintro v22 w4 ⟨es, hO, hS, hV, hes⟩
 replace H := ((H.out hO).add hV).add hS
 have hkv : CV es = CV m := hes.trans (YU hT nL pD.s)
 have hle : es.length = m.length := (CU hkv).1
 refine WL.mv rfl rfl ?_
 refine WL.call aJ9 rfl (IL (la := es) (lb := m) H.aR (by exact (H.bJ 0 rfl : aH _ (fF v22 es) _)) (by exact (H.bJ 1 rfl : aH _ (eC es) _)) (by exact (H.bJ 5 rfl : aH _ (fF s2 m) _)) (by exact (H.bJ 6 rfl : aH _ (eC m) _)) (KL.E5 hkv pD.k) pD.k (by omega) (SV.E5 hkv pD.short) (MZ.E5 hkv)) ?_
 rintro _ w5 ⟨rfl, hO⟩
 replace H := H.out hO
 refine WL.pv (PV.c5 rfl rfl rfl) rfl (WL.nil ?_)
 refine WE.cR rfl rfl ?_
 refine WE.aA (WL.as rfl rfl (WL.nil (WE.ret ⟨[_], _, .nil _, ⟨rfl, trivial⟩, ?_⟩)))
 exact ⟨_, rfl, H.cT, H.o 0 rfl⟩
def nR (o : nW) : Int := if o.n = 0 then bW o.k o.v else if o.n = 1 ∨ o.n = 2 then bW o.k [] else (jR o.b).2
theorem JU {o : nW} (h : o.n = 0) : nR o = bW o.k o.v := if_pos h
theorem xA {o : nW} (h : o.n = 1 ∨ o.n = 2) : nR o = bW o.k [] := by unfold nR; rw [if_neg (by omega), if_pos h]
theorem lM {o : nW} (h : o.n < 0 ∨ 2 < o.n) : nR o = (jR o.b).2 := by unfold nR; rw [if_neg (by omega), if_neg (by omega)]
theorem UM {o : nW} (h0 : 0 ≤ o.n) (h2 : o.n ≤ 2) (hk : o.k.length ≠ 32) : nR o ≠ 0 := by
 by_cases h : o.n = 0
 ·
  rw [JU h, show bW o.k o.v = 2 from if_pos hk]; decide
 ·
  rw [xA (by omega), gG, if_neg hk]; decide
theorem F9 {o : nW} (h : o.n = 0) (hk : o.k.length = 32) : nR o ≠ 0 ↔ 65535 < o.v.length := by
 rw [JU h]
 unfold bW
 rw [if_neg (by omega)]
 split
 ·
  rename_i hv; exact ⟨fun _ => hv, fun _ => by decide⟩
 ·
  rename_i hv; exact ⟨fun h => absurd rfl h, fun h => absurd h hv⟩
theorem DL {o : nW} (h : o.n = 1 ∨ o.n = 2) (hk : o.k.length = 32) : nR o = 0 := by rw [xA h, gG, if_pos hk]
theorem G3 {X : Nat → Prop} {w : World} {i : Int} {s : Value} {l : List nW} {o : nW} (hX : c6 X w) (bT : aH X (AH s l) w) (dJ : aH X (lN l) w) (fQ : aH X (OV o) w) (jW : aH X (aZ) w) (nM : aH X (eV) w) (hlen : l.length ≤ 9223372036854775807) (hq : ∀ o ∈ l, o.k.length ≤ 9223372036854775807 ∧ o.v.length ≤ 9223372036854775807 ∧ o.b.length ≤ 9223372036854775807 ∧ ∀ u ∈ o.b, u.k.length ≤ 9223372036854775807 ∧ u.v.length ≤ 9223372036854775807) (hoq : o.k.length ≤ 9223372036854775807 ∧ o.v.length ≤ 9223372036854775807 ∧ o.b.length ≤ 9223372036854775807 ∧ ∀ u ∈ o.b, u.k.length ≤ 9223372036854775807 ∧ u.v.length ≤ 9223372036854775807) :
  bC prog 5 [.int .i64 i, s, .agg (uO o).toArray].toArray w fun v w' => v = .bool true ∧ Out Nil w w' := by
 refine bC.aI (N := 136) func5 rfl rfl (by simp) ?_
 have H := (((((St.begin hX).add (cE nM)).add (cE jW)).add (cE fQ)).add (cE dJ)).add (cE bT)
 have hoo : eO (uO o) := CM (fQ.here)
 refine WE.aA ?_
 refine WL.box (l := uO o) H rfl rfl rfl ?_
 intro b5 w1 H
 refine WL.as rfl rfl (WL.nil (WE.aA (WL.mv rfl rfl (WL.mv rfl rfl ?_))))
 refine WL.call fb7 rfl (ZO (i := i) (s := s) (l := l) H.aR (by exact (H.bJ 0 rfl : aH _ (AH s l) _)) (by exact (H.bJ 1 rfl : aH _ (lN l) _)) (by exact (H.bJ 3 rfl : aH _ (aZ) _)) (by exact (H.bJ 4 rfl : aH _ (eV) _)) hlen hq) ?_
 rintro _ w2 ⟨bg, tp, s2, rfl, hO, hG⟩
 have H0_ := H
 have aJL := hO
 replace H := H.out hO
 refine WL.mv rfl rfl (WL.pv (PV.extract rfl rfl rfl) rfl (WL.pv (PV.extract rfl rfl rfl) rfl (WL.pv (PV.extract rfl rfl rfl) rfl (WL.as rfl rfl (WL.as rfl rfl (WL.as rfl rfl (WL.nil ?_)))))))
 refine WE.seq (WE.aA (WL.mv rfl rfl (WL.pv (PV.not rfl rfl) rfl (WL.mv rfl rfl ?_))))
 refine WL.split (t := 28) rfl (fun OA => ?_) (fun OA => ?_)
 ·
  refine WL.known (t := 27) (c := true) rfl OA ?_
  try simp only [bP] at OA
  refine WL.off rfl (WL.off rfl (WL.off rfl (WL.off rfl (WL.pv (PV.c5 rfl rfl rfl) rfl (WL.nil (WE.kZ rfl (WE.aA ?_)))))))
  refine WL.call fb8 rfl (IG H.aR (by exact (H.bJ 3 rfl : aH _ (aZ) _)) (by exact (H.bJ 4 rfl : aH _ (eV) _))) ?_
  rintro _ w3 ⟨rfl, hO⟩
  replace H := H.out hO
  refine WL.as rfl rfl (WL.nil (WE.ret ⟨[_], _, .nil _, ⟨rfl, trivial⟩, ?_⟩))
  refine ⟨?_, H.aL⟩
  rfl
 ·
  refine WL.known (t := 27) (c := false) rfl OA ?_
  try simp only [bP] at OA
  have hbg : bg = true := by exact OA
  obtain ⟨bU, pY, bt, bh, bc, T, c0, rfl, hT, SZ, SY, hne, uX, qS, hGR⟩ := hG hbg
  replace H := H0_.IU aJL (aP.blk bt 90 [.pointer (some ⟨bh, 0, none⟩), T.ptr]) (aP.blk bc 213 [.int .i64 c0]) uX qS (fun c hc => by cases hc; exact SZ) (fun c hc => by cases hc; exact SY) (u6 hne) hGR
  replace H := H.aHX (q := fO bh bc i) (r := cV i T) (s := fF s2 (runM l)) (t := eC (runM l)) (fun _ h => h)
  have pD := pY.map
  have nL := pD.pm
  have hfit : T.er.fit 0 := by rw [hT]; exact tL nL
  have iD : qO (runM l) := qO.of (H.p 3 rfl : eC (runM l) _)
  have zQ := pD.l
  have aLv := eW i T.er
  have hvk : ∀ k, (gV (runM l) k).length ≤ 65535 := aGa pD
  refine WL.bE rfl VL rfl rfl (aN.aF (H.l 2 rfl) (aK.all _) rfl) (by exact B8) ?_
  refine WL.bA (l0 := ([.int .i64 (0), .slice none 0 0, .slice none 0 0, .slice none 0 0])) H rfl aII (by decide) rfl (Fl.cons rfl rfl rfl (Laid.all rfl) Fl.nil) rfl ?_
  intro VA w4 H
  replace H := H.freeze (i := 0) rfl
  replace H := H.add (show aH _ (AH (.slice (some ⟨VA, 0, none⟩) 1 1) [o]) _ from (H.bJ 0 rfl).imp fun _ h => (cO.cA (n := 1) h rfl : cO _ (.slice (some ⟨VA, 0, none⟩) 1 1) 4 1 _))
  replace H := H.add (show aH _ (lN [o]) _ from ((by exact (H.bJ 8 rfl : aH _ (OV o) _)) : aH _ (OV o) _).imp fun _ h x hx => by rw [List.mem_singleton.1 hx]; exact h)
  refine WL.call aG0 rfl (FA (s := (.slice (some ⟨VA, 0, none⟩) 1 1)) (l := [o]) H.aR (by exact (H.bJ 1 rfl : aH _ (AH (.slice (some ⟨VA, 0, none⟩) 1 1) [o]) _)) (by exact (H.bJ 0 rfl : aH _ (lN [o]) _)) (by simp) (fun x hx => by rw [List.mem_singleton.1 hx]; exact hoq)) ?_
  rintro _ w5 ⟨n31, rfl, aJM, hO⟩
  replace H := H.out hO
  refine WL.pv (PV.eql rfl rfl rfl) rfl (WL.pv (PV.cF rfl rfl rfl) rfl (WL.nil ?_))
  refine WE.cond rfl (fun wH => ?_) (fun wH => ?_)
  ·
   try simp only [bP] at wH
   refine WE.aA ?_
   refine WL.call fb8 rfl (IG H.aR (by exact (H.bJ 10 rfl : aH _ (aZ) _)) (by exact (H.bJ 11 rfl : aH _ (eV) _))) ?_
   rintro _ w6 ⟨rfl, hO⟩
   replace H := H.out hO
   refine WL.as rfl rfl (WL.nil (WE.ret ⟨[_], _, .nil _, ⟨rfl, trivial⟩, ?_⟩))
   refine ⟨?_, H.aL⟩
   rfl
  ·
   try simp only [bP] at wH
   have hfo : KP [o] := aJM (by exact wH)
   have vQ := hfo.2 o (List.mem_singleton.2 rfl)
   have aFf := vQ.1
   have aLz := vQ.2.1
   have BD := vQ.2.2
   have hs_ := pD.s
   have ZD := pD.k
   refine WE.skip (WE.aA (WL.as rfl rfl (WL.nil ?_)))
   refine WE.cut (α := Tr × Int) (rg [(10, 6), (35, 39)]) (fun g_ => [(10, .bool (decide (nR o ≠ 0)))]) (fun g_ wl => (nR o ≠ 0 → g_.1.er = grow 0 (runM l)) ∧ St X w wl [] [aP.blk bt 90 [.pointer (some ⟨bh, 0, none⟩), g_.1.ptr], aP.blk bc 213 [.int .i64 g_.2], aP.blk b5 56 (uO o)] [fO bh bc i, cV i g_.1, fF s2 (runM l), eC (runM l), OV o, aZ, eV]) ?_ ?_
   ·
    refine WE.aA (WL.pv (PV.fieldAddr rfl iP rfl) rfl (WL.aX rfl l9 rfl rfl (aN.aF (H.l 2 rfl) aK.hd rfl) (WL.nil (WE.block (WE.aA (WL.pv (PV.eql rfl rfl rfl) rfl (WL.as rfl rfl ?_)))))))
    refine WL.nil ?_
    refine WE.cond rfl (fun TK => ?_) (fun TK => ?_)
    ·
     try simp only [bP] at TK
     have hn : o.n = 0 := by exact TK
     have he := JU hn
     refine WE.dW (WL.mv rfl rfl (WL.pv (PV.fieldAddr rfl j4 rfl) rfl (WL.aX rfl eH rfl rfl (aN.aF (H.l 2 rfl) (aK.tl aK.hd rfl) rfl) (WL.pv (PV.fieldAddr rfl u2 rfl) rfl (WL.aX rfl eH rfl rfl (aN.aF (H.l 2 rfl) (aK.tl (aK.tl aK.hd rfl) rfl) rfl) ?_)))))
     refine WL.call aDg rfl (KD (bt := bt) (bh := bh) (bc := bc) (bits := i) (T := T) (m := (runM l)) (s := o.sk) (sv := o.sv) (lb := o.k) (vv := o.v) H.aR (H.l 1 rfl) (H.l 0 rfl) (by exact (H.iN 1 0 rfl rfl 3 rfl : aH _ (fO bh bc i) _)) (by exact (H.iN 1 0 rfl rfl 4 rfl : aH _ (cV i T) _)) (by exact (H.iN 1 0 rfl rfl 9 rfl : aH _ (OV o) _).imp fun _ h => h.1) (by exact (H.iN 1 0 rfl rfl 9 rfl : aH _ (OV o) _).imp fun _ h => h.2.1) (by exact (H.iN 1 0 rfl rfl 10 rfl : aH _ (aZ) _)) (Ne.symm hne) bU hT hs_ ZD (by omega) (by omega) (by omega)) ?_
     rintro aKt w7 ⟨U, c49, hU, hO, uX, qS, hR, hE⟩
     have ZF := hE.here.Y5
     have JH := hE.here.isNil
     have ZK : nR o ≠ 0 → U.er = grow 0 (runM l) := fun h => by (rw [hU, if_neg (he ▸ h)])
     replace H := H.qM 1 0 rfl rfl (by decide) hO uX qS hR
     refine WL.pv (PV.eq (v' := .bool (decide (bW o.k o.v ≠ 0))) (PV.rF rfl (by kernel_rfl) ZF) (by congr 1; show (!gJ aKt) = _; rw [JH]; simp)) rfl ?_
     refine WL.as rfl rfl (WL.nil ?_)
     exact ⟨(U, c49), (by repeat (first | with_reducible exact bK.refl _ _ | refine bK.dG rfl ?_)), ⟨(by refine congrArg Value.bool ?_; rw [he]), trivial⟩, rfl, ⟨ZK, (H.rS [4, 0, 6, 7, 10, 11, 12])⟩⟩
    ·
     try simp only [bP] at TK
     have hn0 : o.n ≠ 0 := by exact TK
     refine WE.aA (WL.pv (PV.eql rfl rfl rfl) rfl (WL.as rfl rfl (WL.nil ?_)))
     refine WE.cond rfl (fun TH => ?_) (fun TH => ?_)
     ·
      try simp only [bP] at TH
      have hn : o.n = 1 := by exact TH
      have he := xA (.inl hn)
      refine WE.aA (WL.mv rfl rfl (WL.pv (PV.fieldAddr rfl j4 rfl) rfl (WL.aX rfl eH rfl rfl (aN.aF (H.l 2 rfl) (aK.tl aK.hd rfl) rfl) ?_)))
      refine WL.call aGO rfl (VT (bt := bt) (bh := bh) (bits := i) (T := T) (m := (runM l)) (s := o.sk) (lb := o.k) H.aR (H.l 0 rfl) (by exact (H.iL 0 rfl 4 rfl : aH _ (cV i T) _)) (by exact (H.iL 0 rfl 9 rfl : aH _ (OV o) _).imp fun _ h => h.1) hT hs_ ZD (by omega) (by omega)) ?_
      rintro _ w8 ⟨aK4, aKs, rfl, hO, LY, hE⟩
      have ZF := hE.here.Y5
      have JH := hE.here.isNil
      obtain ⟨U, rfl⟩ : ∃ U, U = T := ⟨_, rfl⟩
      have hU := hT
      have ZK : nR o ≠ 0 → U.er = grow 0 (runM l) := fun h => by exact hU
      replace H := H.out hO
      refine WL.mv rfl rfl (WL.pv (PV.extract rfl rfl rfl) rfl (WL.pv (PV.extract rfl rfl rfl) rfl (WL.pv (PV.extract rfl rfl rfl) rfl (WL.as rfl rfl (WL.as rfl rfl (WL.as rfl rfl (WL.nil ?_)))))))
      refine WE.dW (WL.mv rfl rfl ?_)
      refine WL.pv (PV.eq (v' := .bool (decide (bW o.k [] ≠ 0))) (PV.rF rfl (by kernel_rfl) ZF) (by congr 1; show (!gJ aKs) = _; rw [JH]; simp)) rfl ?_
      refine WL.as rfl rfl (WL.nil ?_)
      exact ⟨(U, c0), (by repeat (first | with_reducible exact bK.refl _ _ | refine bK.dG rfl ?_)), ⟨(by refine congrArg Value.bool ?_; rw [he]), trivial⟩, rfl, ⟨ZK, (H.rS [3, 4, 5, 6, 9, 10, 11])⟩⟩
     ·
      try simp only [bP] at TH
      have SP : o.n ≠ 1 := by exact TH
      refine WE.aA (WL.pv (PV.eql rfl rfl rfl) rfl (WL.as rfl rfl (WL.nil ?_)))
      refine WE.cond rfl (fun TF => ?_) (fun TF => ?_)
      ·
       try simp only [bP] at TF
       have hn : o.n = 2 := by exact TF
       have he := xA (.inr hn)
       refine WE.aA (WL.mv rfl rfl (WL.pv (PV.fieldAddr rfl j4 rfl) rfl (WL.aX rfl eH rfl rfl (aN.aF (H.l 2 rfl) (aK.tl aK.hd rfl) rfl) ?_)))
       refine WL.call aGH rfl (VU (bt := bt) (bh := bh) (bc := bc) (bits := i) (T := T) (m := (runM l)) (s := o.sk) (lb := o.k) H.aR (H.l 1 rfl) (H.l 0 rfl) (by exact (H.iN 1 0 rfl rfl 3 rfl : aH _ (fO bh bc i) _)) (by exact (H.iN 1 0 rfl rfl 4 rfl : aH _ (cV i T) _)) (by exact (H.iN 1 0 rfl rfl 9 rfl : aH _ (OV o) _).imp fun _ h => h.1) (by exact (H.iN 1 0 rfl rfl 10 rfl : aH _ (aZ) _)) (Ne.symm hne) bU hT hs_ ZD (by omega) (by omega)) ?_
       rintro _ w9 ⟨U, c69, aKr, rfl, hU, hO, uX, qS, hR, hE⟩
       have ZF := hE.here.Y5
       have JH := hE.here.isNil
       have ZK : nR o ≠ 0 → U.er = grow 0 (runM l) := fun h => by (rw [hU, if_neg (he ▸ h)])
       replace H := H.qM 1 0 rfl rfl (by decide) hO uX qS hR
       refine WL.mv rfl rfl (WL.pv (PV.extract rfl rfl rfl) rfl (WL.pv (PV.extract rfl rfl rfl) rfl (WL.as rfl rfl (WL.as rfl rfl (WL.nil (WE.dW (WL.mv rfl rfl ?_)))))))
       refine WL.pv (PV.eq (v' := .bool (decide (bW o.k [] ≠ 0))) (PV.rF rfl (by kernel_rfl) ZF) (by congr 1; show (!gJ aKr) = _; rw [JH]; simp)) rfl ?_
       refine WL.as rfl rfl (WL.nil ?_)
       exact ⟨(U, c69), (by repeat (first | with_reducible exact bK.refl _ _ | refine bK.dG rfl ?_)), ⟨(by refine congrArg Value.bool ?_; rw [he]), trivial⟩, rfl, ⟨ZK, (H.rS [4, 0, 6, 7, 10, 11, 12])⟩⟩
      ·
       try simp only [bP] at TF
       have hn2 : o.n ≠ 2 := by exact TF
       have he := lM (o := o) (by omega)
       refine WE.dW (WL.mv rfl rfl (WL.pv (PV.fieldAddr rfl u0 rfl) rfl (WL.aX rfl PD rfl rfl (aN.aF (H.l 2 rfl) (aK.tl (aK.tl (aK.tl aK.hd rfl) rfl) rfl) rfl) ?_)))
       refine WL.call aGC rfl (G4 (bt := bt) (bh := bh) (bc := bc) (bits := i) (T := T) (m := (runM l)) (s := o.sb) (l := o.b) H.aR (H.l 1 rfl) (H.l 0 rfl) (by exact (H.iN 1 0 rfl rfl 3 rfl : aH _ (fO bh bc i) _)) (by exact (H.iN 1 0 rfl rfl 4 rfl : aH _ (cV i T) _)) (by exact (H.iN 1 0 rfl rfl 9 rfl : aH _ (OV o) _).imp fun _ h => h.2.2.1) (by exact (H.iN 1 0 rfl rfl 9 rfl : aH _ (OV o) _).imp fun _ h => h.2.2.2) (by exact (H.iN 1 0 rfl rfl 10 rfl : aH _ (aZ) _)) (Ne.symm hne) bU hT hs_ ZD (by omega) (by have := BD.1; omega) (fun u hu => ⟨Nat.le_trans (BD.2 u hu).1 (by decide), Nat.le_trans (BD.2 u hu).2 (by decide)⟩)) ?_
       rintro aKu tX ⟨U, c40, hU, hO, uX, qS, hR, hE⟩
       have ZF := hE.here.Y5
       have JH := hE.here.isNil
       have ZK : nR o ≠ 0 → U.er = grow 0 (runM l) := fun h => by (rw [hU, if_neg (he ▸ h)])
       replace H := H.qM 1 0 rfl rfl (by decide) hO uX qS hR
       refine WL.pv (PV.eq (v' := .bool (decide ((jR o.b).2 ≠ 0))) (PV.rF rfl (by kernel_rfl) ZF) (by congr 1; show (!gJ aKu) = _; rw [JH]; simp)) rfl ?_
       refine WL.as rfl rfl (WL.nil ?_)
       exact ⟨(U, c40), (by repeat (first | with_reducible exact bK.refl _ _ | refine bK.dG rfl ?_)), ⟨(by refine congrArg Value.bool ?_; rw [he]), trivial⟩, rfl, ⟨ZK, (H.rS [4, 0, 6, 7, 10, 11, 12])⟩⟩
   ·
    intro ⟨U, cU⟩ γ xG hI
    try dsimp only at hI
    obtain ⟨aJH, H⟩ := hI
    refine WE.aA (WL.pv (PV.fieldAddr rfl u0 rfl) rfl (WL.aX rfl PD rfl rfl (aN.aF (H.l 2 rfl) (aK.tl (aK.tl (aK.tl aK.hd rfl) rfl) rfl) rfl) ?_))
    refine WL.call aGv rfl (ML (s := o.sb) (l := o.b) H.aR (by exact (H.bJ 4 rfl : aH _ (OV o) _).imp fun _ h => h.2.2.1) (by exact (H.bJ 4 rfl : aH _ (OV o) _).imp fun _ h => h.2.2.2) (by have := BD.1; omega) (fun u hu => ⟨Nat.le_trans (BD.2 u hu).1 (by decide), Nat.le_trans (BD.2 u hu).2 (by decide)⟩)) ?_
    rintro _ HL ⟨rfl, hO⟩
    replace H := H.out hO
    refine WL.mv rfl rfl (WL.pv (PV.extract rfl rfl rfl) rfl (WL.pv (PV.extract rfl rfl rfl) rfl (WL.as rfl rfl (WL.as rfl rfl (WL.nil ?_)))))
    refine WE.cut (α := Unit) (rg [(18, 1), (80, 39)]) (fun _ => [(18, .bool (decide (nR o ≠ 0)))]) (fun _ wl => St X w wl [] [aP.blk bt 90 [.pointer (some ⟨bh, 0, none⟩), U.ptr], aP.blk bc 213 [.int .i64 cU], aP.blk b5 56 (uO o)] [fO bh bc i, cV i U, fF s2 (runM l), eC (runM l), OV o, aZ, eV]) ?_ ?_
    ·
     refine WE.dW (WL.pv (PV.fieldAddr rfl iP rfl) rfl (WL.aX rfl l9 rfl rfl (aN.aF (H.l 2 rfl) aK.hd rfl) (WL.pv (PV.geq rfl rfl rfl) rfl (WL.mv rfl rfl ?_))))
     refine WL.split (t := 83) rfl (fun S6 => ?_) (fun S6 => ?_)
     ·
      refine WL.known (t := 82) (c := true) rfl S6 ?_
      try simp only [bP] at S6
      refine WL.pv (PV.fieldAddr rfl iP rfl) rfl (WL.aX rfl l9 rfl rfl (aN.aF (H.l 2 rfl) aK.hd rfl) (WL.pv (PV.leq rfl rfl rfl) rfl (WL.pv (PV.c5 rfl rfl rfl) rfl (WL.mv rfl rfl ?_))))
      refine WL.split (t := 88) rfl (fun S5 => ?_) (fun S5 => ?_)
      ·
       refine WL.known (t := 87) (c := true) rfl S5 ?_
       try simp only [bP] at S5
       refine WL.pv (PV.fieldAddr rfl j4 rfl) rfl (WL.aX rfl eH rfl rfl (aN.aF (H.l 2 rfl) (aK.tl aK.hd rfl) rfl) ?_)
       refine WL.pv (PV.dS (((by exact (H.p 4 rfl : (OV o) _)) : OV o _).1) eN rfl) rfl ?_
       refine WL.pv (PV.neq rfl rfl rfl) rfl (WL.pv (PV.c5 rfl rfl rfl) rfl (WL.mv rfl rfl ?_))
       refine WL.split (t := 94) rfl (fun S4 => ?_) (fun S4 => ?_)
       ·
        refine WL.known (t := 93) (c := true) rfl S4 ?_
        try simp only [bP] at S4
        have hz : decide (nR o ≠ 0) = true := decide_eq_true (UM (by omega) (by omega) (by omega))
        refine WL.off rfl (WL.off rfl (WL.off rfl (WL.off rfl (WL.off rfl (WL.off rfl (WL.off rfl (WL.off rfl ?_)))))))
        refine WL.off rfl (WL.pv (PV.c5 rfl rfl rfl) rfl (WL.mv rfl rfl (WL.off rfl (WL.off rfl (WL.off rfl (WL.off rfl (WL.off rfl ?_)))))))
        refine WL.off rfl (WL.off rfl (WL.off rfl (WL.off rfl (WL.off rfl (WL.off rfl (WL.off rfl (WL.pv (PV.c5 rfl rfl rfl) rfl ?_)))))))
        refine WL.as rfl rfl (WL.nil ?_)
        exact ⟨(), (by repeat (first | with_reducible exact bK.refl _ _ | refine bK.dG rfl ?_)), ⟨(by refine congrArg Value.bool ?_; exact hz.symm), trivial⟩, rfl, H⟩
       ·
        refine WL.known (t := 93) (c := false) rfl S4 ?_
        try simp only [bP] at S4
        have SX : o.k.length = 32 := by omega
        refine WL.pv (PV.fieldAddr rfl iP rfl) rfl (WL.aX rfl l9 rfl rfl (aN.aF (H.l 2 rfl) aK.hd rfl) (WL.pv (PV.eql rfl rfl rfl) rfl (WL.mv rfl rfl ?_)))
        refine WL.split (t := 98) rfl (fun lT => ?_) (fun lT => ?_)
        ·
         refine WL.known (t := 97) (c := true) rfl lT ?_
         try simp only [bP] at lT
         have C2 : o.n = 0 := by exact lT
         refine WL.pv (PV.fieldAddr rfl u2 rfl) rfl (WL.aX rfl eH rfl rfl (aN.aF (H.l 2 rfl) (aK.tl (aK.tl aK.hd rfl) rfl) rfl) ?_)
         refine WL.pv (PV.dS (((by exact (H.p 4 rfl : (OV o) _)) : OV o _).2.1) eN rfl) rfl ?_
         refine WL.pv (PV.gtr rfl rfl rfl) rfl (WL.pv (PV.c5 rfl rfl rfl) rfl (WL.pv (PV.cF rfl rfl rfl) rfl (WL.mv rfl rfl ?_)))
         refine WL.split (t := 105) rfl (fun FN => ?_) (fun FN => ?_)
         ·
          refine WL.known (t := 104) (c := true) rfl FN ?_
          try simp only [bP] at FN
          have hz : decide (nR o ≠ 0) = true := decide_eq_true ((F9 C2 SX).2 (by omega))
          refine WL.off rfl (WL.off rfl (WL.off rfl (WL.off rfl (WL.off rfl (WL.off rfl (WL.off rfl (WL.off rfl ?_)))))))
          refine WL.off rfl (WL.off rfl (WL.off rfl (WL.off rfl (WL.pv (PV.c5 rfl rfl rfl) rfl (WL.as rfl rfl (WL.nil ?_))))))
          exact ⟨(), (by repeat (first | with_reducible exact bK.refl _ _ | refine bK.dG rfl ?_)), ⟨(by refine congrArg Value.bool ?_; exact hz.symm), trivial⟩, rfl, H⟩
         ·
          refine WL.known (t := 104) (c := false) rfl FN ?_
          try simp only [bP] at FN
          have hz : decide (nR o ≠ 0) = false := decide_eq_false (fun h => absurd ((F9 C2 SX).1 h) (by omega))
          refine WL.pv (PV.fieldAddr rfl iP rfl) rfl (WL.aX rfl l9 rfl rfl (aN.aF (H.l 2 rfl) aK.hd rfl) (WL.pv (PV.lss rfl rfl rfl) rfl (WL.mv rfl rfl ?_)))
          refine WL.split (t := 109) rfl (fun jE => ?_) (fun jE => ?_)
          ·
           refine WL.known (t := 108) (c := true) rfl jE ?_
           try simp only [bP] at jE
           have he := lM (o := o) (by omega)
           omega
          ·
           refine WL.known (t := 108) (c := false) rfl jE ?_
           try simp only [bP] at jE
           refine WL.pv (PV.fieldAddr rfl iP rfl) rfl (WL.aX rfl l9 rfl rfl (aN.aF (H.l 2 rfl) aK.hd rfl) (WL.pv (PV.gtr rfl rfl rfl) rfl (WL.pv (PV.cF rfl rfl rfl) rfl (WL.mv rfl rfl ?_))))
           refine WL.split (t := 114) rfl (fun lL => ?_) (fun lL => ?_)
           ·
            refine WL.known (t := 113) (c := true) rfl lL ?_
            try simp only [bP] at lL
            have he := lM (o := o) (by omega)
            omega
           ·
            refine WL.known (t := 113) (c := false) rfl lL ?_
            try simp only [bP] at lL
            refine WL.off rfl (WL.off rfl (WL.pv (PV.cF rfl rfl rfl) rfl (WL.pv (PV.cF rfl rfl rfl) rfl (WL.as rfl rfl (WL.nil ?_)))))
            exact ⟨(), (by repeat (first | with_reducible exact bK.refl _ _ | refine bK.dG rfl ?_)), ⟨(by refine congrArg Value.bool ?_; exact hz.symm), trivial⟩, rfl, H⟩
        ·
         refine WL.known (t := 97) (c := false) rfl lT ?_
         try simp only [bP] at lT
         have C2 : o.n ≠ 0 := by exact lT
         try have hz : decide (nR o ≠ 0) = false := decide_eq_false (fun h => h (DL (by omega) SX))
         refine WL.off rfl (WL.off rfl (WL.off rfl (WL.off rfl (WL.pv (PV.cF rfl rfl rfl) rfl (WL.pv (PV.cF rfl rfl rfl) rfl (WL.mv rfl rfl (WL.pv (PV.fieldAddr rfl iP rfl) rfl ?_)))))))
         refine WL.aX rfl l9 rfl rfl (aN.aF (H.l 2 rfl) aK.hd rfl) (WL.pv (PV.lss rfl rfl rfl) rfl (WL.mv rfl rfl ?_))
         refine WL.split (t := 109) rfl (fun jE => ?_) (fun jE => ?_)
         ·
          refine WL.known (t := 108) (c := true) rfl jE ?_
          try simp only [bP] at jE
          have he := lM (o := o) (by omega)
          omega
         ·
          refine WL.known (t := 108) (c := false) rfl jE ?_
          try simp only [bP] at jE
          refine WL.pv (PV.fieldAddr rfl iP rfl) rfl (WL.aX rfl l9 rfl rfl (aN.aF (H.l 2 rfl) aK.hd rfl) (WL.pv (PV.gtr rfl rfl rfl) rfl (WL.pv (PV.cF rfl rfl rfl) rfl (WL.mv rfl rfl ?_))))
          refine WL.split (t := 114) rfl (fun lL => ?_) (fun lL => ?_)
          ·
           refine WL.known (t := 113) (c := true) rfl lL ?_
           try simp only [bP] at lL
           have he := lM (o := o) (by omega)
           omega
          ·
           refine WL.known (t := 113) (c := false) rfl lL ?_
           try simp only [bP] at lL
           refine WL.off rfl (WL.off rfl (WL.pv (PV.cF rfl rfl rfl) rfl (WL.pv (PV.cF rfl rfl rfl) rfl (WL.as rfl rfl (WL.nil ?_)))))
           exact ⟨(), (by repeat (first | with_reducible exact bK.refl _ _ | refine bK.dG rfl ?_)), ⟨(by refine congrArg Value.bool ?_; exact hz.symm), trivial⟩, rfl, H⟩
      ·
       refine WL.known (t := 87) (c := false) rfl S5 ?_
       try simp only [bP] at S5
       refine WL.off rfl (WL.off rfl (WL.off rfl (WL.off rfl (WL.pv (PV.cF rfl rfl rfl) rfl (WL.mv rfl rfl (WL.pv (PV.fieldAddr rfl iP rfl) rfl (WL.aX rfl l9 rfl rfl (aN.aF (H.l 2 rfl) aK.hd rfl) ?_)))))))
       refine WL.pv (PV.eql rfl rfl rfl) rfl (WL.mv rfl rfl ?_)
       refine WL.split (t := 98) rfl (fun lT => ?_) (fun lT => ?_)
       ·
        refine WL.known (t := 97) (c := true) rfl lT ?_
        try simp only [bP] at lT
        have C2 : o.n = 0 := by exact lT
        exfalso; have C2 : o.n = 0 := (by exact lT); omega
       ·
        refine WL.known (t := 97) (c := false) rfl lT ?_
        try simp only [bP] at lT
        have C2 : o.n ≠ 0 := by exact lT
        try have hz : decide (nR o ≠ 0) = false := decide_eq_false (fun h => h (DL (by omega) SX))
        refine WL.off rfl (WL.off rfl (WL.off rfl (WL.off rfl (WL.pv (PV.cF rfl rfl rfl) rfl (WL.pv (PV.cF rfl rfl rfl) rfl (WL.mv rfl rfl (WL.pv (PV.fieldAddr rfl iP rfl) rfl ?_)))))))
        refine WL.aX rfl l9 rfl rfl (aN.aF (H.l 2 rfl) aK.hd rfl) (WL.pv (PV.lss rfl rfl rfl) rfl (WL.mv rfl rfl ?_))
        refine WL.split (t := 109) rfl (fun jE => ?_) (fun jE => ?_)
        ·
         refine WL.known (t := 108) (c := true) rfl jE ?_
         try simp only [bP] at jE
         have he := lM (o := o) (by omega)
         omega
        ·
         refine WL.known (t := 108) (c := false) rfl jE ?_
         try simp only [bP] at jE
         refine WL.pv (PV.fieldAddr rfl iP rfl) rfl (WL.aX rfl l9 rfl rfl (aN.aF (H.l 2 rfl) aK.hd rfl) (WL.pv (PV.gtr rfl rfl rfl) rfl (WL.pv (PV.cF rfl rfl rfl) rfl (WL.mv rfl rfl ?_))))
         refine WL.split (t := 114) rfl (fun lL => ?_) (fun lL => ?_)
         ·
          refine WL.known (t := 113) (c := true) rfl lL ?_
          try simp only [bP] at lL
          have he := lM (o := o) (by omega)
          refine WL.mv rfl rfl (WL.pv (PV.neq rfl rfl rfl) rfl (WL.pv (PV.c5 rfl rfl rfl) rfl (WL.pv (PV.cF rfl rfl rfl) rfl (WL.as rfl rfl (WL.nil ?_)))))
          exact ⟨(), (by repeat (first | with_reducible exact bK.refl _ _ | refine bK.dG rfl ?_)), ⟨(by refine congrArg Value.bool ?_; (rw [he]; done)), trivial⟩, rfl, H⟩
         ·
          refine WL.known (t := 113) (c := false) rfl lL ?_
          try simp only [bP] at lL
          omega
     ·
      refine WL.known (t := 82) (c := false) rfl S6 ?_
      try simp only [bP] at S6
      refine WL.off rfl (WL.off rfl (WL.off rfl (WL.pv (PV.cF rfl rfl rfl) rfl (WL.mv rfl rfl (WL.off rfl (WL.off rfl (WL.off rfl ?_)))))))
      refine WL.off rfl (WL.pv (PV.cF rfl rfl rfl) rfl (WL.mv rfl rfl (WL.pv (PV.fieldAddr rfl iP rfl) rfl (WL.aX rfl l9 rfl rfl (aN.aF (H.l 2 rfl) aK.hd rfl) (WL.pv (PV.eql rfl rfl rfl) rfl (WL.mv rfl rfl ?_))))))
      refine WL.split (t := 98) rfl (fun lT => ?_) (fun lT => ?_)
      ·
       refine WL.known (t := 97) (c := true) rfl lT ?_
       try simp only [bP] at lT
       have C2 : o.n = 0 := by exact lT
       exfalso; have C2 : o.n = 0 := (by exact lT); omega
      ·
       refine WL.known (t := 97) (c := false) rfl lT ?_
       try simp only [bP] at lT
       have C2 : o.n ≠ 0 := by exact lT
       try have hz : decide (nR o ≠ 0) = false := decide_eq_false (fun h => h (DL (by omega) SX))
       refine WL.off rfl (WL.off rfl (WL.off rfl (WL.off rfl (WL.pv (PV.cF rfl rfl rfl) rfl (WL.pv (PV.cF rfl rfl rfl) rfl (WL.mv rfl rfl (WL.pv (PV.fieldAddr rfl iP rfl) rfl ?_)))))))
       refine WL.aX rfl l9 rfl rfl (aN.aF (H.l 2 rfl) aK.hd rfl) (WL.pv (PV.lss rfl rfl rfl) rfl (WL.mv rfl rfl ?_))
       refine WL.split (t := 109) rfl (fun jE => ?_) (fun jE => ?_)
       ·
        refine WL.known (t := 108) (c := true) rfl jE ?_
        try simp only [bP] at jE
        have he := lM (o := o) (by omega)
        refine WL.off rfl (WL.off rfl (WL.off rfl (WL.pv (PV.c5 rfl rfl rfl) rfl (WL.mv rfl rfl (WL.mv rfl rfl (WL.pv (PV.neq rfl rfl rfl) rfl (WL.pv (PV.c5 rfl rfl rfl) rfl ?_)))))))
        refine WL.pv (PV.cF rfl rfl rfl) rfl (WL.as rfl rfl (WL.nil ?_))
        exact ⟨(), (by repeat (first | with_reducible exact bK.refl _ _ | refine bK.dG rfl ?_)), ⟨(by refine congrArg Value.bool ?_; (rw [he]; done)), trivial⟩, rfl, H⟩
       ·
        refine WL.known (t := 108) (c := false) rfl jE ?_
        try simp only [bP] at jE
        omega
    ·
     intro _ γ DW hI
     try dsimp only at hI
     replace H := hI
     refine WE.aA ?_
     refine WL.call fb8 rfl (IG H.aR (by exact (H.bJ 5 rfl : aH _ (aZ) _)) (by exact (H.bJ 6 rfl : aH _ (eV) _))) ?_
     rintro _ H9 ⟨rfl, hO⟩
     replace H := H.out hO
     refine WL.mv rfl rfl (WL.known (t := 120) (c := true) rfl rfl (WL.mv rfl rfl (WL.mv rfl rfl (WL.pv (PV.aKv rfl bo4 rfl rfl) rfl (WL.pv (PV.c5 rfl rfl rfl) rfl (WL.mv rfl rfl (WL.known (t := 125) (c := true) rfl (by simp) ?_)))))))
     refine WL.mv rfl rfl (WL.pv (PV.not rfl rfl) rfl (WL.mv rfl rfl ?_))
     refine WL.split (t := 128) rfl (fun BE => ?_) (fun BE => ?_)
     ·
      refine WL.known (t := 127) (c := true) rfl BE ?_
      try simp only [bP] at BE
      refine WL.off rfl (WL.off rfl (WL.off rfl (WL.off rfl (WL.off rfl (WL.pv (PV.c5 rfl rfl rfl) rfl (WL.pv (PV.c5 rfl rfl rfl) rfl (WL.as rfl rfl ?_)))))))
      refine WL.nil (WE.ret ⟨[_], _, .nil _, ⟨rfl, trivial⟩, ?_⟩)
      refine ⟨?_, H.aL⟩
      show Value.bool _ = Value.bool true
      congr 1
      try (first | rfl | (simp; done))
     ·
      refine WL.known (t := 127) (c := false) rfl BE ?_
      try simp only [bP] at BE
      have ZK : U.er = grow 0 (runM l) := aJH (by simpa using BE)
      refine WL.mv rfl rfl (WL.mv rfl rfl (WL.mv rfl rfl ?_))
      refine WL.call aKo rfl (PS (X := Nil) (bt := bt) (bh := bh) (bc := bc) (i := i) (T := U) (m := (runM l)) (s2 := s2) (nn := 240) (fun _ h => h.elim) (H.l 1 rfl) (H.aES 1 0 rfl rfl (by decide)) (by exact (H.vT 1 rfl 0 rfl : aH _ (fO bh bc i) _)) (by exact (H.vT 1 rfl 1 rfl : aH _ (cV i U) _)) (by exact (H.vT 1 rfl 2 rfl : aH _ (fF s2 (runM l)) _)) (by exact (H.vT 1 rfl 3 rfl : aH _ (eC (runM l)) _)) (by exact (H.vT 1 rfl 5 rfl : aH _ (aZ) _)) bU ZK pD (by decide)) ?_
      rintro _ ND ⟨aLl, rfl, hO, hB⟩
      replace H := H.called 1 rfl hO hB
      refine WL.pv (PV.eql rfl rfl rfl) rfl (WL.pv (PV.cF rfl rfl rfl) rfl (WL.pv (PV.c5 rfl rfl rfl) rfl (WL.as rfl rfl (WL.nil (WE.ret ⟨[_], _, .nil _, ⟨rfl, trivial⟩, ?_⟩)))))
      refine ⟨?_, H.aL⟩
      show Value.bool _ = Value.bool true
      congr 1
      try (first | rfl | (simp; done))
open Go.ChangeShapes Go.WideShapes Go.ChangeAt
def UQ (u : Up) : Prop := u.k.length ≤ 9223372036854775807 ∧ u.v.length ≤ 9223372036854775807
def OQ (o : nW) : Prop := o.k.length ≤ 9223372036854775807 ∧ o.v.length ≤ 9223372036854775807 ∧ o.b.length ≤ 9223372036854775807 ∧ ∀ u ∈ o.b, u.k.length ≤ 9223372036854775807 ∧ u.v.length ≤ 9223372036854775807
theorem aB4 {H : Type} {enc : TypeId × Value → H} {W : World} {base : Nat} {sp : Nat → Bool} {held : Bool} : mF enc prog W base sp held 102 3 (fun cs => ∃ u : Up, cs = QQ u ∧ (UQ u ∧ aH Nil (bL u.sk u.k) W ∧ aH Nil (bL u.sv u.v) W)) :=
 (mF.aIN (t0 := 41) (t1 := 41) (t2 := 4) (by kernel_rfl) (mF.bytes eN mM (by kernel_rfl) (by kernel_rfl)) (mF.bytes eN mM (by kernel_rfl) (by kernel_rfl)) (mF.bool (by kernel_rfl) (by kernel_rfl)) (by kernel_rfl)).mono fun cs ⟨a, b, d, e, ⟨sk, k, e1, h1, h2⟩, ⟨sv, v, e2, h3, h4⟩, x, e3⟩ => ⟨⟨sk, k, sv, v, x⟩, by rw [e, e1, e2, e3, List.append_assoc]; rfl, ⟨h1, h3⟩, h2, h4⟩
theorem RY {H : Type} {enc : TypeId × Value → H} {W : World} {base : Nat} {sp : Nat → Bool} {held : Bool} : mF enc prog W base sp held 56 4 (fun cs => ∃ o : nW, cs = uO o ∧ (OQ o ∧ aH Nil (OV o) W)) :=
 (mF.aIM (t0 := 3) (t1 := 41) (t2 := 41) (t3 := 54) (by kernel_rfl) (mF.int (t := 3) tE (by kernel_rfl)) (mF.bytes eN mM (by kernel_rfl) (by kernel_rfl)) (mF.bytes eN mM (by kernel_rfl) (by kernel_rfl)) (mF.slices oY (by decide) aB4 (by kernel_rfl)) (by kernel_rfl)).mono
  fun cs ⟨a, b, c, d, e, ⟨z, e0, _⟩, ⟨sk, k, e1, h1, h2⟩, ⟨sv, v, e2, h3, h4⟩, sb, l, e3, h5, h6, h7⟩ => ⟨⟨z, sk, k, sv, v, sb, l⟩, by rw [e, e0, e1, e2, e3, List.append_assoc, List.append_assoc]; rfl, ⟨h1, h3, h5, fun u hu => (h6 u hu).1⟩,
   fun w' hw => ⟨h2 w' hw, h4 w' hw, h7 w' hw, fun u hu => ⟨(h6 u hu).2.1 w' hw, (h6 u hu).2.2 w' hw⟩⟩⟩
theorem RW {H : Type} {enc : TypeId × Value → H} {W : World} {r : Reach} {base b0 : Nat} {sp : Nat → Bool} {held : Bool} {t : TypeId} {v : Value} {d : DataW H} {ps : List MemPlace} (ht : dB prog t = some 56) (hval : Value.okWide prog W r b0 t v) (hd : DataW.Trod enc prog W base sp held t v d ps) :
  ∃ l : List nW, l.length ≤ 9223372036854775807 ∧ (∀ o ∈ l, OQ o) ∧ aH Nil (AH v l) W ∧ aH Nil (lN l) W := by
 obtain ⟨l, h1, h2, h3⟩ := E3 (C := uO) ht (by decide) RY hval hd
 exact ⟨l, h1, fun o ho => (h2 o ho).1, h3, fun w' hw o ho => (h2 o ho).2 w' hw⟩
theorem YB {H : Type} {enc : TypeId × Value → H} {W : World} {r : Reach} {base b0 : Nat} {sp : Nat → Bool} {held : Bool} {v : Value} {d : DataW H} {ps : List MemPlace} (hval : Value.okWide prog W r b0 56 v) (hd : DataW.Trod enc prog W base sp held 56 v d ps) :
  ∃ o : nW, v = .agg (uO o).toArray ∧ OQ o ∧ aH Nil (OV o) W := by
 obtain ⟨cs, h1, o, rfl, h2⟩ := RX (S := fun cs => ∃ o : nW, cs = uO o ∧ (OQ o ∧ aH Nil (OV o) W)) VL RY hval hd
 exact ⟨o, h1, h2⟩
end Go.Sp.Tryz
