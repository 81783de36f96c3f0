/- Part of the proof of this claim: walks through the program's functions and the plain laws that they need, printed by a program of this session. -/
import Derived.Test.YthkombhebdjamaaGreatDoorTy
import Derived.Test.YthkombhebdjamaaGreatDoorWords
import Derived.Test.YthkombhebdjamaaGreatDoorBytes
set_option maxRecDepth 100000
set_option maxHeartbeats 1000000
set_option linter.unusedVariables false
set_option linter.unusedSimpArgs false
namespace Go.Sp.Tryz
open Go.Proofs Go.RowKit Go.Sp Go.Sp.TryzT Go.Proofs.Tryz
variable {X : Nat → Prop} {w : World}
def lS (x : UInt32) (n : Nat) : UInt32 := (x >>> UInt32.ofNat n) ||| (x <<< UInt32.ofNat (32 - n))
def kT (x : UInt32) (l : List Nat) : UInt32 := l.foldl (fun s n => s ^^^ lS x n) 0
theorem ER (x : UInt32) (l : List Nat) (k : Nat) (h : k < l.length) : kT x (l.take (k + 1)) = kT x (l.take k) ^^^ lS x l[k] := by
 unfold kT
 rw [List.take_succ_eq_append_getElem h, List.foldl_append]; rfl
theorem aHZ : ∀ n : Fin 32, 0 < n.val → IntKind.u64.wrap ((BitVec.ofInt IntKind.u64.bits (IntKind.u64.wrap (-(n.val : Int))) &&& BitVec.ofInt IntKind.u64.bits 31).toNat) = ((32 - n.val : Nat) : Int) := by decide +kernel
def D4 (v : Value) (l : List Nat) (w : World) : Prop := kN v (l.map fun (n : Nat) => Value.int .i64 (n : Int)) w
theorem D4.rd {v : Value} {l : List Nat} {w : World} (h : D4 v l w) (i : Nat) (hi : i < l.length) : dD w (jS v (i * 1)) [.int .i64 (l[i] : Int)] := by
 have := kN.rd h i (by simpa using hi)
 simpa using this
theorem D4.sl {v : Value} {l : List Nat} {w : World} (h : D4 v l w) : cO w v 1 l.length (l.map fun (n : Nat) => Value.int .i64 (n : Int)) := by
 have : cO w v 1 (l.map fun (n : Nat) => Value.int .i64 (n : Int)).length (l.map fun (n : Nat) => Value.int .i64 (n : Int)) := h
 simpa using this
def oM (n : Int) : Int := if n < 0 ∨ 1152921504606846976 < n then 0 else (n + 72) / 64
theorem nJ {X : Nat → Prop} {w : World} {x : UInt32} {n : Nat} (hX : c6 X w) (hn0 : 0 < n) (hn : n < 32) :
  bC prog 158 [.int .u32 (x.toNat : Int), .int .u64 (n : Int)].toArray w fun v w' => v = .int .u32 ((lS x n).toNat : Int) ∧ Out Nil w w' := by
 refine bC.aI (N := 13) func158 rfl rfl (by simp) ?_
 have H := St.begin hX
 refine WE.aA (WL.as rfl rfl (WL.nil (WE.aA (WL.mv rfl rfl (WL.mv rfl rfl (WL.pv (PV.vJ (n := n) rfl rfl rfl (by omega)) rfl (WL.mv rfl rfl ?_)))))))
 refine WL.mv rfl rfl ?_
 refine WL.pv (PV.eq (v' := .int .u64 ((32 - n : Nat) : Int)) (PV.aCd rfl rfl rfl) (by rw [oU]; congr 1; omega)) rfl ?_
 refine WL.pv (PV.AU (n := 32 - n) rfl rfl rfl (by omega)) rfl (WL.pv (PV.E2 rfl rfl rfl) rfl (WL.as rfl rfl (WL.nil (WE.ret ⟨[_], _, .nil _, ⟨rfl, trivial⟩, ?_⟩))))
 exact ⟨rfl, H.aL⟩
theorem zG {X : Nat → Prop} {w : World} {x : UInt32} {n : Nat} (hX : c6 X w) (hn0 : 0 < n) (hn : n < 32) :
  bC prog 205 [.int .u32 (x.toNat : Int), .int .i64 (-(n : Int))].toArray w fun v w' => v = .int .u32 ((lS x n).toNat : Int) ∧ Out Nil w w' := by
 refine bC.aI (N := 17) func205 rfl rfl (by simp) ?_
 have H := St.begin hX
 refine WE.aA (WL.as rfl rfl (WL.nil (WE.aA (WL.mv rfl rfl (WL.pv (PV.conv rfl tE AA rfl) rfl ?_)))))
 refine WL.pv (PV.eq (v' := .int .u64 ((32 - n : Nat) : Int)) (PV.J9 rfl rfl rfl) (congrArg (Value.int .u64) (aHZ ⟨n, hn⟩ hn0))) rfl ?_
 refine WL.as rfl rfl (WL.nil (WE.aA (WL.mv rfl rfl (WL.mv rfl rfl (WL.pv (PV.AU (n := 32 - n) rfl rfl rfl (by omega)) rfl (WL.mv rfl rfl (WL.mv rfl rfl ?_)))))))
 refine WL.pv (PV.eq (v' := .int .u64 ((n : Nat) : Int)) (PV.aCd rfl rfl rfl) (by rw [oU]; congr 1; omega)) rfl ?_
 refine WL.pv (PV.vJ (n := n) rfl rfl rfl (by omega)) rfl (WL.pv (PV.E2 rfl rfl rfl) rfl (WL.as rfl rfl (WL.nil (WE.ret ⟨[_], _, .nil _, ⟨rfl, trivial⟩, ?_⟩))))
 refine ⟨?_, H.aL⟩
 show Value.int .u32 _ = _
 rw [UInt32.or_comm]; rfl
theorem nD {X : Nat → Prop} {w : World} {x : UInt32} {s : Value} {l : List Nat} (hX : c6 X w) (bT : aH X (D4 s l) w) (hl : ∀ n ∈ l, 0 < n ∧ n < 32) (HP : l.length ≤ 1000) :
  bC prog 192 [.int .u32 (x.toNat : Int), s].toArray w fun v w' => v = .int .u32 ((kT x l).toNat : Int) ∧ Out Nil w w' := by
 refine bC.aI (N := 22) func192 rfl rfl (by simp) ?_
 have H := (St.begin hX).add (cE bT)
 refine WE.aA (WL.as rfl rfl (WL.nil (WE.aA (WL.as rfl rfl (WL.nil (WE.seq (WE.aA ?_)))))))
 refine WL.mv rfl rfl (WL.pv (PV.dS (D4.sl (H.p 0 rfl)) EK rfl) rfl (WL.mv rfl rfl (WL.nil (WE.block ?_))))
 refine WE.loop (α := Nat) (rg [(5, 1), (7, 1), (10, 11)]) (fun k => [(10, .int .i64 k), (5, .int .u32 ((kT x (l.take k)).toNat : Int))]) (fun k wl => k ≤ l.length ∧ St X w wl [] [] [D4 s l]) (fun k => l.length - k) 0 ⟨rfl, rfl, trivial⟩ ⟨Nat.zero_le _, H⟩ ?_
 intro k γ0 w1 hI
 try dsimp only at hI
 obtain ⟨hk, H⟩ := hI
 refine WE.aA (WL.pv (PV.lss rfl rfl rfl) rfl (WL.nil (WE.seq ?_)))
 refine WE.cond rfl (fun j3 => ?_) (fun j3 => ?_)
 ·
  try simp only [bP] at j3
  have hlt : k < l.length := by omega
  have hR := ER x l k hlt
  refine WE.skip (WE.seq (WE.block (WE.aA (WL.pv (PV.dX rfl (D4.sl (H.p 0 rfl)) EK sz3 rfl rfl (by omega) (by omega)) rfl (WL.aX rfl l9 rfl rfl (D4.rd (H.p 0 rfl) k hlt) (WL.as rfl rfl (WL.nil ?_)))))))
  refine WE.dW (WL.mv rfl rfl (WL.mv rfl rfl (WL.mv rfl rfl ?_)))
  refine WL.pv (PV.eq (v' := .int .i64 (-(l[k] : Int))) (PV.aIS rfl rfl) (by have := hl _ (List.getElem_mem hlt); rw [wrap64_in (by omega) (by omega)]; congr 1; omega)) rfl ?_
  refine WL.call aGG rfl (zG (x := x) (n := l[k]) H.aR (hl _ (List.getElem_mem hlt)).1 (hl _ (List.getElem_mem hlt)).2) ?_
  rintro _ w2 ⟨rfl, hO⟩
  replace H := H.out hO
  refine WL.pv (PV.j5 rfl rfl rfl) rfl (WL.as rfl rfl (WL.nil (WE.dW (WL.pv (PV.bV rfl rfl rfl (by omega) (by omega)) rfl (WL.mv rfl rfl (WL.nil ?_))))))
  exact ⟨k + 1, (by repeat (first | with_reducible exact bK.refl _ _ | refine bK.dG rfl ?_ | refine bK.bZ rfl ?_ | refine bK.bX rfl ?_)), ⟨rfl, by rw [hR]; rfl, trivial⟩, rfl, ⟨by omega, H⟩, (by omega)⟩
 ·
  try simp only [bP] at j3
  have hge : k = l.length := by omega
  refine WE.exit (WE.aA (WL.mv rfl rfl (WL.as rfl rfl (WL.nil (WE.ret ⟨[_], _, .nil _, ⟨rfl, trivial⟩, ?_⟩)))))
  refine ⟨?_, H.aL⟩
  subst hge
  show Value.int .u32 _ = _
  rw [List.take_length]
theorem WT {X : Nat → Prop} {w : World} {n : Int} (hX : c6 X w) (hn : -9223372036854775808 ≤ n ∧ n ≤ 9223372036854775807) :
  bC prog 194 [.int .i64 n].toArray w fun v w' => v = .int .i64 (oM n) ∧ Out Nil w w' := by
 refine bC.aI (N := 13) func194 rfl rfl (by simp) ?_
 have H := St.begin hX
 refine WE.aA (WL.as rfl rfl (WL.nil (WE.seq (WE.aA (WL.mv rfl rfl (WL.pv (PV.lss rfl rfl rfl) rfl (WL.mv rfl rfl ?_)))))))
 refine WL.split (t := 5) rfl (fun S8 => ?_) (fun S8 => ?_)
 ·
  refine WL.known (t := 4) (c := true) rfl S8 ?_
  try simp only [bP] at S8
  refine WL.off rfl (WL.off rfl (WL.pv (PV.c5 rfl rfl rfl) rfl (WL.nil (WE.kZ rfl (WE.aA (WL.as rfl rfl (WL.nil ?_)))))))
  refine WE.ret ⟨[_], _, .nil _, ⟨rfl, trivial⟩, ?_⟩
  refine ⟨?_, H.aL⟩
  rw [oM, if_pos (by omega)]; rfl
 ·
  refine WL.known (t := 4) (c := false) rfl S8 ?_
  try simp only [bP] at S8
  refine WL.mv rfl rfl (WL.pv (PV.gtr rfl rfl rfl) rfl (WL.pv (PV.cF rfl rfl rfl) rfl (WL.nil ?_)))
  refine WE.cond rfl (fun l8 => ?_) (fun l8 => ?_)
  ·
   try simp only [bP] at l8
   refine WE.aA (WL.as rfl rfl (WL.nil (WE.ret ⟨[_], _, .nil _, ⟨rfl, trivial⟩, ?_⟩)))
   refine ⟨?_, H.aL⟩
   rw [oM, if_pos (by omega)]; rfl
  ·
   try simp only [bP] at l8
   refine WE.skip (WE.aA (WL.mv rfl rfl (WL.pv (PV.bV rfl rfl rfl (by omega) (by omega)) rfl (WL.pv (PV.bV rfl rfl rfl (by omega) (by omega)) rfl (WL.pv (PV.qC rfl rfl rfl (by omega) (by omega) (by omega)) rfl (WL.as rfl rfl (WL.nil ?_)))))))
   refine WE.ret ⟨[_], _, .nil _, ⟨rfl, trivial⟩, ?_⟩
   refine ⟨?_, H.aL⟩
   rw [oM, if_neg (by omega)]
   show Value.int .i64 _ = _
   congr 1; omega
theorem XV {X : Nat → Prop} {w : World}  (hX : c6 X w) :
  bC prog 159 [].toArray w fun v w' => v = .agg (kw [1779033703, 3144134277, 1013904242, 2773480762, 1359893119, 2600822924, 528734635, 1541459225]).toArray ∧ Out Nil w w' := by
 refine bC.aI (N := 2) func159 rfl rfl (by decide +revert) ?_
 have H := St.begin hX
 refine WE.aA ?_
 refine WL.alloc H rfl P8 rfl ?_
 intro b0 w1 H
 refine WL.nil (WE.aA ?_)
 refine WL.pv (PV.lY rfl pU dA P8 (Fl.cons rfl rfl rfl (Laid.fG (x := 1779033703) 0 (by simp)) (Fl.cons rfl rfl rfl (Laid.fG (x := 3144134277) 1 (by simp)) (Fl.cons rfl rfl rfl (Laid.fG (x := 1013904242) 2 (by simp)) (Fl.cons rfl rfl rfl (Laid.fG (x := 2773480762) 3 (by simp)) (Fl.cons rfl rfl rfl (Laid.fG (x := 1359893119) 4 (by simp)) (Fl.cons rfl rfl rfl (Laid.fG (x := 2600822924) 5 (by simp)) (Fl.cons rfl rfl rfl (Laid.fG (x := 528734635) 6 (by simp)) (Fl.cons rfl rfl rfl (Laid.fG (x := 1541459225) 7 (by simp)) Fl.nil))))))))) rfl ?_
 refine WL.aW H 0 rfl rfl rfl (new := _) rfl (by exact QV) (uS _) (Laid.at (Laid.all (by simp [aJ, aQ, *])) rfl) rfl ?_
 intro w2 H
 refine WL.nil (WE.ret ⟨[_], _, .nil _, ⟨⟨_, rfl, aU aH5 (aN.aF (H.l 0 rfl) (aK.all _) rfl) (by exact QV)⟩, trivial⟩, ?_⟩)
 exact ⟨rfl, H.aL⟩
theorem aEh {x y : UInt8} : ((x.toNat : Int) = (y.toNat : Int)) ↔ x = y := ⟨fun h => UInt8.toNat_inj.1 (by omega), fun h => by rw [h]⟩
theorem KF {X : Nat → Prop} {w : World} {a b : Value} {la lb : List UInt8} (hX : c6 X w) (bT : aH X (bL a la) w) (dJ : aH X (bL b lb) w) (rY : la.length ≤ 9223372036854775807) :
  bC prog 46 [a, b].toArray w fun v w' => v = .bool (decide (la = lb)) ∧ Out Nil w w' := by
 refine bC.aI (N := 26) func46 rfl rfl (by simp) ?_
 have H := ((St.begin hX).add (cE dJ)).add (cE bT)
 refine WE.aA (WL.as rfl rfl (WL.nil (WE.seq (WE.aA (WL.mv rfl rfl (WL.pv (PV.dS (H.p 0 rfl) eN rfl) rfl (WL.mv rfl rfl ?_)))))))
 refine WL.pv (PV.dS (H.p 1 rfl) eN rfl) rfl (WL.pv (PV.neq rfl rfl rfl) rfl (WL.nil ?_))
 refine WE.cond rfl (fun kD => ?_) (fun kD => ?_)
 ·
  try simp only [bP] at kD
  have hne : la ≠ lb := fun e => kD (by rw [e])
  refine WE.aA (WL.as rfl rfl (WL.nil (WE.ret ⟨[_], _, .nil _, ⟨rfl, trivial⟩, ?_⟩)))
  exact ⟨by simp [CG, hne]; rfl, H.aL⟩
 ·
  try simp only [bP] at kD
  have hlen : la.length = lb.length := by omega
  refine WE.skip (WE.seq (WE.aA (WL.as rfl rfl (WL.nil (WE.block ?_)))))
  refine WE.loop (α := Nat) (rg [(4, 2), (11, 15)]) (fun k => [(5, .int .i64 k)]) (fun k wl => k ≤ la.length ∧ (∀ j (h : j < la.length) (h' : j < lb.length), j < k → la[j] = lb[j]) ∧ St X w wl [] [] [bL a la, bL b lb]) (fun k => la.length - k) 0 ⟨rfl, trivial⟩ ⟨Nat.zero_le _, fun j _ _ h => by omega, H⟩ ?_
  intro k γ0 w1 hI
  try dsimp only at hI
  obtain ⟨hk, hpre, H⟩ := hI
  refine WE.seq (WE.aA (WL.mv rfl rfl (WL.mv rfl rfl (WL.pv (PV.dS (H.p 0 rfl) eN rfl) rfl (WL.pv (PV.lss rfl rfl rfl) rfl (WL.nil ?_))))))
  refine WE.cond rfl (fun pG => ?_) (fun pG => ?_)
  ·
   try simp only [bP] at pG
   have hlt : k < la.length := by omega
   refine WE.skip (WE.seq (WE.block ?_))
   refine WE.bG (.take 0 (.take 1 (.take 2 (.take 3 (.take 4 (.take 5 (.take 6 (.take 7 (.take 8 .done))))))))) mixed (by kernel_rfl) ?_
   replace H := H.out (Out.drew _)
   refine WP.mv rfl rfl rfl (WP.mv rfl rfl rfl (WP.aC rfl rfl (PV.dX rfl (H.p 0 rfl) eN gO rfl rfl (by omega) (by omega)) (WP.aM rfl rfl (RV.aV rfl vD rfl) (bL.rd (H.p 0 rfl) k hlt) (WP.mv rfl rfl rfl (WP.mv rfl rfl rfl (WP.aC rfl rfl (PV.dX rfl (H.p 1 rfl) eN gO rfl rfl (by omega) (by omega)) (WP.aM rfl rfl (RV.aV rfl vD rfl) (bL.rd (H.p 1 rfl) k (by omega)) ?_)))))))
   refine WP.aC rfl rfl (PV.neq rfl rfl rfl) (WP.done ?_)
   refine WE.cond rfl (fun rZ => ?_) (fun rZ => ?_)
   ·
    try simp only [bP] at rZ
    have hne : la ≠ lb := fun e => by subst e; exact rZ rfl
    refine WE.aA (WL.as rfl rfl (WL.nil (WE.ret ⟨[_], _, .nil _, ⟨rfl, trivial⟩, ?_⟩)))
    exact ⟨by simp [CG, hne]; rfl, H.aL⟩
   ·
    try simp only [bP] at rZ
    have heq : la[k] = lb[k] := aEh.1 rZ
    refine WE.skip (WE.dW (WL.mv rfl rfl (WL.pv (PV.bV rfl rfl rfl (by omega) (by omega)) rfl (WL.as rfl rfl (WL.nil ?_)))))
    exact ⟨k + 1, (by repeat (first | with_reducible exact bK.refl _ _ | refine bK.dG rfl ?_ | refine bK.bZ rfl ?_ | refine bK.bX rfl ?_)), ⟨rfl, trivial⟩, rfl, ⟨by omega, fun j h h' hj => by (by_cases e : j = k; (subst e; exact heq); exact hpre j h h' (by omega)), H⟩, (by omega)⟩
  ·
   try simp only [bP] at pG
   have hge : ¬ k < la.length := by omega
   refine WE.exit (WE.aA (WL.as rfl rfl (WL.nil (WE.ret ⟨[_], _, .nil _, ⟨rfl, trivial⟩, ?_⟩))))
   have e : la = lb := List.ext_getElem hlen fun i h h' => hpre i h h' (by omega)
   exact ⟨by simp [CG, e]; rfl, H.aL⟩
theorem WJ {X : Nat → Prop} {w : World} {n : Nat} (hX : c6 X w) (hn : n ≤ 70368744177664) :
  bC prog 78 [.slice none 0 0, .int .i64 n].toArray w fun v w' => Out Nil w w' ∧ w'.ownsRow w.heap.size 5 1 v 0 [] := by
 refine bC.aI (N := 27) func78 rfl rfl (by simp) ?_
 have H := St.begin hX
 refine WE.aA (WL.as rfl rfl (WL.nil (WE.seq (WE.aA (WL.mv rfl rfl (WL.pv (PV.lss rfl rfl rfl) rfl (WL.nil ?_)))))))
 refine WE.bD rfl (by simp) ?_
 refine WE.skip (WE.seq (WE.aA (WL.mv rfl rfl (WL.mv rfl rfl (WL.pv (PV.MM eN rfl) rfl (WL.mv rfl rfl (WL.pv (PV.A8 eN rfl) rfl ?_)))))))
 refine WL.pv (PV.gE rfl rfl rfl (by omega) (by omega)) rfl (WL.pv (PV.gE rfl rfl rfl (by omega) (by omega)) rfl (WL.as rfl rfl (WL.nil (WE.aA (WL.mv rfl rfl (WL.pv (PV.gtr rfl rfl rfl) rfl (WL.nil ?_)))))))
 refine WE.cond rfl (fun nO => ?_) (fun nO => ?_)
 ·
  try simp only [bP] at nO
  have hpos : 0 < n := by omega
  refine WE.dW (WL.mv rfl rfl (WL.mv rfl rfl (WL.pv (PV.MM eN rfl) rfl (WL.pv (PV.XQ rfl (cO.nil w 1) eN gO rfl rfl (by omega) (by omega)) rfl (WL.mv rfl rfl ?_)))))
  refine WL.GY (n := n) H iG tE (by decide) rfl (by simp [ev]; rfl) hpos (by omega) (by decide) rfl ?_
  intro g cap cs w2 H
  refine WL.mv rfl rfl (WL.pv (PV.A8 eN rfl) rfl ?_)
  refine WL.aIR H 0 rfl eN rfl rfl rfl rfl rfl ?_
  intro H
  refine WL.as rfl rfl (WL.nil (WE.aA (WL.mv rfl rfl (WL.as rfl rfl (WL.nil (WE.ret ⟨[_], _, .nil _, ⟨rfl, trivial⟩, ?_⟩))))))
  exact ⟨H.aL, H.l 0 rfl⟩
 ·
  try simp only [bP] at nO
  have hz : n = 0 := by omega
  refine WE.skip (WE.aA (WL.mv rfl rfl (WL.as rfl rfl (WL.nil (WE.ret ⟨[_], _, .nil _, ⟨rfl, trivial⟩, ?_⟩)))))
  exact ⟨H.aL, World.ownsRow_nil _ _ _ _⟩
theorem gU (ls : List (List UInt8)) (k : Nat) (h : k < ls.length) : (ls.take (k + 1)).flatten = (ls.take k).flatten ++ ls[k] := by
 rw [List.take_succ_eq_append_getElem h, List.flatten_append]; simp
theorem gP (ls : List (List UInt8)) (k : Nat) : (ls.take k).flatten.length ≤ ls.flatten.length := by
 have h : ls.flatten = (ls.take k).flatten ++ (ls.drop k).flatten := by rw [← List.flatten_append, List.take_append_drop]
 rw [h, List.length_append]; omega
theorem WS {X : Nat → Prop} {w : World} {s : Value} {vs : List Value} {ls : List (List UInt8)} (hX : c6 X w) (bT : aH X (kN s vs) w) (dJ : aH X (qN vs ls) w) (hvs : vs.length ≤ 1000000) (aE9 : ls.flatten.length ≤ 70368744177664) :
  bC prog 37 [s].toArray w fun v w' => Out Nil w w' ∧ aH X (bL v ls.flatten) w' := by
 refine bC.aI (N := 36) func37 rfl rfl (by simp) ?_
 have H := ((St.begin hX).add (cE dJ)).add (cE bT)
 have hlen : vs.length = ls.length := (H.p 1 rfl : qN vs ls w).1
 refine WE.aA (WL.as rfl rfl (WL.nil (WE.aA (WL.as rfl rfl (WL.nil (WE.seq (WE.aA ?_)))))))
 refine WL.mv rfl rfl (WL.pv (PV.dS (H.p 0 rfl) sQ rfl) rfl (WL.mv rfl rfl (WL.nil (WE.block ?_))))
 refine WE.loop (α := Nat) (rg [(3, 1), (5, 1), (11, 12)]) (fun k => [(11, .int .i64 k), (3, .int .i64 ((ls.take k).flatten.length : Int))]) (fun k wl => k ≤ vs.length ∧ St X w wl [] [] [kN s vs, qN vs ls]) (fun k => vs.length - k) 0 ⟨rfl, rfl, trivial⟩ ⟨Nat.zero_le _, H⟩ ?_
 intro k γ0 w1 hI
 try dsimp only at hI
 obtain ⟨hk, H⟩ := hI
 refine WE.aA (WL.pv (PV.lss rfl rfl rfl) rfl (WL.nil (WE.seq ?_)))
 refine WE.cond rfl (fun lU => ?_) (fun lU => ?_)
 ·
  try simp only [bP] at lU
  have hlt : k < vs.length := by omega
  have hF := gU ls k (by omega)
  have hG := gP ls (k + 1)
  rw [hF, List.length_append] at hG
  refine WE.skip (WE.seq (WE.block (WE.aA (WL.pv (PV.dX rfl (H.p 0 rfl) sQ B9 rfl rfl (by omega) (by omega)) rfl (WL.aX rfl eH rfl rfl (kN.rd (H.p 0 rfl) k hlt) (WL.as rfl rfl (WL.nil ?_)))))))
  refine WE.aA (WL.mv rfl rfl (WL.mv rfl rfl (WL.pv (PV.dS ((H.p 1 rfl : qN vs ls _).2 k hlt (by omega)) eN rfl) rfl (WL.pv (PV.bV rfl rfl rfl (by omega) (by omega)) rfl (WL.as rfl rfl (WL.nil (WE.aA ?_)))))))
  refine WL.mv rfl rfl (WL.pv (PV.lss rfl rfl rfl) rfl (WL.nil ?_))
  refine WE.bD rfl (by simp; omega) ?_
  refine WE.skip (WE.dW (WL.pv (PV.bV rfl rfl rfl (by omega) (by omega)) rfl (WL.mv rfl rfl (WL.nil ?_))))
  exact ⟨k + 1, (by repeat (first | with_reducible exact bK.refl _ _ | refine bK.dG rfl ?_ | refine bK.bZ rfl ?_ | refine bK.bX rfl ?_)), ⟨rfl, by rw [hF, List.length_append]; rfl, trivial⟩, rfl, ⟨by omega, H⟩, (by omega)⟩
 ·
  try simp only [bP] at lU
  have hge : k = vs.length := by omega
  refine WE.exit (WE.aA (WL.mv rfl rfl ?_))
  refine WL.call aGf rfl (WJ (n := (ls.take k).flatten.length) H.aR (by have := gP ls k; omega)) ?_
  rintro v24 w2 ⟨hO, iE⟩
  replace H := H.push hO (aP.gZ w.heap.size v24 5 1 0 []) (gR iE H.size) (fun b hb => (iE.lt b hb).1)
  refine WL.as rfl rfl (WL.nil (WE.seq (WE.aA (WL.mv rfl rfl (WL.pv (PV.dS (H.p 0 rfl) sQ rfl) rfl (WL.mv rfl rfl (WL.nil ?_)))))))
  refine WE.block ?_
  refine WE.loop (α := Nat × Value) (rg [(6, 1), (8, 1), (27, 8)]) (fun p => [(27, .int .i64 p.1), (6, p.2)]) (fun p wl => p.1 ≤ vs.length ∧ St X w wl [] [aP.gZ w.heap.size p.2 5 1 (ls.take p.1).flatten.length (kc (ls.take p.1).flatten)] [kN s vs, qN vs ls]) (fun p => vs.length - p.1) (0, v24) ⟨rfl, rfl, trivial⟩ ⟨Nat.zero_le _, H⟩ ?_
  intro ⟨k, v⟩ γ1 w3 hI
  try dsimp only at hI
  obtain ⟨hk, H⟩ := hI
  refine WE.aA (WL.pv (PV.lss rfl rfl rfl) rfl (WL.nil (WE.seq ?_)))
  refine WE.cond rfl (fun JN => ?_) (fun JN => ?_)
  ·
   try simp only [bP] at JN
   have hlt : k < vs.length := by omega
   have hF := gU ls k (by omega)
   have hG := gP ls (k + 1)
   rw [hF, List.length_append] at hG
   refine WE.skip (WE.seq (WE.block (WE.aA (WL.pv (PV.dX rfl (H.p 0 rfl) sQ B9 rfl rfl (by omega) (by omega)) rfl (WL.aX rfl eH rfl rfl (kN.rd (H.p 0 rfl) k hlt) (WL.as rfl rfl (WL.nil ?_)))))))
   refine WE.dW (WL.mv rfl rfl (WL.mv rfl rfl ?_))
   refine WL.append (m := (ls[k]'(by omega)).length) H 0 iG (by decide) rfl rfl rfl ((H.p 1 rfl : qN vs ls _).2 k hlt (by omega)) (bH _) (by omega) (by decide) rfl ?_
   intro v33 w4 H
   refine WL.as rfl rfl (WL.nil (WE.dW (WL.pv (PV.bV rfl rfl rfl (by omega) (by omega)) rfl (WL.mv rfl rfl (WL.nil ?_)))))
   replace H : St X w w4 [] [aP.gZ w.heap.size v33 5 1 (ls.take (k+1)).flatten.length (kc (ls.take (k+1)).flatten)] [kN s vs, qN vs ls] := by rw [hF, List.length_append, iT]; exact H
   exact ⟨(k + 1, v33), (by repeat (first | with_reducible exact bK.refl _ _ | refine bK.dG rfl ?_ | refine bK.bZ rfl ?_ | refine bK.bX rfl ?_)), ⟨rfl, rfl, trivial⟩, rfl, ⟨by dsimp only; omega, H⟩, (by dsimp only; omega)⟩
  ·
   try simp only [bP] at JN
   have hge : k = vs.length := by omega
   refine WE.exit (WE.aA (WL.mv rfl rfl (WL.as rfl rfl (WL.nil (WE.ret ⟨[_], _, .nil _, ⟨rfl, trivial⟩, ?_⟩)))))
   replace H := H.freeze (i := 0) rfl
   have hall : ls.take k = ls := List.take_of_length_le (by omega)
   exact ⟨H.aL, H.fX ((H.bJ 0 rfl).imp fun _ h => by have := bL.dM h; rwa [hall] at this)⟩
def zc (n : Nat) : Nat := (119 - n % 64) % 64
def P7 (N : Nat) : List UInt8 := (List.range 8).map fun i => UInt8.ofNat (N / 2 ^ (56 - 8 * i))
def cS (l : List UInt8) : List UInt8 := l ++ 128 :: (List.replicate (zc l.length) 0 ++ P7 (8 * l.length))
theorem k4 (N : Nat) : (P7 N).length = 8 := by simp [P7]
theorem MQ (N i : Nat) (h : i < (P7 N).length) : (P7 N)[i] = UInt8.ofNat (N / 2 ^ (56 - 8 * i)) := by simp [P7]
theorem mB (l : List UInt8) : (cS l).length = l.length + 9 + zc l.length := by
 simp [cS, k4]; omega
def fN : List UInt32 := [1116352408, 1899447441, 3049323471, 3921009573, 961987163, 1508970993, 2453635748, 2870763221, 3624381080, 310598401, 607225278, 1426881987, 1925078388, 2162078206, 2614888103, 3248222580, 3835390401, 4022224774, 264347078, 604807628, 770255983, 1249150122, 1555081692, 1996064986, 2554220882, 2821834349, 2952996808, 3210313671, 3336571891, 3584528711, 113926993, 338241895, 666307205, 773529912, 1294757372, 1396182291, 1695183700, 1986661051, 2177026350, 2456956037, 2730485921, 2820302411, 3259730800, 3345764771, 3516065817, 3600352804, 4094571909, 275423344, 430227734, 506948616, 659060556, 883997877, 958139571, 1322822218, 1537002063, 1747873779, 1955562222, 2024104815, 2227730452, 2361852424, 2428436474, 2756734187, 3204031479, 3329325298]
theorem RF {X : Nat → Prop} {w : World} {a : Value} {la : List UInt8} (hX : c6 X w) (bT : aH X (bL a la) w) (rY : la.length ≤ 1000000000) :
  bC prog 156 [a].toArray w fun v w' => Out Nil w w' ∧ aH X (bL v (cS la)) w' := by
 refine bC.aI (N := 36) func156 rfl rfl (by simp) ?_
 have H := (St.begin hX).add (cE bT)
 have aCE : zc la.length < 64 ∧ (la.length + 1 + zc la.length) % 64 = 56 := by unfold zc; omega
 refine WE.aA (WL.as rfl rfl (WL.nil (WE.aA ?_)))
 refine WL.bA (l0 := []) H rfl iG (by decide) (cW _ _) Fl.nil rfl ?_
 intro b6 w1 H
 replace H := H.AQ (n := 0) (sz := 1) (i := 0) rfl rfl (by decide)
 refine WL.mv rfl rfl ?_
 refine WL.append H 0 iG (by decide) rfl rfl rfl (by exact H.p 0 rfl) (bH _) (by omega) (by decide) rfl ?_
 intro v8 w2 H
 refine WL.as rfl rfl (WL.nil (WE.aA (WL.mv rfl rfl ?_)))
 refine WL.bA (l0 := [.int .u8 (0)]) H rfl iG (by decide) (cW _ _) (Fl.cons rfl rfl (by simp only [aS]) Laid.head Fl.nil) rfl ?_
 intro vB w3 H
 refine WL.append H 1 iG (by decide) rfl rfl rfl (cO.cA (n := 1) (H.l 0 rfl) rfl) (bB _ rfl) (by omega) (by decide) rfl ?_
 intro v11 w4 H
 refine WL.as rfl rfl (WL.nil (WE.seq (WE.block ?_)))
 replace H := H.forget 0
 have e0 : kc (la ++ 128 :: List.replicate 0 0) = ([] ++ kc la) ++ [.int .u8 128] := by rw [iT]; rfl
 refine WE.loop (α := Nat × Value) (rg [(3, 1), (12, 7)]) (fun p => [(3, p.2)]) (fun p wl => p.1 ≤ zc la.length ∧ St X w wl [] [aP.gZ w.heap.size p.2 5 1 (la.length + 1 + p.1) (kc (la ++ 128 :: List.replicate p.1 0))] [bL a la]) (fun p => zc la.length - p.1) (0, v11) ⟨rfl, trivial⟩ ⟨Nat.zero_le _, H.conv (by rw [e0, Nat.add_zero]; rw [show 0 + la.length + 1 = la.length + 1 by omega]; rfl)⟩ ?_
 intro ⟨j, v⟩ γ0 w5 hI
 try dsimp only at hI
 obtain ⟨hj, H⟩ := hI
 refine WE.seq (WE.aA (WL.mv rfl rfl (WL.pv (PV.dS (cO.dM (H.l 0 rfl)) eN rfl) rfl (WL.pv (PV.qB rfl rfl rfl (by omega) (by omega)) rfl (WL.pv (PV.neq rfl rfl rfl) rfl (WL.nil ?_))))))
 refine WE.cond rfl (fun DB => ?_) (fun DB => ?_)
 ·
  try simp only [bP] at DB
  have hlt : j < zc la.length := by omega
  refine WE.skip (WE.block (WE.dW (WL.mv rfl rfl ?_)))
  refine WL.bA (l0 := [.int .u8 (0)]) H rfl iG (by decide) (cW _ _) (Fl.cons rfl rfl (by simp only [aS]) Laid.head Fl.nil) rfl ?_
  intro b17 w6 H
  refine WL.append H 1 iG (by decide) rfl rfl rfl (cO.cA (n := 1) (H.l 0 rfl) rfl) (bB _ rfl) (by omega) (by decide) rfl ?_
  intro v18 w7 H
  refine WL.as rfl rfl (WL.nil ?_)
  replace H := H.forget 0
  have e : kc (la ++ 128 :: List.replicate (j + 1) 0) = kc (la ++ 128 :: List.replicate j 0) ++ [.int .u8 0] := by rw [List.replicate_succ', ← List.cons_append, ← List.append_assoc, iT]; rfl
  exact ⟨(j + 1, v18), (by repeat (first | with_reducible exact bK.refl _ _ | refine bK.dG rfl ?_ | refine bK.bZ rfl ?_ | refine bK.bX rfl ?_)), ⟨rfl, trivial⟩, rfl, ⟨by dsimp only; omega, H.conv (by rw [e]; rfl)⟩, (by dsimp only; omega)⟩
 ·
  try simp only [bP] at DB
  obtain rfl : j = zc la.length := by omega
  refine WE.exit (WE.aA (WL.mv rfl rfl (WL.pv (PV.dS (H.p 0 rfl) eN rfl) rfl (WL.pv (PV.BT (n := la.length) rfl tE LR rfl rfl (by omega)) rfl (WL.pv (PV.I5 (m := la.length) (n := 8) (q := 8 * la.length) rfl rfl rfl (by omega) (by omega)) rfl (WL.as rfl rfl (WL.nil ?_)))))))
  refine WE.seq (WE.aA (WL.as rfl rfl (WL.nil (WE.block ?_))))
  refine WE.loop (α := Nat × Value) (rg [(3, 1), (5, 1), (23, 12)]) (fun p => [(5, .int .i64 (56 - 8 * (p.1 : Int))), (3, p.2)]) (fun p wl => p.1 ≤ 8 ∧ St X w wl [] [aP.gZ w.heap.size p.2 5 1 (la.length + 1 + zc la.length + p.1) (kc ((la ++ 128 :: List.replicate (zc la.length) 0) ++ (P7 (8 * la.length)).take p.1))] [bL a la]) (fun p => 8 - p.1) (0, v) ⟨rfl, rfl, trivial⟩ ⟨Nat.zero_le _, by dsimp only; rw [List.take_zero, List.append_nil]; exact H⟩ ?_
  intro ⟨i, u⟩ γ1 w8 hI
  try dsimp only at hI
  obtain ⟨hi, H⟩ := hI
  refine WE.seq (WE.aA (WL.mv rfl rfl (WL.pv (PV.geq rfl rfl rfl) rfl (WL.nil ?_))))
  refine WE.cond rfl (fun DA => ?_) (fun DA => ?_)
  ·
   try simp only [bP] at DA
   have hi8 : i < 8 := by omega
   refine WE.skip (WE.seq (WE.block (WE.dW (WL.mv rfl rfl (WL.mv rfl rfl (WL.mv rfl rfl (WL.pv (PV.BT (n := 56 - 8 * i) rfl tE AA rfl (by omega) (by omega)) rfl ?_)))))))
   refine WL.pv (PV.CD (m := 8 * la.length) (n := 56 - 8 * i) rfl rfl rfl (show _ < 64 by omega)) rfl (WL.pv (PV.JY (n := 8 * la.length / 2 ^ (56 - 8 * i)) rfl LR mM rfl) rfl ?_)
   refine WL.bA (l0 := [.int .u8 (0)]) H rfl iG (by decide) (cW _ _) (Fl.cons rfl rfl (by simp only [aS]) Laid.head Fl.nil) rfl ?_
   intro b33 w9 H
   refine WL.append H 1 iG (by decide) rfl rfl rfl (cO.cA (n := 1) (H.l 0 rfl) rfl) (bB _ rfl) (by omega) (by decide) rfl ?_
   intro v34 tX H
   refine WL.as rfl rfl (WL.nil (WE.dW (WL.mv rfl rfl ?_)))
   refine WL.pv (PV.eq (v' := .int .i64 (56 - 8 * ((i + 1 : Nat) : Int))) (PV.gE rfl rfl rfl (by omega) (by omega)) (by congr 1; omega)) rfl ?_
   refine WL.as rfl rfl (WL.nil ?_)
   replace H := H.forget 0
   have e := CY (la ++ 128 :: List.replicate (zc la.length) 0) (P7 (8 * la.length)) i (by rw [k4]; omega)
   rw [MQ] at e
   exact ⟨(i + 1, v34), (by repeat (first | with_reducible exact bK.refl _ _ | refine bK.dG rfl ?_ | refine bK.bZ rfl ?_ | refine bK.bX rfl ?_)), ⟨rfl, rfl, trivial⟩, rfl, ⟨by dsimp only; omega, H.conv (by rw [e]; rfl)⟩, (by dsimp only; omega)⟩
  ·
   try simp only [bP] at DA
   obtain rfl : i = 8 := by omega
   refine WE.exit (WE.aA (WL.mv rfl rfl (WL.as rfl rfl (WL.nil (WE.ret ⟨[_], _, .nil _, ⟨rfl, trivial⟩, ?_⟩)))))
   replace H := H.freeze (i := 0) rfl
   exact ⟨H.aL, H.fX ((H.bJ 0 rfl).imp fun _ h => by have := bL.dM h; rw [List.take_of_length_le (by rw [k4]; omega), List.append_assoc, List.cons_append] at this; exact this)⟩
def sg0 (x : UInt32) : UInt32 := (lS x 7 ^^^ lS x 18) ^^^ (x >>> UInt32.ofNat 3)
def sg1 (x : UInt32) : UInt32 := (lS x 17 ^^^ lS x 19) ^^^ (x >>> UInt32.ofNat 10)
def word (b : List UInt8) (i : Nat) : UInt32 := (((b.getD (4 * i) 0).toUInt32 <<< UInt32.ofNat 24 ||| (b.getD (4 * i + 1) 0).toUInt32 <<< UInt32.ofNat 16) ||| (b.getD (4 * i + 2) 0).toUInt32 <<< UInt32.ofNat 8) ||| (b.getD (4 * i + 3) 0).toUInt32
def ext (w : List UInt32) : List UInt32 := w ++ [((w.getD (w.length - 16) 0 + sg0 (w.getD (w.length - 15) 0)) + w.getD (w.length - 7) 0) + sg1 (w.getD (w.length - 2) 0)]
def sched (b : List UInt8) : Nat → List UInt32
 | 0 => (List.range 16).map (word b)
 | k + 1 => ext (sched b k)
theorem cQ (b : List UInt8) (k : Nat) : (sched b k).length = 16 + k := by
 induction k with
 | zero => simp [sched]
 | succ k ih => simp [sched, ext, ih]; omega
theorem fD {α : Type} {l : List α} {d : α} {i : Nat} (h : i < l.length) : l.getD i d = l[i] := by simp [h]
theorem IF (b : List UInt8) (k : Nat) (h0 : k < (sched b k).length) (h1 : k + 1 < (sched b k).length) (h9 : k + 9 < (sched b k).length) (h14 : k + 14 < (sched b k).length) :
  sched b (k + 1) = sched b k ++ [(((sched b k)[k] + sg0 (sched b k)[k + 1]) + (sched b k)[k + 9]) + sg1 (sched b k)[k + 14]] := by
 have hl := cQ b k
 show ext (sched b k) = _
 unfold ext
 rw [hl, show 16 + k - 16 = k by omega, show 16 + k - 15 = k + 1 by omega, show 16 + k - 7 = k + 9 by omega, show 16 + k - 2 = k + 14 by omega, fD h0, fD h1, fD h9, fD h14]
theorem XD (b : List UInt8) (i : Nat) (h : 4 * i + 3 < b.length) : word b i = (((b[4 * i].toUInt32 <<< UInt32.ofNat 24 ||| b[4 * i + 1].toUInt32 <<< UInt32.ofNat 16) ||| b[4 * i + 2].toUInt32 <<< UInt32.ofNat 8) ||| b[4 * i + 3].toUInt32) := by
 unfold word
 rw [fD (by omega), fD (by omega), fD (by omega), fD h]
theorem RN {X : Nat → Prop} {w : World}  (hX : c6 X w) :
  bC prog 155 [].toArray w fun v w' => Out Nil w w' ∧ aH X (VW v fN) w' := by
 refine bC.aI (N := 2) func155 rfl rfl (by decide +revert) ?_
 have H := St.begin hX
 refine WE.aA (WL.as rfl rfl (WL.nil (WE.aA ?_)))
 refine WL.bA (l0 := List.replicate 64 (.int .u32 0)) (l := kw fN) H rfl EJ (by decide) (cW _ _) (Fl.rows (z := .int .u32 0) (kw fN) [] (fun v hv => cells_one (uS _ v hv))) rfl ?_
 intro b1 w2 H
 refine WL.as rfl rfl (WL.nil (WE.ret ⟨[_], _, .nil _, ⟨rfl, trivial⟩, ?_⟩))
 replace H := H.freeze (i := 0) rfl
 exact ⟨H.aL, H.fX ((H.bJ 0 rfl).imp fun _ h => cO.slw (cO.cA (n := 64) h rfl))⟩
theorem IE {X : Nat → Prop} {w : World} {a : Value} {la : List UInt8} (hX : c6 X w) (bT : aH X (bL a la) w) (rY : la.length = 64) :
  bC prog 157 [a].toArray w fun v w' => Out Nil w w' ∧ aH X (VW v (sched la 48)) w' := by
 refine bC.aI (N := 95) func157 rfl rfl (by simp) ?_
 have H := (St.begin hX).add (cE bT)
 refine WE.aA (WL.as rfl rfl (WL.nil (WE.aA (WL.as rfl rfl (WL.nil (WE.seq (WE.aA ?_)))))))
 refine WL.as rfl rfl (WL.nil (WE.block ?_))
 replace H := H.kU 260 1
 refine WE.loop (α := Nat × Value) (rg [(3, 2), (8, 40)]) (fun p => [(4, .int .i64 p.1), (3, p.2)]) (fun p wl => p.1 ≤ 16 ∧ St X w wl [] [aP.gZ w.heap.size p.2 260 1 p.1 (kw ((List.range p.1).map (word la)))] [bL a la]) (fun p => 16 - p.1) (0, .slice none 0 0) ⟨rfl, rfl, trivial⟩ ⟨Nat.zero_le _, H⟩ ?_
 intro ⟨i, v⟩ γ0 w1 hI
 try dsimp only at hI
 obtain ⟨hi, H⟩ := hI
 refine WE.seq (WE.aA (WL.mv rfl rfl (WL.pv (PV.lss rfl rfl rfl) rfl (WL.nil ?_))))
 refine WE.cond rfl (fun uV => ?_) (fun uV => ?_)
 ·
  try simp only [bP] at uV
  have hlt : i < 16 := by omega
  refine WE.skip (WE.seq (WE.block ?_))
  refine WE.draw (.take 0 (.take 1 (.take 2 (.take 3 (.take 4 (.take 5 (.take 6 (.take 7 (.take 8 (.take 9 (.take 10 (.take 11 (.take 12 (.take 13 (.take 14 (.take 15 (.take 16 (.take 17 (.take 18 (.take 19 (.take 20 (.take 21 (.take 22 (.take 23 (.take 24 (.take 25 (.take 26 (.take 27 (.take 28 (.take 29 (.take 30 (.take 31 (.take 32 (.take 33 (.aG 34 (.aG 35 (.take 36 .done))))))))))))))))))))))))))))))))))))) mixed (by kernel_rfl) ?_
  replace H := H.out (Out.drew _)
  refine WP.mv rfl rfl rfl (WP.mv rfl rfl rfl (WP.mv rfl rfl rfl (WP.aC rfl rfl (PV.mL rfl rfl rfl (by omega) (by omega)) (WP.aC rfl rfl (PV.dX rfl (H.p 0 rfl) eN gO rfl rfl (by omega) (by omega)) (WP.aM rfl rfl (RV.aV rfl vD rfl) (bL.rd (H.p 0 rfl) (4 * i) (by omega)) (WP.aC rfl rfl (PV.GL rfl mM vP rfl) (WP.aC rfl rfl (PV.AU (n := 24) rfl rfl rfl (by omega)) ?_)))))))
  refine WP.mv rfl rfl rfl (WP.mv rfl rfl rfl (WP.aC rfl rfl (PV.mL rfl rfl rfl (by omega) (by omega)) (WP.aC rfl rfl (PV.bV rfl rfl rfl (by omega) (by omega)) (WP.aC rfl rfl (PV.dX rfl (H.p 0 rfl) eN gO rfl rfl (by omega) (by omega)) (WP.aM rfl rfl (RV.aV rfl vD rfl) (bL.rd (H.p 0 rfl) (4 * i + 1) (by omega)) (WP.aC rfl rfl (PV.GL rfl mM vP rfl) (WP.aC rfl rfl (PV.AU (n := 16) rfl rfl rfl (by omega)) ?_)))))))
  refine WP.aC rfl rfl (PV.E2 rfl rfl rfl) (WP.mv rfl rfl rfl (WP.mv rfl rfl rfl (WP.aC rfl rfl (PV.mL rfl rfl rfl (by omega) (by omega)) (WP.aC rfl rfl (PV.bV rfl rfl rfl (by omega) (by omega)) (WP.aC rfl rfl (PV.dX rfl (H.p 0 rfl) eN gO rfl rfl (by omega) (by omega)) (WP.aM rfl rfl (RV.aV rfl vD rfl) (bL.rd (H.p 0 rfl) (4 * i + 2) (by omega)) (WP.aC rfl rfl (PV.GL rfl mM vP rfl) ?_)))))))
  refine WP.aC rfl rfl (PV.AU (n := 8) rfl rfl rfl (by omega)) (WP.aC rfl rfl (PV.E2 rfl rfl rfl) (WP.mv rfl rfl rfl (WP.mv rfl rfl rfl (WP.aC rfl rfl (PV.mL rfl rfl rfl (by omega) (by omega)) (WP.aC rfl rfl (PV.bV rfl rfl rfl (by omega) (by omega)) (WP.aC rfl rfl (PV.dX rfl (H.p 0 rfl) eN gO rfl rfl (by omega) (by omega)) (WP.aM rfl rfl (RV.aV rfl vD rfl) (bL.rd (H.p 0 rfl) (4 * i + 3) (by omega)) ?_)))))))
  refine WP.aC rfl rfl (PV.GL rfl mM vP rfl) (WP.aC rfl rfl (PV.E2 rfl rfl rfl) (WP.aG rfl ?_))
  refine WL.bA (l0 := [.int .u32 (0)]) H rfl EJ (by decide) (cW _ _) (Fl.cons rfl rfl (by simp only [aS]) Laid.head Fl.nil) rfl ?_
  intro AG w2 H
  refine WL.nil ⟨(fa (nw 34 31) (fa (nw 34 22) (fa (nw 34 13) (fa (nw 34 5) c8)))), ?_⟩
  refine WP.aG rfl ?_
  refine WL.append H 1 EJ (by decide) rfl rfl rfl (cO.cA (n := 1) (H.l 0 rfl) rfl) (bB _ rfl) (by omega) (by decide) rfl ?_
  intro v47 w3 H
  refine WL.nil ⟨(fa (nw 35 31) (fa (nw 35 22) (fa (nw 35 13) (fa (nw 35 5) c8)))), ?_⟩
  refine WP.as rfl rfl rfl (WP.done (WE.dW (WL.mv rfl rfl (WL.pv (PV.bV rfl rfl rfl (by omega) (by omega)) rfl (WL.as rfl rfl (WL.nil ?_))))))
  replace H := H.forget 0
  have e : kw ((List.range (i + 1)).map (word la)) = kw ((List.range i).map (word la)) ++ [.int .u32 ((word la i).toNat : Int)] := by rw [List.range_succ, List.map_append, BA]; rfl
  rw [XD la i (by omega)] at e
  exact ⟨(i + 1, v47), (by repeat (first | with_reducible exact bK.refl _ _ | refine bK.dG rfl ?_ | refine bK.bZ rfl ?_ | refine bK.bX rfl ?_)), ⟨rfl, rfl, trivial⟩, rfl, ⟨by dsimp only; omega, H.conv (by rw [e]; rfl)⟩, (by dsimp only; omega)⟩
 ·
  try simp only [bP] at uV
  obtain rfl : i = 16 := by omega
  refine WE.exit (WE.seq (WE.aA (WL.as rfl rfl (WL.nil (WE.block ?_)))))
  refine WE.loop (α := Nat × Value) (rg [(3, 1), (5, 3), (48, 46)]) (fun p => [(5, .int .i64 ((16 + p.1 : Nat) : Int)), (3, p.2)]) (fun p wl => p.1 ≤ 48 ∧ St X w wl [] [aP.gZ w.heap.size p.2 260 1 (16 + p.1) (kw (sched la p.1))] [bL a la]) (fun p => 48 - p.1) (0, v) ⟨rfl, rfl, trivial⟩ ⟨Nat.zero_le _, H⟩ ?_
  intro ⟨k, u⟩ γ1 w4 hI
  try dsimp only at hI
  obtain ⟨hk, H⟩ := hI
  have hS := cQ la k
  refine WE.seq (WE.aA (WL.mv rfl rfl (WL.pv (PV.lss rfl rfl rfl) rfl (WL.nil ?_))))
  refine WE.cond rfl (fun JL => ?_) (fun JL => ?_)
  ·
   try simp only [bP] at JL
   have hlt : k < 48 := by omega
   refine WE.skip (WE.seq (WE.block (WE.aA (WL.mv rfl rfl (WL.mv rfl rfl ?_)))))
   refine WL.pv (PV.eq (v' := .int .i64 ((k + 1 : Nat) : Int)) (PV.gE rfl rfl rfl (by omega) (by omega)) (by congr 1; omega)) rfl ?_
   refine WL.pv (PV.dX rfl (cO.dM (H.l 0 rfl)) xK dA rfl rfl (by omega) (by omega)) rfl ?_
   refine WL.aX rfl dU rfl rfl (by exact cO.rdw (cO.dM (H.l 0 rfl)) (k + 1) (by rw [hS]; omega)) ?_
   refine WL.as rfl rfl (WL.nil (WE.aA (WL.mv rfl rfl (WL.mv rfl rfl ?_))))
   refine WL.pv (PV.eq (v' := .int .i64 ((k + 14 : Nat) : Int)) (PV.gE rfl rfl rfl (by omega) (by omega)) (by congr 1; omega)) rfl ?_
   refine WL.pv (PV.dX rfl (cO.dM (H.l 0 rfl)) xK dA rfl rfl (by omega) (by omega)) rfl ?_
   refine WL.aX rfl dU rfl rfl (by exact cO.rdw (cO.dM (H.l 0 rfl)) (k + 14) (by rw [hS]; omega)) ?_
   refine WL.as rfl rfl (WL.nil ?_)
   refine WE.draw (.take 0 (.take 1 (.take 2 (.take 3 (.take 4 (.take 5 (.take 6 (.take 8 (.take 11 (.take 12 (.take 15 (.take 16 (.take 17 (.take 18 (.take 19 (.take 21 (.take 23 (.take 26 (.take 27 (.aG 7 (.aG 9 (.take 10 (.take 13 (.take 14 (.take 20 (.aG 22 (.aG 24 (.take 25 (.take 28 (.take 29 (.aG 30 (.aG 31 (.take 32 .done))))))))))))))))))))))))))))))))) mixed (by kernel_rfl) ?_
   replace H := H.out (Out.drew _)
   refine WP.mv rfl rfl rfl (WP.mv rfl rfl rfl (WP.mv rfl rfl rfl ?_))
   refine WP.aC rfl rfl (PV.eq (v' := .int .i64 ((k : Nat) : Int)) (PV.gE rfl rfl rfl (by omega) (by omega)) (by congr 1; omega)) ?_
   refine WP.aC rfl rfl (PV.dX rfl (cO.dM (H.l 0 rfl)) xK dA rfl rfl (by omega) (by omega)) ?_
   refine WP.aM rfl rfl (RV.aV rfl dU rfl) (by exact cO.rdw (cO.dM (H.l 0 rfl)) (k) (by rw [hS]; omega)) ?_
   refine WP.mv rfl rfl rfl (WP.mv rfl rfl rfl (WP.mv rfl rfl rfl (WP.aC rfl rfl (PV.vJ (n := 3) rfl rfl rfl (by omega)) (WP.mv rfl rfl rfl (WP.mv rfl rfl rfl ?_)))))
   refine WP.aC rfl rfl (PV.eq (v' := .int .i64 ((k + 9 : Nat) : Int)) (PV.gE rfl rfl rfl (by omega) (by omega)) (by congr 1; omega)) ?_
   refine WP.aC rfl rfl (PV.dX rfl (cO.dM (H.l 0 rfl)) xK dA rfl rfl (by omega) (by omega)) ?_
   refine WP.aM rfl rfl (RV.aV rfl dU rfl) (by exact cO.rdw (cO.dM (H.l 0 rfl)) (k + 9) (by rw [hS]; omega)) ?_
   refine WP.mv rfl rfl rfl (WP.mv rfl rfl rfl (WP.mv rfl rfl rfl (WP.aC rfl rfl (PV.vJ (n := 10) rfl rfl rfl (by omega)) (WP.aG rfl ?_))))
   refine WL.call rJ rfl (nJ (x := (sched la k)[k + 1]'(by rw [hS]; omega)) (n := 7) H.aR (by decide) (by decide)) ?_
   rintro _ w5 ⟨rfl, hO⟩
   replace H := H.out hO
   refine WL.nil ⟨(fa (rk hO) (fa (rk hO) c8)), ?_⟩
   refine WP.aG rfl ?_
   refine WL.call rJ rfl (nJ (x := (sched la k)[k + 1]'(by rw [hS]; omega)) (n := 18) H.aR (by decide) (by decide)) ?_
   rintro _ w6 ⟨rfl, hO⟩
   replace H := H.out hO
   refine WL.nil ⟨(fa (rk hO) (fa (rk hO) c8)), ?_⟩
   refine WP.aC rfl rfl (PV.j5 rfl rfl rfl) (WP.aC rfl rfl (PV.j5 rfl rfl rfl) (WP.aC rfl rfl (PV.hZ rfl rfl rfl) (WP.aC rfl rfl (PV.hZ rfl rfl rfl) (WP.aG rfl ?_))))
   refine WL.call rJ rfl (nJ (x := (sched la k)[k + 14]'(by rw [hS]; omega)) (n := 17) H.aR (by decide) (by decide)) ?_
   rintro _ w7 ⟨rfl, hO⟩
   replace H := H.out hO
   refine WL.nil ⟨(fa (rk hO) (fa (rk hO) c8)), ?_⟩
   refine WP.aG rfl ?_
   refine WL.call rJ rfl (nJ (x := (sched la k)[k + 14]'(by rw [hS]; omega)) (n := 19) H.aR (by decide) (by decide)) ?_
   rintro _ w8 ⟨rfl, hO⟩
   replace H := H.out hO
   refine WL.nil ⟨(fa (rk hO) (fa (rk hO) c8)), ?_⟩
   refine WP.aC rfl rfl (PV.j5 rfl rfl rfl) (WP.aC rfl rfl (PV.j5 rfl rfl rfl) (WP.aC rfl rfl (PV.hZ rfl rfl rfl) (WP.aG rfl ?_)))
   refine WL.bA (l0 := [.int .u32 (0)]) H rfl EJ (by decide) (cW _ _) (Fl.cons rfl rfl (by simp only [aS]) Laid.head Fl.nil) rfl ?_
   intro b92 w9 H
   refine WL.nil ⟨(fa (nw 30 19) (fa (nw 30 5) c8)), ?_⟩
   refine WP.aG rfl ?_
   refine WL.append H 1 EJ (by decide) rfl rfl rfl (cO.cA (n := 1) (H.l 0 rfl) rfl) (bB _ rfl) (by omega) (by decide) rfl ?_
   intro v93 tX H
   refine WL.nil ⟨(fa (nw 31 19) (fa (nw 31 5) c8)), ?_⟩
   refine WP.as rfl rfl rfl (WP.done (WE.dW (WL.mv rfl rfl (WL.pv (PV.bV rfl rfl rfl (by omega) (by omega)) rfl (WL.as rfl rfl (WL.nil ?_))))))
   replace H := H.forget 0
   have e := IF la k (by omega) (by omega) (by omega) (by omega)
   exact ⟨(k + 1, v93), (by repeat (first | with_reducible exact bK.refl _ _ | refine bK.dG rfl ?_ | refine bK.bZ rfl ?_ | refine bK.bX rfl ?_)), ⟨rfl, rfl, trivial⟩, rfl, ⟨by dsimp only; omega, H.conv (by rw [e, YS]; rfl)⟩, (by dsimp only; omega)⟩
  ·
   try simp only [bP] at JL
   obtain rfl : k = 48 := by omega
   refine WE.exit (WE.aA (WL.mv rfl rfl (WL.as rfl rfl (WL.nil (WE.ret ⟨[_], _, .nil _, ⟨rfl, trivial⟩, ?_⟩)))))
   replace H := H.freeze (i := 0) rfl
   exact ⟨H.aL, H.fX ((H.bJ 0 rfl).imp fun _ h => cO.slw (cO.dM h))⟩
theorem aIQ {n : Nat} (h : n ≤ 1152921504606846976) : 64 * oM (n : Int) = ((n + 9 + zc n : Nat) : Int) := by
 unfold oM zc
 rw [if_neg (by omega)]
 omega
def x8 (l : List UInt8) (i : Nat) : List UInt8 := (l ++ 128 :: List.replicate (zc l.length + (8 - i)) 0) ++ (P7 (8 * l.length)).drop (8 - i)
theorem NV (l : List UInt8) : x8 l 0 = l ++ 128 :: List.replicate (zc l.length + 8) 0 := by
 unfold x8
 rw [List.drop_eq_nil_of_le (by rw [k4]; omega), List.append_nil]
theorem IZ (l : List UInt8) : x8 l 8 = cS l := by simp [x8, cS]
theorem E1 (l : List UInt8) (i : Nat) (hi : i ≤ 8) : (x8 l i).length = l.length + 9 + zc l.length := by
 simp [x8, k4]; omega
theorem RT (l : List UInt8) (i : Nat) (hi : i < 8) : (x8 l i).set (l.length + 8 + zc l.length - i) (UInt8.ofNat (8 * l.length / 2 ^ (8 * i))) = x8 l (i + 1) := by
 have hb := k4 (8 * l.length)
 have h7 : 7 - i < (P7 (8 * l.length)).length := by omega
 have hd : (P7 (8 * l.length)).drop (8 - (i + 1)) = UInt8.ofNat (8 * l.length / 2 ^ (8 * i)) :: (P7 (8 * l.length)).drop (8 - i) := by
  rw [show 8 - (i + 1) = 7 - i by omega, List.drop_eq_getElem_cons h7, MQ, show 7 - i + 1 = 8 - i by omega, show 56 - 8 * (7 - i) = 8 * i by omega]
 unfold x8
 rw [hd]
 have hr : l ++ 128 :: List.replicate (zc l.length + (8 - i)) 0 = (l ++ 128 :: List.replicate (zc l.length + (8 - (i + 1))) 0) ++ [0] := by
  rw [show zc l.length + (8 - i) = (zc l.length + (8 - (i + 1))) + 1 by omega, List.replicate_succ', ← List.cons_append, ← List.append_assoc]
 have hlen : (l ++ 128 :: List.replicate (zc l.length + (8 - (i + 1))) (0 : UInt8)).length = l.length + 8 + zc l.length - i := by simp; omega
 rw [hr, List.append_assoc, ← hlen, List.set_append_right _ _ (Nat.le_refl _), Nat.sub_self]
 rfl
theorem JV (l : List UInt8) (m : Nat) : Laid (kc (List.replicate (l.length + m) 0)) 0 ((kc l).take (min l.length (l.length + m))) (kc (l ++ List.replicate m 0)) := by
 have e : (kc l).take (min l.length (l.length + m)) = kc l := by rw [show min l.length (l.length + m) = l.length by omega]; exact List.take_of_length_le (by rw [aJ]; omega)
 rw [e, ← List.replicate_append_replicate]
 have : Laid (kc (List.replicate l.length 0)) 0 (kc l) (kc l) := Laid.all (by simp [aJ])
 have h2 := Laid.left (b := kc (List.replicate m 0)) this
 rwa [← iT, ← iT] at h2
theorem NM (l : List UInt8) (m : Nat) : (l ++ List.replicate (m + 1) (0 : UInt8)).set l.length 128 = l ++ 128 :: List.replicate m 0 := by
 rw [List.set_append_right _ _ (Nat.le_refl _), Nat.sub_self]; rfl
theorem aDH {X : Nat → Prop} {w : World} {a : Value} {la : List UInt8} (hX : c6 X w) (bT : aH X (bL a la) w) (rY : la.length ≤ 1000000000) :
  bC prog 162 [a].toArray w fun v w' => Out Nil w w' ∧ ∃ b, v = .slice (some ⟨b, 0, none⟩) (cS la).length (cS la).length ∧ w.heap.size ≤ b ∧ aN w' b 5 (kc (cS la)) := by
 refine bC.aI (N := 39) func162 rfl rfl (by simp) ?_
 have H := (St.begin hX).add (cE bT)
 have aCE : zc la.length < 64 := by unfold zc; omega
 have hT := aIQ (n := la.length) (by omega)
 refine WE.aA (WL.as rfl rfl (WL.nil (WE.aA (WL.mv rfl rfl (WL.pv (PV.dS (H.p 0 rfl) eN rfl) rfl ?_)))))
 refine WL.call aGK rfl (WT (n := (la.length : Int)) H.aR (by omega)) ?_
 rintro _ w1 ⟨rfl, hO⟩
 replace H := H.out hO
 refine WL.pv (PV.eq (v' := .int .i64 (((la.length + 9 + zc la.length) : Nat) : Int)) (PV.mL rfl rfl rfl (by omega) (by omega)) (by congr 1)) rfl ?_
 refine WL.makeSlice (n := (la.length + 9 + zc la.length)) H rfl iG rfl (by omega) (by omega) rfl ?_
 intro vB w3 H
 replace H := H.conv (L' := [aP.blk vB 5 (kc (List.replicate (la.length + (8 + zc la.length + 1)) 0))]) (by rw [cW, show la.length + (8 + zc la.length + 1) = (la.length + 9 + zc la.length) by omega]; simp [kc])
 refine WL.as rfl rfl (WL.nil (WE.aA (WL.mv rfl rfl (WL.mv rfl rfl ?_))))
 refine WL.copy H 0 eN gO rfl rfl rfl (H.p 0 rfl) (bH _) (by have := JV la (8 + zc la.length + 1); rw [show la.length + (8 + zc la.length + 1) = (la.length + 9 + zc la.length) by omega] at this ⊢; exact this) rfl ?_
 intro w5 H
 refine WL.nil (WE.aA (WL.mv rfl rfl (WL.mv rfl rfl (WL.pv (PV.dS (H.p 0 rfl) eN rfl) rfl (WL.pv (PV.wQ rfl eN gO rfl rfl (by omega) (by omega)) rfl ?_)))))
 refine WL.aW H 0 rfl rfl rfl (new := _) rfl (by exact gO) (bB _ rfl) (Laid.at (Laid.tQ (x := 128) la.length (by simp)) (by simp)) rfl ?_
 intro w6 H
 replace H := H.conv (L' := [aP.blk vB 5 (kc (x8 la 0))]) (by rw [NV, NM, Nat.add_comm 8]; rfl)
 refine WL.nil (WE.aA (WL.mv rfl rfl (WL.pv (PV.dS (H.p 0 rfl) eN rfl) rfl (WL.pv (PV.BT (n := la.length) rfl tE LR rfl rfl (by omega)) rfl (WL.pv (PV.I5 (m := la.length) (n := 8) (q := 8 * la.length) rfl rfl rfl (by omega) (by omega)) rfl (WL.as rfl rfl (WL.nil ?_)))))))
 refine WE.seq (WE.aA (WL.mv rfl rfl (WL.nil (WE.block ?_))))
 refine WE.loop (α := Nat) (rg [(5, 1), (22, 16)]) (fun i => [(22, .int .i64 i)]) (fun i wl => i ≤ 8 ∧ St X w wl [] [aP.blk vB 5 (kc (x8 la i))] [bL a la]) (fun i => 8 - i) 0 ⟨rfl, trivial⟩ ⟨Nat.zero_le _, H⟩ ?_
 intro i γ0 w7 hI
 try dsimp only at hI
 obtain ⟨hi, H⟩ := hI
 refine WE.aA (WL.pv (PV.lss rfl rfl rfl) rfl (WL.nil (WE.seq ?_)))
 refine WE.cond rfl (fun kX => ?_) (fun kX => ?_)
 ·
  try simp only [bP] at kX
  have hi8 : i < 8 := by omega
  refine WE.skip (WE.seq (WE.block (WE.aA (WL.mv rfl rfl (WL.as rfl rfl (WL.nil (WE.dW ?_)))))))
  refine WL.mv rfl rfl (WL.mv rfl rfl (WL.pv (PV.A8 eN rfl) rfl ?_))
  refine WL.pv (PV.eq (v' := .int .i64 ((la.length + 8 + zc la.length : Nat) : Int)) (PV.gE rfl rfl rfl (by omega) (by omega)) (by congr 1; omega)) rfl ?_
  refine WL.mv rfl rfl ?_
  refine WL.pv (PV.eq (v' := .int .i64 ((la.length + 8 + zc la.length - i : Nat) : Int)) (PV.gE rfl rfl rfl (by omega) (by omega)) (by congr 1; omega)) rfl ?_
  refine WL.mv rfl rfl (WL.mv rfl rfl ?_)
  refine WL.pv (PV.eq (v' := .int .i64 ((8 * i : Nat) : Int)) (PV.mL rfl rfl rfl (by omega) (by omega)) (by congr 1)) rfl ?_
  refine WL.pv (PV.CD (m := 8 * la.length) (n := 8 * i) rfl rfl rfl (show _ < 64 by omega)) rfl (WL.pv (PV.JY (n := 8 * la.length / 2 ^ (8 * i)) rfl LR mM rfl) rfl (WL.pv (PV.wQ rfl eN gO rfl rfl (by omega) (by omega)) rfl ?_))
  refine WL.aW H 0 rfl rfl rfl (new := _) rfl (by exact gO) (bB _ rfl) (Laid.at (Laid.tQ (la.length + 8 + zc la.length - i) (by rw [E1 _ _ (by omega)]; omega)) (by simp)) rfl ?_
  intro w8 H
  refine WL.nil (WE.dW (WL.pv (PV.bV rfl rfl rfl (by omega) (by omega)) rfl (WL.mv rfl rfl (WL.nil ?_))))
  have e := RT la i hi8
  exact ⟨i + 1, (by repeat (first | with_reducible exact bK.refl _ _ | refine bK.dG rfl ?_ | refine bK.bZ rfl ?_ | refine bK.bX rfl ?_)), ⟨rfl, trivial⟩, rfl, ⟨by omega, H.conv (by rw [← e]; rfl)⟩, (by omega)⟩
 ·
  try simp only [bP] at kX
  obtain rfl : i = 8 := by omega
  refine WE.exit (WE.aA (WL.mv rfl rfl (WL.as rfl rfl (WL.nil (WE.ret ⟨[_], _, .nil _, ⟨rfl, trivial⟩, ?_⟩)))))
  rw [IZ] at H
  exact ⟨H.aL, vB, by rw [mB]; rfl, H.kI _ (List.mem_of_getElem? (i := 0) rfl) _ rfl, H.l 0 rfl⟩
theorem aIg {X : Nat → Prop} {w : World} {a : Value} {la : List UInt8} (hX : c6 X w) (bT : aH X (bL a la) w) (rY : la.length ≤ 1000000000) :
  bC prog 162 [a].toArray w fun v w' => Out Nil w w' ∧ aH X (bL v (cS la)) w' :=
 (aDH hX bT rY).mono fun v w' ⟨hO, b, hv, hb, h⟩ => ⟨hO, by subst hv; exact (X1 hX hb h).imp fun _ h => bL.cA h rfl⟩
def h0L : List UInt32 := [1779033703, 3144134277, 1013904242, 2773480762, 1359893119, 2600822924, 528734635, 1541459225]
def t1f (s : List UInt32) (k w : UInt32) : UInt32 := (((s.getD 7 0 + ((lS (s.getD 4 0) 6 ^^^ lS (s.getD 4 0) 11) ^^^ lS (s.getD 4 0) 25)) + ((s.getD 4 0 &&& s.getD 5 0) ^^^ (~~~(s.getD 4 0) &&& s.getD 6 0))) + k) + w
def t2f (s : List UInt32) : UInt32 := ((lS (s.getD 0 0) 2 ^^^ lS (s.getD 0 0) 13) ^^^ lS (s.getD 0 0) 22) + (((s.getD 0 0 &&& s.getD 1 0) ^^^ (s.getD 0 0 &&& s.getD 2 0)) ^^^ (s.getD 1 0 &&& s.getD 2 0))
def stp (s : List UInt32) (k w : UInt32) : List UInt32 := [t1f s k w + t2f s, s.getD 0 0, s.getD 1 0, s.getD 2 0, s.getD 3 0 + t1f s k w, s.getD 4 0, s.getD 5 0, s.getD 6 0]
def iO (W s : List UInt32) : Nat → List UInt32
 | 0 => s
 | i + 1 => stp (iO W s i) (fN.getD i 0) (W.getD i 0)
def mA (s t : List UInt32) (i : Nat) : List UInt32 := (List.range 8).map fun j => if j < i then s.getD j 0 + t.getD j 0 else s.getD j 0
def comp (s : List UInt32) (b : List UInt8) : List UInt32 := mA s (iO (sched b 48) s 64) 8
def fZ (p : List UInt8) : Nat → List UInt32
 | 0 => h0L
 | n + 1 => comp (fZ p n) ((p.drop (64 * n)).take 64)
def oB (s : List UInt32) : List UInt8 := (List.range 32).map fun i => (s.getD (i / 4) 0 >>> UInt32.ofNat (24 - 8 * (i % 4))).toUInt8
def cZ (l : List UInt8) : List UInt8 := oB (fZ (cS l) ((cS l).length / 64))
theorem lG (W s : List UInt32) (h : s.length = 8) (i : Nat) : (iO W s i).length = 8 := by
 cases i with
 | zero => exact h
 | succ i => rfl
theorem fL (s t : List UInt32) (i : Nat) : (mA s t i).length = 8 := by simp [mA]
theorem o5 (p : List UInt8) (n : Nat) : (fZ p n).length = 8 := by
 cases n with
 | zero => rfl
 | succ n => exact fL _ _ _
theorem c9 (l : List UInt8) : (cZ l).length = 32 := by simp [cZ, oB]
theorem E0 (l : List UInt8) : (cS l).length % 64 = 0 := by rw [mB]; unfold zc; omega
theorem zC (s t : List UInt32) (h : s.length = 8) : mA s t 0 = s := by
 apply List.ext_getElem
 ·
  rw [fL, h]
 ·
  intro i h1 h2
  simp [mA, h2]
theorem PG (s t : List UInt32) (i : Nat) (h : s.length = 8) (hi : i < (mA s t i).length) (hs : i < s.length) : (mA s t i)[i] = s[i] := by
 simp [mA, hs]
theorem B5 (s t : List UInt32) (i : Nat) (h : s.length = 8) (ht : t.length = 8) (hi : i < 8) : (mA s t i).set i ((mA s t i)[i]'(by rw [fL]; exact hi) + t[i]'(by omega)) = mA s t (i + 1) := by
 rw [PG s t i h (by rw [fL]; exact hi) (by omega)]
 apply List.ext_getElem
 ·
  simp [mA]
 ·
  intro j h1 h2
  rw [fL] at h2
  rw [List.getElem_set]
  by_cases hij : i = j
  ·
   subst hij
   simp [mA, h, ht, hi]
  ·
   simp only [hij, if_false]
   simp only [mA, List.getElem_map, List.getElem_range]
   by_cases h3 : j < i
   ·
    rw [if_pos h3, if_pos (by omega)]
   ·
    rw [if_neg h3, if_neg (by omega)]
theorem A2 (s : List UInt32) (i : Nat) (hi : i < (oB s).length) (hs : i / 4 < s.length) : (oB s)[i] = (s[i / 4] >>> UInt32.ofNat (24 - 8 * (i % 4))).toUInt8 := by
 simp [oB, hs]
theorem jJ (s : List UInt32) : (oB s).length = 32 := by simp [oB]
theorem aCf (s : List UInt32) (h : s.length = 8) (k w : UInt32) : stp s k w = (
  let t1 := (((s[7] + ((lS s[4] 6 ^^^ lS s[4] 11) ^^^ lS s[4] 25)) + ((s[4] &&& s[5]) ^^^ (~~~s[4] &&& s[6]))) + k) + w
  let t2 := ((lS s[0] 2 ^^^ lS s[0] 13) ^^^ lS s[0] 22) + (((s[0] &&& s[1]) ^^^ (s[0] &&& s[2])) ^^^ (s[1] &&& s[2]))
  [t1 + t2, s[0], s[1], s[2], s[3] + t1, s[4], s[5], s[6]]) := by
 match s, h with
 | [a, b, c, d, e, f, g, i], _ => rfl
theorem NO (W s : List UInt32) (h : s.length = 8) (i : Nat) (hi : i < 64) (hW : i < W.length) : iO W s (i + 1) = stp (iO W s i) (fN[i]'hi) W[i] := by
 show stp _ _ _ = _
 rw [fD (show i < fN.length from hi), fD hW]
 rfl
theorem RE {X : Nat → Prop} {w : World} {a : Value} {la : List UInt8} (hX : c6 X w) (bT : aH X (bL a la) w) (rY : la.length ≤ 1000000000) :
  bC prog 104 [a].toArray w fun v w' => v = .agg (kc (cZ la)).toArray ∧ Out Nil w w' := by
 refine bC.aI (N := 152) func104 rfl rfl (by simp) ?_
 have H := (St.begin hX).add (cE bT)
 have aJe := E0 la
 have wE := mB la
 have aCE : zc la.length < 64 := by unfold zc; omega
 have hK : fN.length = 64 := rfl
 refine WE.aA ?_
 refine WL.alloc H rfl lB rfl ?_
 intro b2 w1 H
 refine WL.nil (WE.aA ?_)
 refine WL.pv (PV.lY rfl gB dA D6 (Fl.cons rfl rfl rfl (Laid.fG (x := 1779033703) 0 (by simp)) (Fl.cons rfl rfl rfl (Laid.fG (x := 3144134277) 1 (by simp)) (Fl.cons rfl rfl rfl (Laid.fG (x := 1013904242) 2 (by simp)) (Fl.cons rfl rfl rfl (Laid.fG (x := 2773480762) 3 (by simp)) (Fl.cons rfl rfl rfl (Laid.fG (x := 1359893119) 4 (by simp)) (Fl.cons rfl rfl rfl (Laid.fG (x := 2600822924) 5 (by simp)) (Fl.cons rfl rfl rfl (Laid.fG (x := 528734635) 6 (by simp)) (Fl.cons rfl rfl rfl (Laid.fG (x := 1541459225) 7 (by simp)) Fl.nil))))))))) rfl ?_
 refine WL.alloc H rfl D6 rfl ?_
 intro b3 w2 H
 refine WL.aW H 0 rfl rfl rfl (new := _) rfl (by exact K5) (uS _) (Laid.at (Laid.all (by simp [aJ, aQ, *])) rfl) rfl ?_
 intro w3 H
 replace H := H.conv (L' := [aP.blk b3 261 (kw (fZ (cS la) 0)), aP.blk b2 30 (kc (List.replicate 32 0))]) rfl
 refine WL.nil (WE.aA ?_)
 refine WL.call aG4 rfl (RN  H.aR  ) ?_
 rintro v16 w4 ⟨hO, hR⟩
 replace H := (H.out hO).add hR
 refine WL.as rfl rfl (WL.nil (WE.aA (WL.mv rfl rfl ?_)))
 refine WL.call aG3 rfl (RF (la := la) H.aR (H.bJ 1 rfl) rY) ?_
 rintro v18 w5 ⟨hO, hR⟩
 replace H := (H.out hO).add hR
 refine WL.as rfl rfl (WL.nil (WE.seq (WE.aA (WL.as rfl rfl (WL.nil (WE.block ?_))))))
 refine WE.loop (α := Nat) (rg [(6, 7), (19, 115)]) (fun n => [(6, .int .i64 ((64 * n : Nat) : Int))]) (fun n wl => 64 * n ≤ (cS la).length ∧ St X w wl [] [aP.blk b3 261 (kw (fZ (cS la) n)), aP.blk b2 30 (kc (List.replicate 32 0))] [bL v18 (cS la), VW v16 fN, bL a la]) (fun n => (cS la).length - 64 * n) 0 ⟨rfl, trivial⟩ ⟨Nat.zero_le _, H⟩ ?_
 intro n γ0 w6 hI
 try dsimp only at hI
 obtain ⟨hn, H⟩ := hI
 have hS := o5 (cS la) n
 refine WE.seq (WE.aA (WL.mv rfl rfl (WL.mv rfl rfl (WL.pv (PV.dS (H.p 0 rfl) eN rfl) rfl (WL.pv (PV.lss rfl rfl rfl) rfl (WL.nil ?_))))))
 refine WE.cond rfl (fun JO => ?_) (fun JO => ?_)
 ·
  try simp only [bP] at JO
  have hlt : 64 * n + 64 ≤ (cS la).length := by omega
  refine WE.skip (WE.seq (WE.block (WE.aA (WL.mv rfl rfl (WL.mv rfl rfl (WL.mv rfl rfl ?_))))))
  refine WL.pv (PV.eq (v' := .int .i64 ((64 * n + 64 : Nat) : Int)) (PV.bV rfl rfl rfl (by omega) (by omega)) rfl) rfl ?_
  refine WL.pv (PV.aAX rfl (H.p 0 rfl) eN gO rfl rfl rfl (by omega) (by omega)) rfl ?_
  refine WL.call aG2 rfl (IE (la := (((cS la).drop (64 * n)).take 64)) H.aR ((H.bJ 0 rfl).imp fun _ h => by have := bL.sub (lo := 64 * n) (hi := 64 * n + 64) h (by omega) (by omega); rw [show 64 * n + 64 - 64 * n = 64 by omega] at this; exact this) (by simp; omega)) ?_
  rintro v30 w7 ⟨hO, hR⟩
  replace H := (H.out hO).add hR
  refine WL.as rfl rfl (WL.nil (WE.aA ?_))
  refine WL.bE rfl aH6 rfl rfl (aN.aF (H.l 0 rfl) (aK.all _) rfl) (cI K5 (by simp only [aS]; omega)) ?_
  refine WL.alloc H rfl D6 rfl ?_
  intro b8 w8 H
  refine WL.aW H 0 rfl rfl rfl (new := _) rfl (cI K5 (by simp only [aS]; omega)) (uS _) (Laid.at (Laid.all (by simp only [aS]; omega)) rfl) rfl ?_
  intro w9 H
  refine WL.nil (WE.seq (WE.aA (WL.as rfl rfl (WL.nil (WE.block ?_)))))
  have hW : (sched (((cS la).drop (64 * n)).take 64) 48).length = 64 := cQ _ _
  refine WE.loop (α := Nat) (rg [(9, 3), (32, 90)]) (fun i => [(9, .int .i64 i)]) (fun i wl => i ≤ 64 ∧ St X w wl [] [aP.blk b8 261 (kw (iO (sched (((cS la).drop (64 * n)).take 64) 48) (fZ (cS la) n) i)), aP.blk b3 261 (kw (fZ (cS la) n)), aP.blk b2 30 (kc (List.replicate 32 0))] (VW v30 (sched (((cS la).drop (64 * n)).take 64) 48) :: [bL v18 (cS la), VW v16 fN, bL a la])) (fun i => 64 - i) 0 ⟨rfl, trivial⟩ ⟨Nat.zero_le _, H⟩ ?_
  intro i γ1 tX hI
  try dsimp only at hI
  obtain ⟨hi, H⟩ := hI
  have hR := lG (sched (((cS la).drop (64 * n)).take 64) 48) (fZ (cS la) n) hS i
  refine WE.seq (WE.aA (WL.mv rfl rfl (WL.pv (PV.lss rfl rfl rfl) rfl (WL.nil ?_))))
  refine WE.cond rfl (fun wH => ?_) (fun wH => ?_)
  ·
   try simp only [bP] at wH
   have qG : i < 64 := by omega
   refine WE.skip (WE.seq (WE.block ?_))
   refine WE.bG (.take 0 (.take 1 (.take 2 (.take 3 (.take 5 (.take 6 (.take 9 (.take 10 (.take 14 (.take 15 (.take 16 (.take 17 (.take 18 (.take 19 (.take 20 (.take 21 (.take 22 (.take 23 (.take 24 (.take 25 (.take 27 (.take 28 (.take 29 (.take 30 (.take 32 (.take 33 (.take 34 (.take 35 (.aG 4 (.aG 7 (.take 8 (.aG 11 (.take 12 (.take 13 (.take 26 (.take 31 (.take 36 (.take 37 .done)))))))))))))))))))))))))))))))))))))) mixed (by kernel_rfl) ?_
   replace H := H.out (Out.drew _)
   refine WP.aC rfl rfl (PV.bF rfl gB dA rfl rfl (by omega) (by omega)) ?_
   refine WP.aM rfl rfl (RV.aV rfl dU rfl) (aN.aF (H.l 0 rfl) (aK.word 7 (by simp [aJ, aQ, *])) rfl) ?_
   refine WP.aC rfl rfl (PV.bF rfl gB dA rfl rfl (by omega) (by omega)) ?_
   refine WP.aM rfl rfl (RV.aV rfl dU rfl) (aN.aF (H.l 0 rfl) (aK.word 4 (by simp [aJ, aQ, *])) rfl) ?_
   refine WP.aC rfl rfl (PV.bF rfl gB dA rfl rfl (by omega) (by omega)) ?_
   refine WP.aM rfl rfl (RV.aV rfl dU rfl) (aN.aF (H.l 0 rfl) (aK.word 4 (by simp [aJ, aQ, *])) rfl) ?_
   refine WP.aC rfl rfl (PV.bF rfl gB dA rfl rfl (by omega) (by omega)) ?_
   refine WP.aM rfl rfl (RV.aV rfl dU rfl) (aN.aF (H.l 0 rfl) (aK.word 4 (by simp [aJ, aQ, *])) rfl) ?_
   refine WP.aC rfl rfl (PV.bF rfl gB dA rfl rfl (by omega) (by omega)) ?_
   refine WP.aM rfl rfl (RV.aV rfl dU rfl) (aN.aF (H.l 0 rfl) (aK.word 4 (by simp [aJ, aQ, *])) rfl) ?_
   refine WP.aC rfl rfl (PV.bF rfl gB dA rfl rfl (by omega) (by omega)) ?_
   refine WP.aM rfl rfl (RV.aV rfl dU rfl) (aN.aF (H.l 0 rfl) (aK.word 5 (by simp [aJ, aQ, *])) rfl) ?_
   refine WP.aC rfl rfl (PV.rN rfl rfl rfl) (WP.aC rfl rfl (PV.bF rfl gB dA rfl rfl (by omega) (by omega)) ?_)
   refine WP.aM rfl rfl (RV.aV rfl dU rfl) (aN.aF (H.l 0 rfl) (aK.word 4 (by simp [aJ, aQ, *])) rfl) ?_
   refine WP.aC rfl rfl (PV.aEU rfl rfl) (WP.aC rfl rfl (PV.bF rfl gB dA rfl rfl (by omega) (by omega)) ?_)
   refine WP.aM rfl rfl (RV.aV rfl dU rfl) (aN.aF (H.l 0 rfl) (aK.word 6 (by simp [aJ, aQ, *])) rfl) ?_
   refine WP.aC rfl rfl (PV.rN rfl rfl rfl) (WP.aC rfl rfl (PV.j5 rfl rfl rfl) (WP.mv rfl rfl rfl (WP.mv rfl rfl rfl (WP.aC rfl rfl (PV.dX rfl (H.p 2 rfl) xK dA rfl rfl (by omega) (by omega)) (WP.aM rfl rfl (RV.aV rfl dU rfl) (cO.rdw (H.p 2 rfl : VW v16 fN _) i (by omega)) (WP.mv rfl rfl rfl (WP.mv rfl rfl rfl ?_)))))))
   refine WP.aC rfl rfl (PV.dX rfl (H.p 0 rfl) xK dA rfl rfl (by omega) (by omega)) ?_
   refine WP.aM rfl rfl (RV.aV rfl dU rfl) (cO.rdw (H.p 0 rfl : VW v30 (sched (((cS la).drop (64 * n)).take 64) 48) _) i (by omega)) ?_
   refine WP.aG rfl ?_
   refine WL.call rJ rfl (nJ (x := (iO (sched (((cS la).drop (64 * n)).take 64) 48) (fZ (cS la) n) i)[4]'(by rw [hR]; omega)) (n := 6) H.aR (by decide) (by decide)) ?_
   rintro _ xG ⟨rfl, hO⟩
   replace H := H.out hO
   refine WL.nil ⟨(fa (rk hO) (fa (rk hO) (fa (rk hO) (fa (rk hO) (fa (rk hO) (fa (rk hO) (fa (rk hO) (fa (rk hO) (fa (nw 4 3) (fa (rk hO) c8)))))))))), ?_⟩
   refine WP.aG rfl ?_
   refine WL.call rJ rfl (nJ (x := (iO (sched (((cS la).drop (64 * n)).take 64) 48) (fZ (cS la) n) i)[4]'(by rw [hR]; omega)) (n := 11) H.aR (by decide) (by decide)) ?_
   rintro _ HL ⟨rfl, hO⟩
   replace H := H.out hO
   refine WL.nil ⟨(fa (rk hO) (fa (rk hO) (fa (rk hO) (fa (rk hO) (fa (rk hO) (fa (rk hO) (fa (rk hO) (fa (nw 7 6) (fa (nw 7 3) (fa (rk hO) c8)))))))))), ?_⟩
   refine WP.aC rfl rfl (PV.j5 rfl rfl rfl) (WP.aG rfl ?_)
   refine WL.call rJ rfl (nJ (x := (iO (sched (((cS la).drop (64 * n)).take 64) 48) (fZ (cS la) n) i)[4]'(by rw [hR]; omega)) (n := 25) H.aR (by decide) (by decide)) ?_
   rintro _ DW ⟨rfl, hO⟩
   replace H := H.out hO
   refine WL.nil ⟨(fa (rk hO) (fa (rk hO) (fa (rk hO) (fa (rk hO) (fa (rk hO) (fa (rk hO) (fa (nw 11 10) (fa (nw 11 6) (fa (nw 11 3) (fa (rk hO) c8)))))))))), ?_⟩
   refine WP.aC rfl rfl (PV.j5 rfl rfl rfl) (WP.aC rfl rfl (PV.hZ rfl rfl rfl) (WP.aC rfl rfl (PV.hZ rfl rfl rfl) (WP.aC rfl rfl (PV.hZ rfl rfl rfl) (WP.aC rfl rfl (PV.hZ rfl rfl rfl) (WP.as rfl rfl rfl (WP.done ?_))))))
   refine WE.bG (.take 0 (.take 1 (.take 3 (.take 4 (.take 7 (.take 8 (.take 11 (.take 12 (.take 13 (.take 14 (.take 15 (.take 16 (.take 17 (.take 18 (.take 19 (.take 20 (.take 21 (.take 22 (.take 23 (.take 24 (.take 25 (.take 26 (.take 27 (.aG 2 (.aG 5 (.take 6 (.aG 9 (.take 10 (.take 28 (.take 29 .done)))))))))))))))))))))))))))))) mixed (by kernel_rfl) ?_
   replace H := H.out (Out.drew _)
   refine WP.aC rfl rfl (PV.bF rfl gB dA rfl rfl (by omega) (by omega)) ?_
   refine WP.aM rfl rfl (RV.aV rfl dU rfl) (aN.aF (H.l 0 rfl) (aK.word 0 (by simp [aJ, aQ, *])) rfl) ?_
   refine WP.aC rfl rfl (PV.bF rfl gB dA rfl rfl (by omega) (by omega)) ?_
   refine WP.aM rfl rfl (RV.aV rfl dU rfl) (aN.aF (H.l 0 rfl) (aK.word 0 (by simp [aJ, aQ, *])) rfl) ?_
   refine WP.aC rfl rfl (PV.bF rfl gB dA rfl rfl (by omega) (by omega)) ?_
   refine WP.aM rfl rfl (RV.aV rfl dU rfl) (aN.aF (H.l 0 rfl) (aK.word 0 (by simp [aJ, aQ, *])) rfl) ?_
   refine WP.aC rfl rfl (PV.bF rfl gB dA rfl rfl (by omega) (by omega)) ?_
   refine WP.aM rfl rfl (RV.aV rfl dU rfl) (aN.aF (H.l 0 rfl) (aK.word 0 (by simp [aJ, aQ, *])) rfl) ?_
   refine WP.aC rfl rfl (PV.bF rfl gB dA rfl rfl (by omega) (by omega)) ?_
   refine WP.aM rfl rfl (RV.aV rfl dU rfl) (aN.aF (H.l 0 rfl) (aK.word 1 (by simp [aJ, aQ, *])) rfl) ?_
   refine WP.aC rfl rfl (PV.rN rfl rfl rfl) (WP.aC rfl rfl (PV.bF rfl gB dA rfl rfl (by omega) (by omega)) ?_)
   refine WP.aM rfl rfl (RV.aV rfl dU rfl) (aN.aF (H.l 0 rfl) (aK.word 0 (by simp [aJ, aQ, *])) rfl) ?_
   refine WP.aC rfl rfl (PV.bF rfl gB dA rfl rfl (by omega) (by omega)) ?_
   refine WP.aM rfl rfl (RV.aV rfl dU rfl) (aN.aF (H.l 0 rfl) (aK.word 2 (by simp [aJ, aQ, *])) rfl) ?_
   refine WP.aC rfl rfl (PV.rN rfl rfl rfl) (WP.aC rfl rfl (PV.j5 rfl rfl rfl) (WP.aC rfl rfl (PV.bF rfl gB dA rfl rfl (by omega) (by omega)) ?_))
   refine WP.aM rfl rfl (RV.aV rfl dU rfl) (aN.aF (H.l 0 rfl) (aK.word 1 (by simp [aJ, aQ, *])) rfl) ?_
   refine WP.aC rfl rfl (PV.bF rfl gB dA rfl rfl (by omega) (by omega)) ?_
   refine WP.aM rfl rfl (RV.aV rfl dU rfl) (aN.aF (H.l 0 rfl) (aK.word 2 (by simp [aJ, aQ, *])) rfl) ?_
   refine WP.aC rfl rfl (PV.rN rfl rfl rfl) (WP.aC rfl rfl (PV.j5 rfl rfl rfl) (WP.aG rfl ?_))
   refine WL.call rJ rfl (nJ (x := (iO (sched (((cS la).drop (64 * n)).take 64) 48) (fZ (cS la) n) i)[0]'(by rw [hR]; omega)) (n := 2) H.aR (by decide) (by decide)) ?_
   rintro _ H9 ⟨rfl, hO⟩
   replace H := H.out hO
   refine WL.nil ⟨(fa (rk hO) (fa (rk hO) (fa (rk hO) (fa (rk hO) (fa (rk hO) (fa (rk hO) (fa (rk hO) (fa (rk hO) (fa (nw 2 1) c8))))))))), ?_⟩
   refine WP.aG rfl ?_
   refine WL.call rJ rfl (nJ (x := (iO (sched (((cS la).drop (64 * n)).take 64) 48) (fZ (cS la) n) i)[0]'(by rw [hR]; omega)) (n := 13) H.aR (by decide) (by decide)) ?_
   rintro _ ND ⟨rfl, hO⟩
   replace H := H.out hO
   refine WL.nil ⟨(fa (rk hO) (fa (rk hO) (fa (rk hO) (fa (rk hO) (fa (rk hO) (fa (rk hO) (fa (rk hO) (fa (nw 5 4) (fa (nw 5 1) c8))))))))), ?_⟩
   refine WP.aC rfl rfl (PV.j5 rfl rfl rfl) (WP.aG rfl ?_)
   refine WL.call rJ rfl (nJ (x := (iO (sched (((cS la).drop (64 * n)).take 64) 48) (fZ (cS la) n) i)[0]'(by rw [hR]; omega)) (n := 22) H.aR (by decide) (by decide)) ?_
   rintro _ QL ⟨rfl, hO⟩
   replace H := H.out hO
   refine WL.nil ⟨(fa (rk hO) (fa (rk hO) (fa (rk hO) (fa (rk hO) (fa (rk hO) (fa (rk hO) (fa (nw 9 8) (fa (nw 9 4) (fa (nw 9 1) c8))))))))), ?_⟩
   refine WP.aC rfl rfl (PV.j5 rfl rfl rfl) (WP.aC rfl rfl (PV.hZ rfl rfl rfl) (WP.as rfl rfl rfl (WP.done (WE.dW (WL.mv rfl rfl (WL.mv rfl rfl (WL.pv (PV.hZ rfl rfl rfl) rfl ?_)))))))
   refine WL.pv (PV.bF rfl gB dA rfl rfl (by omega) (by omega)) rfl ?_
   refine WL.aX rfl dU rfl rfl (aN.aF (H.l 0 rfl) (aK.word 0 (by simp [aJ, aQ, *])) rfl) ?_
   refine WL.pv (PV.bF rfl gB dA rfl rfl (by omega) (by omega)) rfl ?_
   refine WL.aX rfl dU rfl rfl (aN.aF (H.l 0 rfl) (aK.word 1 (by simp [aJ, aQ, *])) rfl) ?_
   refine WL.pv (PV.bF rfl gB dA rfl rfl (by omega) (by omega)) rfl ?_
   refine WL.aX rfl dU rfl rfl (aN.aF (H.l 0 rfl) (aK.word 2 (by simp [aJ, aQ, *])) rfl) ?_
   refine WL.pv (PV.bF rfl gB dA rfl rfl (by omega) (by omega)) rfl ?_
   refine WL.aX rfl dU rfl rfl (aN.aF (H.l 0 rfl) (aK.word 3 (by simp [aJ, aQ, *])) rfl) ?_
   refine WL.mv rfl rfl (WL.pv (PV.hZ rfl rfl rfl) rfl (WL.pv (PV.bF rfl gB dA rfl rfl (by omega) (by omega)) rfl ?_))
   refine WL.aX rfl dU rfl rfl (aN.aF (H.l 0 rfl) (aK.word 4 (by simp [aJ, aQ, *])) rfl) ?_
   refine WL.pv (PV.bF rfl gB dA rfl rfl (by omega) (by omega)) rfl ?_
   refine WL.aX rfl dU rfl rfl (aN.aF (H.l 0 rfl) (aK.word 5 (by simp [aJ, aQ, *])) rfl) ?_
   refine WL.pv (PV.bF rfl gB dA rfl rfl (by omega) (by omega)) rfl ?_
   refine WL.aX rfl dU rfl rfl (aN.aF (H.l 0 rfl) (aK.word 6 (by simp [aJ, aQ, *])) rfl) ?_
   refine WL.pv (PV.lY rfl gB dA D6 (Fl.cons rfl rfl (by simp only [aS]) (Laid.fG 0 (by simp only [aS]; omega)) (Fl.cons rfl rfl (by simp only [aS]) (Laid.fG 1 (by simp [aJ, aQ, *])) (Fl.cons rfl rfl (by simp only [aS]) (Laid.fG 2 (by simp [aJ, aQ, *])) (Fl.cons rfl rfl (by simp only [aS]) (Laid.fG 3 (by simp [aJ, aQ, *])) (Fl.cons rfl rfl (by simp only [aS]) (Laid.fG 4 (by simp [aJ, aQ, *])) (Fl.cons rfl rfl (by simp only [aS]) (Laid.fG 5 (by simp [aJ, aQ, *])) (Fl.cons rfl rfl (by simp only [aS]) (Laid.fG 6 (by simp [aJ, aQ, *])) (Fl.cons rfl rfl (by simp only [aS]) (Laid.fG 7 (by simp [aJ, aQ, *])) Fl.nil))))))))) rfl ?_
   refine WL.aW H 0 rfl rfl rfl (new := _) rfl (by exact K5) (uS _) (Laid.at (Laid.all (by (simp [aJ, aQ]; omega))) rfl) rfl ?_
   intro QK H
   refine WL.nil (WE.dW (WL.mv rfl rfl (WL.pv (PV.bV rfl rfl rfl (by omega) (by omega)) rfl (WL.as rfl rfl (WL.nil ?_)))))
   have e := NO (sched (((cS la).drop (64 * n)).take 64) 48) (fZ (cS la) n) hS i qG (by omega)
   rw [aCf _ hR] at e
   exact ⟨i + 1, (by repeat (first | with_reducible exact bK.refl _ _ | refine bK.dG rfl ?_ | refine bK.bZ rfl ?_ | refine bK.bX rfl ?_)), ⟨rfl, trivial⟩, rfl, ⟨by omega, H.conv (by rw [e]; rfl)⟩, (by omega)⟩
  ·
   try simp only [bP] at wH
   obtain rfl : i = 64 := by omega
   refine WE.exit (WE.aA (WL.as rfl rfl (WL.nil (WE.block ?_))))
   refine WE.loop (α := Nat) (rg [(12, 1), (122, 12)]) (fun i => [(12, .int .i64 i)]) (fun i wl => i ≤ 8 ∧ St X w wl [] [aP.blk b8 261 (kw (iO (sched (((cS la).drop (64 * n)).take 64) 48) (fZ (cS la) n) 64)), aP.blk b3 261 (kw (mA (fZ (cS la) n) (iO (sched (((cS la).drop (64 * n)).take 64) 48) (fZ (cS la) n) 64) i)), aP.blk b2 30 (kc (List.replicate 32 0))] (VW v30 (sched (((cS la).drop (64 * n)).take 64) 48) :: [bL v18 (cS la), VW v16 fN, bL a la])) (fun i => 8 - i) 0 ⟨rfl, trivial⟩ ⟨Nat.zero_le _, by rw [zC _ _ hS]; exact H⟩ ?_
   intro i γ2 QJ hI
   try dsimp only at hI
   obtain ⟨hi, H⟩ := hI
   have HU := lG (sched (((cS la).drop (64 * n)).take 64) 48) (fZ (cS la) n) hS 64
   refine WE.seq (WE.aA (WL.mv rfl rfl (WL.pv (PV.lss rfl rfl rfl) rfl (WL.nil ?_))))
   refine WE.cond rfl (fun TR => ?_) (fun TR => ?_)
   ·
    try simp only [bP] at TR
    have hlt3 : i < 8 := by omega
    refine WE.skip (WE.seq (WE.block ?_))
    refine WE.draw (.take 0 (.take 1 (.take 2 (.take 3 (.take 4 (.take 5 (.take 6 (.take 7 (.aG 8 .done))))))))) mixed (by kernel_rfl) ?_
    replace H := H.out (Out.drew _)
    refine WP.mv rfl rfl rfl (WP.aC rfl rfl (PV.bF rfl gB dA rfl rfl (by omega) (by omega)) ?_)
    refine WP.aM rfl rfl (RV.aV rfl dU rfl) (aN.aF (H.l 1 rfl) (aK.word i (by simp [fL, *])) (by simp)) ?_
    refine WP.mv rfl rfl rfl (WP.aC rfl rfl (PV.bF rfl gB dA rfl rfl (by omega) (by omega)) ?_)
    refine WP.aM rfl rfl (RV.aV rfl dU rfl) (aN.aF (H.l 0 rfl) (aK.word i (by simp [fL, *])) (by simp)) ?_
    refine WP.aC rfl rfl (PV.hZ rfl rfl rfl) (WP.aC rfl rfl (PV.bF rfl gB dA rfl rfl (by omega) (by omega)) (WP.aG rfl ?_))
    refine WL.aW H 1 rfl rfl rfl (new := _) rfl (by exact dA) (bB _ rfl) (Laid.at (Laid.fG i (by simp [fL, *])) (by simp)) rfl ?_
    intro w19 H
    refine WL.nil ⟨(fa (nw 8 5) (fa (nw 8 2) c8)), ?_⟩
    refine WP.done (WE.dW (WL.mv rfl rfl (WL.pv (PV.bV rfl rfl rfl (by omega) (by omega)) rfl (WL.as rfl rfl (WL.nil ?_)))))
    have e := B5 (fZ (cS la) n) (iO (sched (((cS la).drop (64 * n)).take 64) 48) (fZ (cS la) n) 64) i hS HU hlt3
    exact ⟨i + 1, (by repeat (first | with_reducible exact bK.refl _ _ | refine bK.dG rfl ?_ | refine bK.bZ rfl ?_ | refine bK.bX rfl ?_)), ⟨rfl, trivial⟩, rfl, ⟨by omega, H.conv (by rw [← e]; rfl)⟩, (by omega)⟩
   ·
    try simp only [bP] at TR
    obtain rfl : i = 8 := by omega
    refine WE.exit (WE.dW (WL.mv rfl rfl (WL.pv (PV.bV rfl rfl rfl (by omega) (by omega)) rfl (WL.as rfl rfl (WL.nil ?_)))))
    replace H := H.forget 0
    replace H := H.drop (fun p hp => List.mem_cons_of_mem _ hp)
    exact ⟨n + 1, (by repeat (first | with_reducible exact bK.refl _ _ | refine bK.dG rfl ?_ | refine bK.bZ rfl ?_ | refine bK.bX rfl ?_)), ⟨rfl, trivial⟩, rfl, ⟨by omega, H⟩, (by omega)⟩
 ·
  try simp only [bP] at JO
  have hge : n = (cS la).length / 64 := by omega
  refine WE.exit (WE.aA ?_)
  refine WL.alloc H rfl lB rfl ?_
  intro b13 w20 H
  refine WL.nil (WE.seq (WE.aA (WL.as rfl rfl (WL.nil (WE.block ?_)))))
  refine WE.loop (α := Nat) (rg [(14, 1), (134, 17)]) (fun i => [(14, .int .i64 i)]) (fun i wl => i ≤ 32 ∧ St X w wl [] [aP.blk b13 30 (kc (qJ 32 i (oB (fZ (cS la) n)))), aP.blk b3 261 (kw (fZ (cS la) n)), aP.blk b2 30 (kc (List.replicate 32 0))] [bL v18 (cS la), VW v16 fN, bL a la]) (fun i => 32 - i) 0 ⟨rfl, trivial⟩ ⟨Nat.zero_le _, by rw [yO]; exact H⟩ ?_
  intro i γ3 w21 hI
  try dsimp only at hI
  obtain ⟨hi, H⟩ := hI
  refine WE.seq (WE.aA (WL.mv rfl rfl (WL.pv (PV.lss rfl rfl rfl) rfl (WL.nil ?_))))
  refine WE.cond rfl (fun TQ => ?_) (fun TQ => ?_)
  ·
   try simp only [bP] at TQ
   have JJ : i < 32 := by omega
   refine WE.skip (WE.seq (WE.block (WE.dW (WL.mv rfl rfl (WL.mv rfl rfl ?_)))))
   refine WL.pv (PV.eq (v' := .int .i64 ((i / 4 : Nat) : Int)) (PV.qC rfl rfl rfl (by omega) (by omega) (by omega)) rfl) rfl ?_
   refine WL.pv (PV.bF rfl gB dA rfl rfl (by omega) (by omega)) rfl ?_
   refine WL.aX rfl dU rfl rfl (aN.aF (H.l 1 rfl) (aK.word (i / 4) (by rw [hS]; omega)) (by omega)) ?_
   refine WL.mv rfl rfl (WL.pv (PV.eq (v' := .int .i64 ((i % 4 : Nat) : Int)) (PV.qB rfl rfl rfl (by omega) (by omega)) rfl) rfl ?_)
   refine WL.pv (PV.eq (v' := .int .i64 ((8 * (i % 4) : Nat) : Int)) (PV.mL rfl rfl rfl (by omega) (by omega)) rfl) rfl ?_
   refine WL.pv (PV.eq (v' := .int .i64 ((24 - 8 * (i % 4) : Nat) : Int)) (PV.gE rfl rfl rfl (by omega) (by omega)) (by (congr 1; omega))) rfl ?_
   refine WL.pv (PV.BT (n := 24 - 8 * (i % 4)) rfl tE AA rfl rfl (by omega)) rfl (WL.pv (PV.vJ (n := 24 - 8 * (i % 4)) rfl rfl rfl (by omega)) rfl (WL.pv (PV.aBM rfl vP mM rfl) rfl (WL.pv (PV.bF rfl pN gO rfl rfl (by omega) (by omega)) rfl ?_)))
   refine WL.aW H 0 rfl rfl rfl (new := _) rfl (by exact gO) (bB _ rfl) (Laid.at (Laid.tQ i (by rw [tN (by omega) (by rw [jJ]; omega)]; omega)) (by simp)) rfl ?_
   intro w22 H
   refine WL.nil (WE.dW (WL.mv rfl rfl (WL.pv (PV.bV rfl rfl rfl (by omega) (by omega)) rfl (WL.as rfl rfl (WL.nil ?_)))))
   have e := BJ (m := 32) (k := i) (l := oB (fZ (cS la) n)) (by omega) (by rw [jJ]; omega)
   rw [A2 _ _ _ (by rw [hS]; omega)] at e
   exact ⟨i + 1, (by repeat (first | with_reducible exact bK.refl _ _ | refine bK.dG rfl ?_ | refine bK.bZ rfl ?_ | refine bK.bX rfl ?_)), ⟨rfl, trivial⟩, rfl, ⟨by omega, H.conv (by rw [← e]; rfl)⟩, (by omega)⟩
  ·
   try simp only [bP] at TQ
   obtain rfl : i = 32 := by omega
   refine WE.exit (WE.aA ?_)
   have e32 := BK (m := 32) (l := oB (fZ (cS la) n)) (jJ _)
   rw [e32] at H
   refine WL.bE rfl fS rfl rfl (aN.aF (H.l 0 rfl) (aK.all _) rfl) (by exact dH) ?_
   refine WL.aW H 2 rfl rfl rfl (new := _) rfl (by exact dH) (bH _) (Laid.at (Laid.all rfl) rfl) rfl ?_
   intro w23 H
   refine WL.nil (WE.ret ⟨[_], _, .nil _, ⟨⟨_, rfl, aU fS (aN.aF (H.l 2 rfl) (aK.all _) rfl) (by exact dH)⟩, trivial⟩, ?_⟩)
   subst hge
   exact ⟨rfl, H.aL⟩
theorem aHK (e f g : UInt32) : g ^^^ (e &&& (f ^^^ g)) = (e &&& f) ^^^ (~~~e &&& g) := by
 apply UInt32.toBitVec_inj.1
 apply BitVec.eq_of_getLsbD_eq
 intro i hi
 simp [hi]
 generalize e.toBitVec[i] = p
 generalize f.toBitVec[i] = q
 generalize g.toBitVec[i] = r
 revert p q r; decide
theorem aCy (a b c : UInt32) : (a &&& b) ||| (c &&& (a ||| b)) = ((a &&& b) ^^^ (a &&& c)) ^^^ (b &&& c) := by
 apply UInt32.toBitVec_inj.1
 apply BitVec.eq_of_getLsbD_eq
 intro i hi
 simp [hi]
 generalize a.toBitVec[i] = p
 generalize b.toBitVec[i] = q
 generalize c.toBitVec[i] = r
 revert p q r; decide
theorem LA (x : UInt32) (m n : Nat) : kT x [m, n] = lS x m ^^^ lS x n := by simp [kT]
theorem K9 (x : UInt32) (l m n : Nat) : kT x [l, m, n] = (lS x l ^^^ lS x m) ^^^ lS x n := by simp [kT]
def iX (i j : Nat) : Nat := max i 16 - 1 - ((max i 16 - 1 - j) % 16)
def win (W : List UInt32) (i : Nat) : List UInt32 := (List.range 16).map fun j => W.getD (iX i j) 0
theorem jZ (W : List UInt32) (i : Nat) : (win W i).length = 16 := by simp [win]
theorem KY (W : List UInt32) (i j m : Nat) (hj : j < (win W i).length) (hm : iX i j = m) (h : m < W.length) : (win W i)[j] = W[m] := by
 subst hm
 simp [win, h]
theorem XE (W : List UInt32) (i : Nat) (hi : 16 ≤ i) (h : i < W.length) : (win W i).set (i % 16) W[i] = win W (i + 1) := by
 apply List.ext_getElem
 ·
  simp [win]
 ·
  intro j h1 h2
  rw [jZ] at h2
  rw [List.getElem_set]
  by_cases hj : i % 16 = j
  ·
   rw [if_pos hj]
   rw [KY W (i + 1) j i _ (by unfold iX; omega) h]
  ·
   rw [if_neg hj]
   simp only [win, List.getElem_map, List.getElem_range]
   congr 1
   unfold iX
   omega
theorem M8 (W : List UInt32) (i : Nat) (hi : i < 16) : win W (i + 1) = win W i := by
 unfold win
 apply List.map_congr_left
 intro j _
 congr 1
 unfold iX
 omega
theorem VP (a b c d : UInt32) : ((((0 <<< UInt32.ofNat 8 ||| a) <<< UInt32.ofNat 8 ||| b) <<< UInt32.ofNat 8 ||| c) <<< UInt32.ofNat 8 ||| d) =
  ((a <<< UInt32.ofNat 24 ||| b <<< UInt32.ofNat 16) ||| c <<< UInt32.ofNat 8) ||| d := by
 have h : ∀ x : UInt32, ∀ m n : Nat, m + n < 32 → (x <<< UInt32.ofNat m) <<< UInt32.ofNat n = x <<< UInt32.ofNat (m + n) := by
  intro x m n hmn
  apply UInt32.toNat_inj.1
  rw [UInt32.toNat_shiftLeft, UInt32.toNat_shiftLeft, UInt32.toNat_shiftLeft, toNat_ofNat32 (by omega), toNat_ofNat32 (by omega), toNat_ofNat32 hmn]
  rw [Nat.shiftLeft_add]
  simp only [Nat.shiftLeft_eq]
  rw [Nat.mod_mul_mod]
 have ho : ∀ x y : UInt32, (x ||| y) <<< UInt32.ofNat 8 = x <<< UInt32.ofNat 8 ||| y <<< UInt32.ofNat 8 := by
  intro x y
  apply UInt32.toNat_inj.1
  simp only [UInt32.toNat_shiftLeft, UInt32.toNat_or, toNat_ofNat32 (show 8 < 32 by omega)]
  rw [Nat.shiftLeft_or_distrib, Nat.or_mod_two_pow]
 have h0 : (0 : UInt32) <<< UInt32.ofNat 8 = 0 := by decide
 simp only [h0, ho, h _ 8 8 (by omega), h _ 16 8 (by omega), UInt32.zero_or]
def oV (b : List UInt8) (i : Nat) : List UInt32 := (List.range 16).map fun j => if j < i then word b j else 0
def PI (b : List UInt8) (i : Nat) : Nat → UInt32
 | 0 => 0
 | j + 1 => PI b i j <<< UInt32.ofNat 8 ||| (b.getD (4 * i + j) 0).toUInt32
theorem PH (b : List UInt8) (i : Nat) : PI b i 4 = word b i := by
 simp only [PI, word, Nat.add_zero]
 exact VP _ _ _ _
theorem lD (b : List UInt8) (i : Nat) : (oV b i).length = 16 := by simp [oV]
theorem M9 (b : List UInt8) : oV b 0 = List.replicate 16 0 := by simp [oV]; rfl
theorem NA (b : List UInt8) (i : Nat) (hi : i < 16) : (oV b i).set i 0 = oV b i := by
 apply List.ext_getElem
 ·
  simp
 ·
  intro j h1 h2
  rw [List.getElem_set]
  split
  ·
   rename_i h; subst h; simp [oV]
  ·
   rfl
theorem QI (b : List UInt8) (i : Nat) (hi : i < 16) : (oV b i).set i (word b i) = oV b (i + 1) := by
 apply List.ext_getElem
 ·
  simp [oV]
 ·
  intro j h1 h2
  rw [lD] at h2
  rw [List.getElem_set]
  split
  ·
   rename_i h; subst h; simp [oV]
  ·
   rename_i h
   simp only [oV, List.getElem_map, List.getElem_range]
   by_cases h3 : j < i
   ·
    rw [if_pos h3, if_pos (by omega)]
   ·
    rw [if_neg h3, if_neg (by omega)]
theorem T0 {α : Type} {l m : List α} {d : α} {i : Nat} (h : i < l.length) : (l ++ m).getD i d = l.getD i d := by simp [List.getD, List.getElem?_append_left h]
theorem TZ {α : Type} (l : List α) (x d : α) : (l ++ [x]).getD l.length d = x := by simp [List.getD]
theorem jH (b : List UInt8) (k i : Nat) (hi : i < 16 + k) : ∀ m, k ≤ m → (sched b m).getD i 0 = (sched b k).getD i 0 := by
  intro m hm
  induction m with
  | zero => obtain rfl : k = 0 := by omega
            rfl
  | succ m ih =>
    by_cases h : k = m + 1
    · subst h; rfl
    · rw [← ih (by omega)]
      have hl := cQ b m
      show (ext (sched b m)).getD i 0 = _
      unfold ext
      rw [T0 (by omega)]
theorem CE (b : List UInt8) (i : Nat) (h : 16 ≤ i) (h2 : i < 64) : (sched b 48).getD i 0 =
  (((sched b 48).getD (i - 16) 0 + sg0 ((sched b 48).getD (i - 15) 0)) + (sched b 48).getD (i - 7) 0) + sg1 ((sched b 48).getD (i - 2) 0) := by
 have hl := cQ b (i - 16)
 rw [jH b (i - 16 + 1) i (by omega) 48 (by omega), jH b (i - 16) (i - 16) (by omega) 48 (by omega), jH b (i - 16) (i - 15) (by omega) 48 (by omega),
  jH b (i - 16) (i - 7) (by omega) 48 (by omega), jH b (i - 16) (i - 2) (by omega) 48 (by omega)]
 show (ext (sched b (i - 16))).getD i 0 = _
 unfold ext
 rw [hl, show 16 + (i - 16) - 16 = i - 16 by omega, show 16 + (i - 16) - 15 = i - 15 by omega, show 16 + (i - 16) - 7 = i - 7 by omega, show 16 + (i - 16) - 2 = i - 2 by omega]
 have e : ∀ x : UInt32, (sched b (i - 16) ++ [x]).getD i 0 = x := fun x => by
  have h3 := TZ (sched b (i - 16)) x 0
  rwa [show (sched b (i - 16)).length = i by omega] at h3
 exact e _
theorem aB7 (R : List UInt32) (k w : UInt32) : (((R.getD 7 0 + kT (R.getD 4 0) [6, 11, 25]) + (R.getD 6 0 ^^^ (R.getD 4 0 &&& (R.getD 5 0 ^^^ R.getD 6 0)))) + k) + w = t1f R k w := by
 rw [t1f, K9, aHK]
theorem aB9 (R : List UInt32) (t : UInt32) : (t + kT (R.getD 0 0) [2, 13, 22]) + ((R.getD 0 0 &&& R.getD 1 0) ||| (R.getD 2 0 &&& (R.getD 0 0 ||| R.getD 1 0))) = t + t2f R := by
 rw [t2f, K9, aCy, UInt32.add_assoc]
theorem IB (a x y z : UInt32) : a + (((kT x [7, 18] ^^^ (x >>> UInt32.ofNat 3)) + z) + (kT y [17, 19] ^^^ (y >>> UInt32.ofNat 10))) = ((a + sg0 x) + z) + sg1 y := by
 rw [sg0, sg1, LA, LA, UInt32.add_assoc, UInt32.add_assoc]
 simp only [UInt32.add_assoc]
theorem kw8 (R : List UInt32) (h : R.length = 8) : [Value.int .u32 ((R.getD 0 0).toNat : Int), .int .u32 ((R.getD 1 0).toNat : Int), .int .u32 ((R.getD 2 0).toNat : Int), .int .u32 ((R.getD 3 0).toNat : Int),
  .int .u32 ((R.getD 4 0).toNat : Int), .int .u32 ((R.getD 5 0).toNat : Int), .int .u32 ((R.getD 6 0).toNat : Int), .int .u32 ((R.getD 7 0).toNat : Int)] = kw R := by
 match R, h with
 | [a, b, c, d, e, f, g, i], _ => rfl
theorem YT (l : List UInt32) (i : Nat) (h : i < l.length) : (kw l)[i]? = some (.int .u32 ((l.getD i 0).toNat : Int)) := by
 simp [kw, h]
theorem D9 (W : List UInt32) (i j m : Nat) (hj : j < 16) (hm : iX i j = m) (h : m < W.length) : (win W i)[j]'(by rw [jZ]; exact hj) = W.getD m 0 := by
 rw [KY W i j m _ hm h, fD h]
theorem D4.cA {w : World} {b n : Nat} {e : TypeId} {l : List Nat} (h : aN w b e (l.map fun (n : Nat) => Value.int .i64 (n : Int))) (hn : l.length = n) : D4 (.slice (some ⟨b, 0, none⟩) n n) l w :=
 kN.cA h (by simpa using hn)
theorem QH (b : List UInt8) : oV b 16 = win (sched b 48) 0 := by
 apply List.ext_getElem
 ·
  rw [lD, jZ]
 ·
  intro j h1 h2
  rw [lD] at h1
  rw [D9 (sched b 48) 0 j j h1 (by unfold iX; omega) (by rw [cQ]; omega), jH b 0 j (by omega) 48 (by omega)]
  simp [oV, sched, h1]
theorem aN.l3 {w : World} {b o : Nat} {t : TypeId} {W : List UInt32} {i : Nat} (h : aN w b t (kw (win W i))) (j m : Nat) (hj : j < 16) (ho : o = j) (hm : iX i j = m) (hW : m < W.length) : dD w ⟨b, o, none⟩ [.int .u32 ((W.getD m 0).toNat : Int)] := by
 have h1 := aN.aF h (aK.word j (by rw [jZ]; exact hj)) ho
 rwa [D9 W i j m hj hm hW] at h1
theorem xE (W : List UInt32) (i : Nat) (hi : 16 ≤ i) (h : i < W.length) : (win W i).set (i % 16) (W.getD i 0) = win W (i + 1) := by
 rw [fD h]; exact XE W i hi h
theorem aCz (l : List UInt32) (i : Nat) (h : i < l.length) : (kw l)[i]? = some (.int .u32 (l[i].toNat : Int)) := by simp [kw, h]
theorem bL.aEI {w : World} {v : Value} {l : List UInt8} {lo hi : Nat} (h : bL (jO v 1 lo hi) ((l.drop lo).take (hi - lo)) w) (j : Nat) (hj : j < hi - lo) (hl : hi ≤ l.length) : dD w (jS (jO v 1 lo hi) (j * 1)) [.int .u8 ((l.getD (lo + j) 0).toNat : Int)] := by
 have h1 := bL.rd h j (by simp; omega)
 have e : ((l.drop lo).take (hi - lo))[j]'(by simp; omega) = l.getD (lo + j) 0 := by
  rw [fD (by omega)]; simp
 rwa [e] at h1
theorem aN.rdD {w : World} {b o : Nat} {t : TypeId} {l : List UInt32} (h : aN w b t (kw l)) (i : Nat) (hi : i < l.length) (ho : o = i) : dD w ⟨b, o, none⟩ [.int .u32 ((l.getD i 0).toNat : Int)] := by
 have h1 := aN.aF h (aK.word i hi) ho
 rwa [← fD (d := 0)] at h1
def aZ (w : World) : Prop := dD w ⟨1, 0, none⟩ (kw fN)
theorem aB8 {X : Nat → Prop} {w : World} {b : Nat} {s : List UInt32} {a : Value} {la : List UInt8} (hX : c6 X w) (fA : aN w b 266 (kw s)) (bT : aH (fun c_ => X c_ ∨ c_ = b) (bL a la) w) (dJ : aH (fun c_ => X c_ ∨ c_ = b) (aZ) w) (rY : la.length = 64) (hs : s.length = 8) :
  bC prog 160 [.pointer (some ⟨b, 0, none⟩), a].toArray w fun v w' => v = .tuple #[] ∧ Out (· = b) w w' ∧ aN w' b 266 (kw (comp s la)) := by
 refine bC.aI (N := 192) func160 rfl rfl (by simp) ?_
 have H := ((St.dK (b := b) (t := 266) (l := kw s) hX fA).add (cC dJ)).add (cC bT)
 have hWl : (sched la 48).length = 64 := cQ _ _
 refine WE.aA ?_
 refine WL.alloc H rfl aD2 rfl ?_
 intro b4 w1 H
 refine WL.nil (WE.seq (WE.aA (WL.mv rfl rfl ?_)))
 replace H := H.conv (L' := [aP.blk b4 301 (kw (oV la 0))]) (by rw [M9])
 refine WL.nil (WE.block ?_)
 refine WE.loop (α := Nat) (rg [(5, 1), (7, 1), (24, 26)]) (fun i => [(24, .int .i64 i)]) (fun i wl => i ≤ 16 ∧ St X w wl [aP.blk b 266 (kw s)] [aP.blk b4 301 (kw (oV la i))] [bL a la, aZ]) (fun i => 16 - i) 0 ⟨rfl, trivial⟩ ⟨Nat.zero_le _, H⟩ ?_
 intro i γ0 w2 hI
 try dsimp only at hI
 obtain ⟨hi, H⟩ := hI
 refine WE.aA (WL.pv (PV.lss rfl rfl rfl) rfl (WL.nil (WE.seq ?_)))
 refine WE.cond rfl (fun rZ => ?_) (fun rZ => ?_)
 ·
  try simp only [bP] at rZ
  have hlt : i < 16 := by omega
  refine WE.skip (WE.seq (WE.block (WE.aA (WL.mv rfl rfl (WL.as rfl rfl (WL.nil (WE.aA ?_)))))))
  refine WL.mv rfl rfl (WL.mv rfl rfl (WL.pv (PV.mL rfl rfl rfl (by omega) (by omega)) rfl (WL.mv rfl rfl (WL.pv (PV.mL rfl rfl rfl (by omega) (by omega)) rfl (WL.pv (PV.bV rfl rfl rfl (by omega) (by omega)) rfl ?_)))))
  refine WL.pv (PV.eq (v' := jO a 1 (4 * i) (4 * i + 4)) (PV.aAX rfl (H.p 0 rfl) eN gO rfl rfl rfl (by omega) (by omega)) (by congr 1 <;> omega)) rfl ?_
  replace H := H.add ((H.bJ 0 rfl).imp fun _ h => bL.sub (lo := 4 * i) (hi := 4 * i + 4) h (by omega) (by omega))
  refine WL.pv (PV.eq (v' := .int .i64 4) (PV.dS (H.p 0 rfl) eN rfl) (by simp; omega)) rfl ?_
  refine WL.mv rfl rfl (WL.nil (WE.block ?_))
  refine WE.loop (α := Nat) (rg [(7, 1), (35, 14)]) (fun j => [(35, .int .i64 j)]) (fun j wl => j ≤ 4 ∧ St X w wl [aP.blk b 266 (kw s)] [aP.blk b4 301 (kw ((oV la i).set i (PI la i j)))] [bL (jO a 1 (4 * i) (4 * i + 4)) ((la.drop (4 * i)).take (4 * i + 4 - 4 * i)), bL a la, aZ]) (fun j => 4 - j) 0 ⟨rfl, trivial⟩ ⟨Nat.zero_le _, H.conv (by rw [show PI la i 0 = 0 from rfl, NA _ _ hlt])⟩ ?_
  intro j γ1 w3 hI
  try dsimp only at hI
  obtain ⟨hj, H⟩ := hI
  refine WE.aA (WL.pv (PV.lss rfl rfl rfl) rfl (WL.nil (WE.seq ?_)))
  refine WE.cond rfl (fun pE => ?_) (fun pE => ?_)
  ·
   try simp only [bP] at pE
   have hj4 : j < 4 := by omega
   refine WE.skip (WE.seq (WE.block (WE.aA ?_)))
   refine WL.pv (PV.dX rfl (H.p 0 rfl) eN gO rfl rfl (by omega) (by simp; omega)) rfl ?_
   refine WL.aX rfl vD rfl rfl (bL.aEI (H.p 0 rfl) j (by omega) (by omega)) (WL.as rfl rfl (WL.nil (WE.dW (WL.mv rfl rfl (WL.mv rfl rfl (WL.pv (PV.bF rfl rM dA rfl rfl (by omega) (by omega)) rfl ?_))))))
   refine WL.aX rfl dU rfl rfl (by have h1 := aN.aF (o' := 0 + (i : Int).toNat * 1) (H.l 0 rfl) (aK.word i (by simp [lD]; omega)) (by omega); rw [List.getElem_set_self] at h1; exact h1) ?_
   refine WL.pv (PV.AU (n := 8) rfl rfl rfl (by omega)) rfl (WL.mv rfl rfl (WL.pv (PV.GL rfl mM vP rfl) rfl (WL.pv (PV.E2 rfl rfl rfl) rfl (WL.pv (PV.bF rfl rM dA rfl rfl (by omega) (by omega)) rfl ?_))))
   refine WL.aW H 0 rfl rfl rfl (new := _) rfl (by exact dA) (bB _ rfl) (Laid.at (Laid.fG i (by simp [lD]; omega)) (by simp)) rfl ?_
   intro w4 H
   refine WL.nil (WE.dW (WL.pv (PV.bV rfl rfl rfl (by omega) (by omega)) rfl (WL.mv rfl rfl (WL.nil ?_))))
   replace H := H.conv (L' := [aP.blk b4 301 (kw ((oV la i).set i (PI la i (j + 1))))]) (by rw [List.set_set]; rfl)
   exact ⟨j + 1, (by repeat (first | with_reducible exact bK.refl _ _ | refine bK.dG rfl ?_ | refine bK.bZ rfl ?_ | refine bK.bX rfl ?_)), ⟨rfl, trivial⟩, rfl, ⟨by omega, H⟩, (by omega)⟩
  ·
   try simp only [bP] at pE
   obtain rfl : j = 4 := by omega
   refine WE.exit (WE.dW (WL.pv (PV.bV rfl rfl rfl (by omega) (by omega)) rfl (WL.mv rfl rfl (WL.nil ?_))))
   replace H := H.conv (L' := [aP.blk b4 301 (kw (oV la (i + 1)))]) (by rw [PH, QI _ _ hlt])
   replace H := H.drop (fun p hp => List.mem_cons_of_mem _ hp)
   exact ⟨i + 1, (by repeat (first | with_reducible exact bK.refl _ _ | refine bK.dG rfl ?_ | refine bK.bZ rfl ?_ | refine bK.bX rfl ?_)), ⟨rfl, trivial⟩, rfl, ⟨by omega, H⟩, (by omega)⟩
 ·
  try simp only [bP] at rZ
  obtain rfl : i = 16 := by omega
  refine WE.exit ?_
  refine WE.bG (.take 0 (.take 1 (.take 2 (.take 3 (.take 4 (.take 5 (.take 6 (.take 7 (.take 8 (.take 9 (.take 10 (.take 11 (.take 12 (.take 13 (.take 14 (.take 15 (.take 16 (.take 17 (.take 18 (.take 19 (.take 20 (.take 21 (.take 22 (.take 23 (.take 24 (.take 25 (.take 26 (.take 27 (.take 28 (.take 29 (.take 30 (.take 31 (.take 32 (.take 33 (.take 34 (.take 35 (.take 36 (.take 37 (.take 38 (.take 39 .done)))))))))))))))))))))))))))))))))))))))) mixed (by kernel_rfl) ?_
  replace H := H.out (Out.drew _)
  refine WP.mv rfl rfl rfl (WP.aC rfl rfl (PV.nilCheck rfl rfl) (WP.aC rfl rfl (PV.bF rfl pU dA rfl rfl (by omega) (by omega)) (WP.aM rfl rfl (RV.aV rfl dU rfl) (aN.rdD (H.o 0 rfl) 0 (by omega) rfl) (WP.mv rfl rfl rfl (WP.aC rfl rfl (PV.nilCheck rfl rfl) (WP.aC rfl rfl (PV.bF rfl pU dA rfl rfl (by omega) (by omega)) (WP.aM rfl rfl (RV.aV rfl dU rfl) (aN.rdD (H.o 0 rfl) 1 (by omega) rfl) ?_)))))))
  refine WP.mv rfl rfl rfl (WP.aC rfl rfl (PV.nilCheck rfl rfl) (WP.aC rfl rfl (PV.bF rfl pU dA rfl rfl (by omega) (by omega)) (WP.aM rfl rfl (RV.aV rfl dU rfl) (aN.rdD (H.o 0 rfl) 2 (by omega) rfl) (WP.mv rfl rfl rfl (WP.aC rfl rfl (PV.nilCheck rfl rfl) (WP.aC rfl rfl (PV.bF rfl pU dA rfl rfl (by omega) (by omega)) (WP.aM rfl rfl (RV.aV rfl dU rfl) (aN.rdD (H.o 0 rfl) 3 (by omega) rfl) ?_)))))))
  refine WP.mv rfl rfl rfl (WP.aC rfl rfl (PV.nilCheck rfl rfl) (WP.aC rfl rfl (PV.bF rfl pU dA rfl rfl (by omega) (by omega)) (WP.aM rfl rfl (RV.aV rfl dU rfl) (aN.rdD (H.o 0 rfl) 4 (by omega) rfl) (WP.mv rfl rfl rfl (WP.aC rfl rfl (PV.nilCheck rfl rfl) (WP.aC rfl rfl (PV.bF rfl pU dA rfl rfl (by omega) (by omega)) (WP.aM rfl rfl (RV.aV rfl dU rfl) (aN.rdD (H.o 0 rfl) 5 (by omega) rfl) ?_)))))))
  refine WP.mv rfl rfl rfl (WP.aC rfl rfl (PV.nilCheck rfl rfl) (WP.aC rfl rfl (PV.bF rfl pU dA rfl rfl (by omega) (by omega)) (WP.aM rfl rfl (RV.aV rfl dU rfl) (aN.rdD (H.o 0 rfl) 6 (by omega) rfl) (WP.mv rfl rfl rfl (WP.aC rfl rfl (PV.nilCheck rfl rfl) (WP.aC rfl rfl (PV.bF rfl pU dA rfl rfl (by omega) (by omega)) (WP.aM rfl rfl (RV.aV rfl dU rfl) (aN.rdD (H.o 0 rfl) 7 (by omega) rfl) ?_)))))))
  refine WP.as rfl rfl rfl (WP.as rfl rfl rfl (WP.as rfl rfl rfl (WP.as rfl rfl rfl (WP.as rfl rfl rfl (WP.as rfl rfl rfl (WP.as rfl rfl rfl (WP.as rfl rfl rfl ?_)))))))
  refine WP.done (WE.seq (WE.aA ?_))
  refine WL.bE rfl aH3 rfl rfl (H.p 1 rfl) (by exact aEk) ?_
  refine WL.mv rfl rfl (WL.nil (WE.block ?_))
  refine WE.loop (α := Nat) (rg [(8, 14), (83, 86)]) (fun i => [(83, .int .i64 i), (8, .int .u32 (((iO (sched la 48) s i).getD 0 0).toNat : Int)), (9, .int .u32 (((iO (sched la 48) s i).getD 1 0).toNat : Int)), (10, .int .u32 (((iO (sched la 48) s i).getD 2 0).toNat : Int)), (11, .int .u32 (((iO (sched la 48) s i).getD 3 0).toNat : Int)), (12, .int .u32 (((iO (sched la 48) s i).getD 4 0).toNat : Int)), (13, .int .u32 (((iO (sched la 48) s i).getD 5 0).toNat : Int)), (14, .int .u32 (((iO (sched la 48) s i).getD 6 0).toNat : Int)), (15, .int .u32 (((iO (sched la 48) s i).getD 7 0).toNat : Int))]) (fun i wl => i ≤ 64 ∧ St X w wl [aP.blk b 266 (kw s)] [aP.blk b4 301 (kw (win (sched la 48) (i)))] [bL a la, aZ]) (fun i => 64 - i) 0 ⟨rfl, rfl, rfl, rfl, rfl, rfl, rfl, rfl, rfl, trivial⟩ ⟨Nat.zero_le _, H.conv (by rw [QH])⟩ ?_
  intro i γ2 w5 hI
  try dsimp only at hI
  obtain ⟨hi, H⟩ := hI
  refine WE.aA (WL.pv (PV.lss rfl rfl rfl) rfl (WL.nil (WE.seq ?_)))
  refine WE.cond rfl (fun aCX => ?_) (fun aCX => ?_)
  ·
   try simp only [bP] at aCX
   have hlt : i < 64 := by omega
   refine WE.skip (WE.seq (WE.block (WE.aA (WL.mv rfl rfl (WL.pv (PV.JD (l := kw fN) rfl aBN dA dU rfl rfl (by omega) (YT fN i hlt)) rfl (WL.as rfl rfl (WL.as rfl rfl ?_)))))))
   refine WL.nil (WE.aA (WL.mv rfl rfl (WL.pv (PV.qB rfl rfl rfl (by omega) (by omega)) rfl (WL.as rfl rfl (WL.nil ?_)))))
   refine WE.cut (α := Unit) (rg [(19, 2), (89, 36)]) (fun _ => []) (fun _ wl => St X w wl [aP.blk b 266 (kw s)] [aP.blk b4 301 (kw (win (sched la 48) (i + 1)))] [bL a la, aZ]) ?_ ?_
   ·
    refine WE.aA (WL.mv rfl rfl (WL.pv (PV.geq rfl rfl rfl) rfl (WL.nil ?_)))
    refine WE.cond rfl (fun aCW => ?_) (fun aCW => ?_)
    ·
     try simp only [bP] at aCW
     have W8 : 16 ≤ i := by omega
     refine WE.bG (.take 0 (.take 1 (.take 2 (.take 3 (.take 4 (.take 5 (.take 6 (.take 7 (.take 8 (.take 9 (.take 10 (.take 11 .done)))))))))))) mixed (by kernel_rfl) ?_
     replace H := H.out (Out.drew _)
     refine WP.mv rfl rfl rfl (WP.aC rfl rfl (PV.bV rfl rfl rfl (by omega) (by omega)) (WP.aC rfl rfl (PV.qB rfl rfl rfl (by omega) (by omega)) (WP.aC rfl rfl (PV.bF rfl rM dA rfl rfl (by omega) (by omega)) ?_)))
     refine WP.aM rfl rfl (RV.aV rfl dU rfl) (aN.l3 (H.l 0 rfl) ((i + 1) % 16) (i - 15) (by omega) (by omega) (by unfold iX; omega) (by rw [cQ]; omega)) ?_
     refine WP.mv rfl rfl rfl (WP.aC rfl rfl (PV.bV rfl rfl rfl (by omega) (by omega)) (WP.aC rfl rfl (PV.qB rfl rfl rfl (by omega) (by omega)) (WP.aC rfl rfl (PV.bF rfl rM dA rfl rfl (by omega) (by omega)) ?_)))
     refine WP.aM rfl rfl (RV.aV rfl dU rfl) (aN.l3 (H.l 0 rfl) ((i + 14) % 16) (i - 2) (by omega) (by omega) (by unfold iX; omega) (by rw [cQ]; omega)) ?_
     refine WP.as rfl rfl rfl (WP.as rfl rfl rfl (WP.done ?_))
     refine WE.draw (.take 0 (.take 1 (.take 2 (.take 3 (.take 6 (.take 7 (.take 9 (.take 10 (.take 11 (.take 12 (.take 13 (.take 15 (.take 18 (.take 19 (.jT 4 (.jT 5 (.take 8 (.take 14 (.aG 16 (.aG 17 (.take 20 (.take 21 (.take 22 (.take 23 (.aG 24 .done))))))))) 16 (.aG 5 (.take 8 (.take 14 (.aG 17 (.take 20 (.take 21 (.take 22 (.take 23 (.aG 24 .done)))))))))) 16 (.aG 4 (.aG 5 (.take 8 (.take 14 (.aG 17 (.take 20 (.take 21 (.take 22 (.take 23 (.aG 24 .done))))))))))))))))))))))))) mixed (by kernel_rfl) ?_
     replace H := H.out (Out.drew _)
     refine WP.mv rfl rfl rfl (WP.aC rfl rfl (PV.bF rfl rM dA rfl rfl (by omega) (by omega)) ?_)
     refine WP.aM rfl rfl (RV.aV rfl dU rfl) (aN.l3 (H.l 0 rfl) (i % 16) (i - 16) (by omega) (by omega) (by unfold iX; omega) (by rw [cQ]; omega)) ?_
     refine WP.mv rfl rfl rfl (WP.mv rfl rfl rfl (WP.aC rfl rfl (PV.vJ (n := 3) rfl rfl rfl (by omega)) (WP.mv rfl rfl rfl (WP.aC rfl rfl (PV.bV rfl rfl rfl (by omega) (by omega)) (WP.aC rfl rfl (PV.qB rfl rfl rfl (by omega) (by omega)) (WP.aC rfl rfl (PV.bF rfl rM dA rfl rfl (by omega) (by omega)) ?_))))))
     refine WP.aM rfl rfl (RV.aV rfl dU rfl) (aN.l3 (H.l 0 rfl) ((i + 9) % 16) (i - 7) (by omega) (by omega) (by unfold iX; omega) (by rw [cQ]; omega)) ?_
     refine WP.mv rfl rfl rfl (WP.mv rfl rfl rfl (WP.aC rfl rfl (PV.vJ (n := 10) rfl rfl rfl (by omega)) ?_))
     refine WP.jT rfl rfl ?_ ?_ 
     ·
      refine WL.bA (l0 := [.int .i64 (0), .int .i64 (0)]) H rfl sP (by decide) (cW _ _) (Fl.cons rfl rfl (by simp only [aS]) Laid.head (Fl.cons rfl rfl (by simp only [aS]) (Laid.tail Laid.head rfl) Fl.nil)) rfl ?_
      intro aKD w6 H
      replace H := H.freeze (i := 0) rfl
      replace H := H.add ((H.bJ 0 rfl).imp fun _ h => D4.cA (l := [7, 18]) h rfl)
      refine WL.nil ⟨(fa (fun _ _ => (aN.l3 (H.l 0 rfl) ((i + 9) % 16) (i - 7) (by omega) (by omega) (by unfold iX; omega) (by rw [cQ]; omega))) (fa (fun _ _ => (aN.l3 (H.l 0 rfl) (i % 16) (i - 16) (by omega) (by omega) (by unfold iX; omega) (by rw [cQ]; omega))) c8)), ?_⟩
      refine WP.jT rfl rfl ?_ ?_ 
      ·
       refine WL.call vS rfl (nD (x := (sched la 48).getD (i - 15) 0) (l := [7, 18]) H.aR (by exact H.bJ 0 rfl) (by decide) (by decide)) ?_
       rintro _ w7 ⟨rfl, hO⟩
       replace H := H.out hO
       refine WL.nil ⟨(fa (rk hO) (fa (rk hO) c8)), ?_⟩
       refine WP.aC rfl rfl (PV.j5 rfl rfl rfl) (WP.aC rfl rfl (PV.hZ rfl rfl rfl) (WP.aG rfl ?_))
       refine WL.bA (l0 := [.int .i64 (0), .int .i64 (0)]) H rfl sP (by decide) (cW _ _) (Fl.cons rfl rfl (by simp only [aS]) Laid.head (Fl.cons rfl rfl (by simp only [aS]) (Laid.tail Laid.head rfl) Fl.nil)) rfl ?_
       intro aHT w8 H
       replace H := H.freeze (i := 0) rfl
       replace H := H.add ((H.bJ 0 rfl).imp fun _ h => D4.cA (l := [17, 19]) h rfl)
       refine WL.nil ⟨(fa (fun _ _ => (aN.l3 (H.l 0 rfl) ((i + 9) % 16) (i - 7) (by omega) (by omega) (by unfold iX; omega) (by rw [cQ]; omega))) (fa (fun _ _ => (aN.l3 (H.l 0 rfl) (i % 16) (i - 16) (by omega) (by omega) (by unfold iX; omega) (by rw [cQ]; omega))) c8)), ?_⟩
       refine WP.aG rfl ?_
       refine WL.call vS rfl (nD (x := (sched la 48).getD (i - 2) 0) (l := [17, 19]) H.aR (by exact H.bJ 0 rfl) (by decide) (by decide)) ?_
       rintro _ w9 ⟨rfl, hO⟩
       replace H := H.out hO
       refine WL.nil ⟨(fa (rk hO) (fa (rk hO) c8)), ?_⟩
       refine WP.aC rfl rfl (PV.j5 rfl rfl rfl) (WP.aC rfl rfl (PV.hZ rfl rfl rfl) (WP.aC rfl rfl (PV.hZ rfl rfl rfl) (WP.aC rfl rfl (PV.bF rfl rM dA rfl rfl (by omega) (by omega)) (WP.aG rfl ?_))))
       refine WL.aW H 0 rfl rfl rfl (new := _) rfl (by exact dA) (bB _ rfl) (Laid.at (Laid.fG (i % 16) (by rw [jZ]; omega)) (by omega)) rfl ?_
       intro tX H
       replace H := H.conv (L' := [aP.blk b4 301 (kw (win (sched la 48) (i + 1)))]) (by rw [IB, ← CE la i W8 hlt, xE _ _ W8 (by omega)]; rfl)
       refine WL.nil ⟨(fa (nw 24 13) (fa (nw 24 2) c8)), ?_⟩
       refine WP.done ?_
       replace H := H.drop (KJ := [bL a la, aZ]) (by intro p hp; simp at hp ⊢; rcases hp with h | h <;> simp [h])
       exact ⟨(), (by repeat (first | with_reducible exact bK.refl _ _ | refine bK.dG rfl ?_)), trivial, rfl, H⟩
      ·
       refine WL.bA (l0 := [.int .i64 (0), .int .i64 (0)]) H rfl sP (by decide) (cW _ _) (Fl.cons rfl rfl (by simp only [aS]) Laid.head (Fl.cons rfl rfl (by simp only [aS]) (Laid.tail Laid.head rfl) Fl.nil)) rfl ?_
       intro aHT xG H
       replace H := H.freeze (i := 0) rfl
       replace H := H.add ((H.bJ 0 rfl).imp fun _ h => D4.cA (l := [17, 19]) h rfl)
       refine WL.nil ⟨(fa (fun _ _ => (aN.l3 (H.l 0 rfl) ((i + 9) % 16) (i - 7) (by omega) (by omega) (by unfold iX; omega) (by rw [cQ]; omega))) (fa (fun _ _ => (aN.l3 (H.l 0 rfl) (i % 16) (i - 16) (by omega) (by omega) (by unfold iX; omega) (by rw [cQ]; omega))) c8)), ?_⟩
       refine WP.aG rfl ?_
       refine WL.call vS rfl (nD (x := (sched la 48).getD (i - 15) 0) (l := [7, 18]) H.aR (by exact H.bJ 2 rfl) (by decide) (by decide)) ?_
       rintro _ HL ⟨rfl, hO⟩
       replace H := H.out hO
       refine WL.nil ⟨(fa (rk hO) (fa (rk hO) c8)), ?_⟩
       refine WP.aC rfl rfl (PV.j5 rfl rfl rfl) (WP.aC rfl rfl (PV.hZ rfl rfl rfl) (WP.aG rfl ?_))
       refine WL.call vS rfl (nD (x := (sched la 48).getD (i - 2) 0) (l := [17, 19]) H.aR (by exact H.bJ 0 rfl) (by decide) (by decide)) ?_
       rintro _ DW ⟨rfl, hO⟩
       replace H := H.out hO
       refine WL.nil ⟨(fa (rk hO) (fa (rk hO) c8)), ?_⟩
       refine WP.aC rfl rfl (PV.j5 rfl rfl rfl) (WP.aC rfl rfl (PV.hZ rfl rfl rfl) (WP.aC rfl rfl (PV.hZ rfl rfl rfl) (WP.aC rfl rfl (PV.bF rfl rM dA rfl rfl (by omega) (by omega)) (WP.aG rfl ?_))))
       refine WL.aW H 0 rfl rfl rfl (new := _) rfl (by exact dA) (bB _ rfl) (Laid.at (Laid.fG (i % 16) (by rw [jZ]; omega)) (by omega)) rfl ?_
       intro H9 H
       replace H := H.conv (L' := [aP.blk b4 301 (kw (win (sched la 48) (i + 1)))]) (by rw [IB, ← CE la i W8 hlt, xE _ _ W8 (by omega)]; rfl)
       refine WL.nil ⟨(fa (nw 24 13) (fa (nw 24 2) c8)), ?_⟩
       refine WP.done ?_
       replace H := H.drop (KJ := [bL a la, aZ]) (by intro p hp; simp at hp ⊢; rcases hp with h | h <;> simp [h])
       exact ⟨(), (by repeat (first | with_reducible exact bK.refl _ _ | refine bK.dG rfl ?_)), trivial, rfl, H⟩
     ·
      refine WL.bA (l0 := [.int .i64 (0), .int .i64 (0)]) H rfl sP (by decide) (cW _ _) (Fl.cons rfl rfl (by simp only [aS]) Laid.head (Fl.cons rfl rfl (by simp only [aS]) (Laid.tail Laid.head rfl) Fl.nil)) rfl ?_
      intro aHT ND H
      replace H := H.freeze (i := 0) rfl
      replace H := H.add ((H.bJ 0 rfl).imp fun _ h => D4.cA (l := [17, 19]) h rfl)
      refine WL.nil ⟨(fa (fun _ _ => (aN.l3 (H.l 0 rfl) ((i + 9) % 16) (i - 7) (by omega) (by omega) (by unfold iX; omega) (by rw [cQ]; omega))) (fa (fun _ _ => (aN.l3 (H.l 0 rfl) (i % 16) (i - 16) (by omega) (by omega) (by unfold iX; omega) (by rw [cQ]; omega))) c8)), ?_⟩
      refine WP.aG rfl ?_
      refine WL.bA (l0 := [.int .i64 (0), .int .i64 (0)]) H rfl sP (by decide) (cW _ _) (Fl.cons rfl rfl (by simp only [aS]) Laid.head (Fl.cons rfl rfl (by simp only [aS]) (Laid.tail Laid.head rfl) Fl.nil)) rfl ?_
      intro aKD QL H
      replace H := H.freeze (i := 0) rfl
      replace H := H.add ((H.bJ 0 rfl).imp fun _ h => D4.cA (l := [7, 18]) h rfl)
      refine WL.nil ⟨(fa (fun _ _ => (aN.l3 (H.l 0 rfl) ((i + 9) % 16) (i - 7) (by omega) (by omega) (by unfold iX; omega) (by rw [cQ]; omega))) (fa (fun _ _ => (aN.l3 (H.l 0 rfl) (i % 16) (i - 16) (by omega) (by omega) (by unfold iX; omega) (by rw [cQ]; omega))) c8)), ?_⟩
      refine WP.aG rfl ?_
      refine WL.call vS rfl (nD (x := (sched la 48).getD (i - 15) 0) (l := [7, 18]) H.aR (by exact H.bJ 0 rfl) (by decide) (by decide)) ?_
      rintro _ QK ⟨rfl, hO⟩
      replace H := H.out hO
      refine WL.nil ⟨(fa (rk hO) (fa (rk hO) c8)), ?_⟩
      refine WP.aC rfl rfl (PV.j5 rfl rfl rfl) (WP.aC rfl rfl (PV.hZ rfl rfl rfl) (WP.aG rfl ?_))
      refine WL.call vS rfl (nD (x := (sched la 48).getD (i - 2) 0) (l := [17, 19]) H.aR (by exact H.bJ 2 rfl) (by decide) (by decide)) ?_
      rintro _ QJ ⟨rfl, hO⟩
      replace H := H.out hO
      refine WL.nil ⟨(fa (rk hO) (fa (rk hO) c8)), ?_⟩
      refine WP.aC rfl rfl (PV.j5 rfl rfl rfl) (WP.aC rfl rfl (PV.hZ rfl rfl rfl) (WP.aC rfl rfl (PV.hZ rfl rfl rfl) (WP.aC rfl rfl (PV.bF rfl rM dA rfl rfl (by omega) (by omega)) (WP.aG rfl ?_))))
      refine WL.aW H 0 rfl rfl rfl (new := _) rfl (by exact dA) (bB _ rfl) (Laid.at (Laid.fG (i % 16) (by rw [jZ]; omega)) (by omega)) rfl ?_
      intro w19 H
      replace H := H.conv (L' := [aP.blk b4 301 (kw (win (sched la 48) (i + 1)))]) (by rw [IB, ← CE la i W8 hlt, xE _ _ W8 (by omega)]; rfl)
      refine WL.nil ⟨(fa (nw 24 13) (fa (nw 24 2) c8)), ?_⟩
      refine WP.done ?_
      replace H := H.drop (KJ := [bL a la, aZ]) (by intro p hp; simp at hp ⊢; rcases hp with h | h <;> simp [h])
      exact ⟨(), (by repeat (first | with_reducible exact bK.refl _ _ | refine bK.dG rfl ?_)), trivial, rfl, H⟩
    ·
     try simp only [bP] at aCW
     have W8 : i < 16 := by omega
     replace H := H.conv (L' := [aP.blk b4 301 (kw (win (sched la 48) (i + 1)))]) (by rw [M8 _ _ W8])
     refine WE.skip ?_
     replace H := H.drop (KJ := [bL a la, aZ]) (by intro p hp; simp at hp ⊢; rcases hp with h | h <;> simp [h])
     exact ⟨(), (by repeat (first | with_reducible exact bK.refl _ _ | refine bK.dG rfl ?_)), trivial, rfl, H⟩
   ·
    intro _ γ w20 hI
    try dsimp only at hI
    replace H := hI
    refine WE.bG (.take 0 (.take 1 (.take 5 (.take 6 (.take 7 (.take 8 (.take 9 (.take 10 (.take 11 (.take 13 (.take 15 (.take 16 (.take 17 (.aG 2 (.aG 3 (.take 4 (.take 12 (.take 14 (.take 18 (.take 19 .done)))))))))))))))))))) mixed (by kernel_rfl) ?_
    replace H := H.out (Out.drew _)
    refine WP.mv rfl rfl rfl (WP.mv rfl rfl rfl (WP.mv rfl rfl rfl (WP.mv rfl rfl rfl (WP.mv rfl rfl rfl (WP.mv rfl rfl rfl (WP.aC rfl rfl (PV.j5 rfl rfl rfl) (WP.aC rfl rfl (PV.rN rfl rfl rfl) ?_)))))))
    refine WP.aC rfl rfl (PV.j5 rfl rfl rfl) (WP.mv rfl rfl rfl (WP.mv rfl rfl rfl (WP.aC rfl rfl (PV.bF rfl rM dA rfl rfl (by omega) (by omega)) ?_)))
    refine WP.aM rfl rfl (RV.aV rfl dU rfl) (aN.l3 (H.l 0 rfl) (i % 16) (i) (by omega) (by omega) (by unfold iX; omega) (by rw [cQ]; omega)) ?_
    refine WP.aG rfl ?_
    refine WL.bA (l0 := [.int .i64 (0), .int .i64 (0), .int .i64 (0)]) H rfl sP (by decide) (cW _ _) (Fl.cons rfl rfl (by simp only [aS]) Laid.head (Fl.cons rfl rfl (by simp only [aS]) (Laid.tail Laid.head rfl) (Fl.cons rfl rfl (by simp only [aS]) (Laid.tail (Laid.tail Laid.head rfl) rfl) Fl.nil))) rfl ?_
    intro aLR w21 H
    replace H := H.freeze (i := 0) rfl
    replace H := H.add ((H.bJ 0 rfl).imp fun _ h => D4.cA (l := [6, 11, 25]) h rfl)
    refine WL.nil ⟨(fa (fun _ _ => (aN.l3 (H.l 0 rfl) (i % 16) (i) (by omega) (by omega) (by unfold iX; omega) (by rw [cQ]; omega))) c8), ?_⟩
    refine WP.aG rfl ?_
    refine WL.call vS rfl (nD (x := (iO (sched la 48) s i).getD 4 0) (l := [6, 11, 25]) H.aR (by exact H.bJ 0 rfl) (by decide) (by decide)) ?_
    rintro _ w22 ⟨rfl, hO⟩
    replace H := H.out hO
    refine WL.nil ⟨(fa (rk hO) c8), ?_⟩
    refine WP.aC rfl rfl (PV.hZ rfl rfl rfl) (WP.aC rfl rfl (PV.hZ rfl rfl rfl) (WP.aC rfl rfl (PV.hZ rfl rfl rfl) (WP.aC rfl rfl (PV.hZ rfl rfl rfl) (WP.as rfl rfl rfl (WP.done ?_)))))
    refine WE.norm [8, 9, 10, 11, 12, 13, 14, 15, 16, 17, 18, 19, 20, 21, 83, 84, 85, 86, 87, 88, 89, 90, 91, 92, 93, 94, 95, 96, 97, 98, 99, 100, 101, 102, 103, 104, 105, 106, 107, 108, 109, 110, 111, 112, 113, 114, 115, 116, 117, 118, 119, 120, 121, 122, 123, 124, 125, 126, 127, 128, 129, 130, 131, 132, 133, 134, 135, 136, 137, 138, 139, 140, 141, 142, 143, 144, 145, 146, 147, 148, 149, 150, 151, 152, 153, 154, 155, 156, 157, 158, 159, 160, 161, 162, 163, 164, 165, 166, 167, 168] [(83, .int .i64 i), (21, .int .u32 ((t1f (iO (sched la 48) s i) (fN.getD i 0) ((sched la 48).getD i 0)).toNat : Int)), (8, .int .u32 (((iO (sched la 48) s i).getD 0 0).toNat : Int)), (9, .int .u32 (((iO (sched la 48) s i).getD 1 0).toNat : Int)), (10, .int .u32 (((iO (sched la 48) s i).getD 2 0).toNat : Int)), (11, .int .u32 (((iO (sched la 48) s i).getD 3 0).toNat : Int)), (12, .int .u32 (((iO (sched la 48) s i).getD 4 0).toNat : Int)), (13, .int .u32 (((iO (sched la 48) s i).getD 5 0).toNat : Int)), (14, .int .u32 (((iO (sched la 48) s i).getD 6 0).toNat : Int)), (15, .int .u32 (((iO (sched la 48) s i).getD 7 0).toNat : Int))] (bK.refl _ _) ⟨rfl, (by show Value.int .u32 _ = _; rw [aB7]), rfl, rfl, rfl, rfl, rfl, rfl, rfl, rfl, trivial⟩ ?_
    intro γ_
    refine WE.aA (WL.mv rfl rfl (WL.mv rfl rfl (WL.mv rfl rfl (WL.mv rfl rfl (WL.mv rfl rfl (WL.pv (PV.hZ rfl rfl rfl) rfl (WL.as rfl rfl ?_)))))))
    refine WL.as rfl rfl (WL.as rfl rfl (WL.as rfl rfl (WL.nil (WE.dW (WL.mv rfl rfl (WL.mv rfl rfl (WL.mv rfl rfl ?_)))))))
    refine WL.mv rfl rfl (WL.mv rfl rfl ?_)
    refine WL.bA (l0 := [.int .i64 (0), .int .i64 (0), .int .i64 (0)]) H rfl sP (by decide) (cW _ _) (Fl.cons rfl rfl (by simp only [aS]) Laid.head (Fl.cons rfl rfl (by simp only [aS]) (Laid.tail Laid.head rfl) (Fl.cons rfl rfl (by simp only [aS]) (Laid.tail (Laid.tail Laid.head rfl) rfl) Fl.nil))) rfl ?_
    intro aLQ w23 H
    replace H := H.freeze (i := 0) rfl
    replace H := H.add ((H.bJ 0 rfl).imp fun _ h => D4.cA (l := [2, 13, 22]) h rfl)
    refine WL.call vS rfl (nD (x := (iO (sched la 48) s i).getD 0 0) (l := [2, 13, 22]) H.aR (by exact H.bJ 0 rfl) (by decide) (by decide)) ?_
    rintro _ w24 ⟨rfl, hO⟩
    replace H := H.out hO
    refine WL.pv (PV.hZ rfl rfl rfl) rfl (WL.mv rfl rfl (WL.mv rfl rfl (WL.pv (PV.rN rfl rfl rfl) rfl (WL.mv rfl rfl (WL.mv rfl rfl (WL.mv rfl rfl (WL.pv (PV.E2 rfl rfl rfl) rfl ?_)))))))
    refine WL.pv (PV.rN rfl rfl rfl) rfl (WL.pv (PV.E2 rfl rfl rfl) rfl (WL.pv (PV.hZ rfl rfl rfl) rfl (WL.as rfl rfl (WL.as rfl rfl (WL.as rfl rfl (WL.as rfl rfl (WL.nil ?_)))))))
    refine WE.dW (WL.pv (PV.bV rfl rfl rfl (by omega) (by omega)) rfl (WL.mv rfl rfl (WL.nil ?_)))
    replace H := H.drop (KJ := [bL a la, aZ]) (by intro p hp; simp at hp ⊢; rcases hp with h | h <;> simp [h])
    exact ⟨i + 1, (by repeat (first | with_reducible exact bK.refl _ _ | refine bK.dG rfl ?_ | refine bK.bZ rfl ?_ | refine bK.bX rfl ?_)), ⟨rfl, by show Value.int .u32 _ = _; rw [aB9]; rfl, rfl, rfl, rfl, rfl, rfl, rfl, rfl, trivial⟩, rfl, ⟨by omega, H⟩, (by omega)⟩
  ·
   try simp only [bP] at aCX
   obtain rfl : i = 64 := by omega
   refine WE.exit (WE.aA (WL.mv rfl rfl (WL.mv rfl rfl (WL.mv rfl rfl (WL.mv rfl rfl (WL.mv rfl rfl (WL.mv rfl rfl ?_)))))))
   refine WL.mv rfl rfl (WL.mv rfl rfl ?_)
   refine WL.pv (PV.eq (v' := .agg (kw (iO (sched la 48) s 64)).toArray) (PV.lY (l := kw (iO (sched la 48) s 64)) rfl gB dA D6 (by rw [← kw8 _ (lG _ s hs 64)]; exact (Fl.cons rfl rfl (by simp only [aS]) (Laid.fG 0 (by simp only [aS]; omega)) (Fl.cons rfl rfl (by simp only [aS]) (Laid.fG 1 (by simp [aJ, aQ, *])) (Fl.cons rfl rfl (by simp only [aS]) (Laid.fG 2 (by simp [aJ, aQ, *])) (Fl.cons rfl rfl (by simp only [aS]) (Laid.fG 3 (by simp [aJ, aQ, *])) (Fl.cons rfl rfl (by simp only [aS]) (Laid.fG 4 (by simp [aJ, aQ, *])) (Fl.cons rfl rfl (by simp only [aS]) (Laid.fG 5 (by simp [aJ, aQ, *])) (Fl.cons rfl rfl (by simp only [aS]) (Laid.fG 6 (by simp [aJ, aQ, *])) (Fl.cons rfl rfl (by simp only [aS]) (Laid.fG 7 (by simp [aJ, aQ, *])) Fl.nil)))))))))) rfl) rfl ?_
   refine WL.mv rfl rfl (WL.nil (WE.block ?_))
   refine WE.loop (α := Nat) (rg [(22, 2), (178, 14)]) (fun i => [(178, .int .i64 i)]) (fun i wl => i ≤ 8 ∧ St X w wl [aP.blk b 266 (kw (mA s (iO (sched la 48) s 64) i))] [aP.blk b4 301 (kw (win (sched la 48) (64)))] [bL a la, aZ]) (fun i => 8 - i) 0 ⟨rfl, trivial⟩ ⟨Nat.zero_le _, by rw [zC _ _ hs]; exact H⟩ ?_
   intro i γ3 w25 hI
   try dsimp only at hI
   obtain ⟨hi, H⟩ := hI
   refine WE.aA (WL.pv (PV.lss rfl rfl rfl) rfl (WL.nil (WE.seq ?_)))
   refine WE.cond rfl (fun TP => ?_) (fun TP => ?_)
   ·
    try simp only [bP] at TP
    have hlt : i < 8 := by omega
    refine WE.skip (WE.seq (WE.block (WE.aA (WL.mv rfl rfl ?_))))
    refine WL.pv (PV.JD (l := kw (iO (sched la 48) s 64)) rfl gB dA dU rfl rfl (by omega) (aCz _ i (by rw [lG _ s hs]; exact hlt))) rfl ?_
    refine WL.as rfl rfl (WL.as rfl rfl (WL.nil ?_))
    refine WE.draw (.take 0 (.take 1 (.take 2 (.take 3 (.take 4 (.take 5 (.take 6 (.take 7 (.take 8 (.aG 9 .done)))))))))) mixed (by kernel_rfl) ?_
    replace H := H.out (Out.drew _)
    refine WP.mv rfl rfl rfl (WP.mv rfl rfl rfl (WP.aC rfl rfl (PV.nilCheck rfl rfl) (WP.aC rfl rfl (PV.bF rfl pU dA rfl rfl (by omega) (by omega)) ?_)))
    refine WP.aM rfl rfl (RV.aV rfl dU rfl) (aN.aF (H.o 0 rfl) (aK.word i (by rw [fL]; exact hlt)) (by simp)) ?_
    refine WP.mv rfl rfl rfl (WP.aC rfl rfl (PV.hZ rfl rfl rfl) (WP.aC rfl rfl (PV.nilCheck rfl rfl) (WP.aC rfl rfl (PV.bF rfl pU dA rfl rfl (by omega) (by omega)) (WP.aG rfl ?_))))
    refine WL.lQ H 0 rfl rfl rfl (new := _) rfl (by exact dA) (bB _ rfl) (Laid.at (Laid.fG i (by rw [fL]; exact hlt)) (by simp)) rfl ?_
    intro w26 H
    refine WL.nil ⟨(fa (nw 9 4) c8), ?_⟩
    refine WP.done (WE.dW (WL.pv (PV.bV rfl rfl rfl (by omega) (by omega)) rfl (WL.mv rfl rfl (WL.nil ?_))))
    have e := B5 s (iO (sched la 48) s 64) i hs (lG _ s hs 64) hlt
    exact ⟨i + 1, (by repeat (first | with_reducible exact bK.refl _ _ | refine bK.dG rfl ?_ | refine bK.bZ rfl ?_ | refine bK.bX rfl ?_)), ⟨rfl, trivial⟩, rfl, ⟨by omega, by rw [← e]; exact H⟩, (by omega)⟩
   ·
    try simp only [bP] at TP
    obtain rfl : i = 8 := by omega
    refine WE.exit ?_
    refine ⟨[], _, .nil _, trivial, ?_⟩
    exact ⟨rfl, H.cT, H.o 0 rfl⟩
def aDn (v : Value) (i : Nat) (xs : List Value) (_ : World) : Prop := xs = [nK v 1 (64 * i) (64 * i + 64)]
theorem KR {C : Nat → Prop} {w : World} {bs bn n : Nat} {v : Value} {l : List UInt8} (hC : ∀ b, C b → b < w.heap.size) (bT : aH C (bL v l) w) (dJ : aH C (fun w => dD w ⟨bs, 0, none⟩ [v]) w) (fQ : aH C (fun w => dD w ⟨bn, 0, none⟩ [.int .i64 64]) w) (hl : l.length = 64 * n) (hlm : l.length ≤ 2000000000) : VX prog 193 [] [.pointer (some ⟨bs, 0, none⟩), .pointer (some ⟨bn, 0, none⟩)] (n) (aDn v) Nil C w := by
 intro f J Jx hst j9 N6 iK hf
 show bC prog 193 ([f, .pointer (some ⟨bs, 0, none⟩), .pointer (some ⟨bn, 0, none⟩)] : List Value).toArray w _
 refine bC.aI (N := 31) func193 rfl rfl (by simp) ?_
 have H := (((St.begin (X := C) hC).add (cE fQ)).add (cE dJ)).add (cE bT)
 refine WE.aA (WL.as rfl rfl (WL.nil (WE.block ?_)))
 refine WE.loop (α := Nat) (rg [(4, 27)]) (fun k => [(4, .int .i64 ((64 * k : Nat) : Int))]) (fun k wl => k ≤ n ∧ J Nil k wl ∧ St C wl wl [] [] [bL v l, fun w => dD w ⟨bs, 0, none⟩ [v], fun w => dD w ⟨bn, 0, none⟩ [.int .i64 64]]) (fun k => n - k) 0 ⟨rfl, trivial⟩ ⟨Nat.zero_le _, hst Nil w (Out.refl _ _) (fun _ h => h.elim) (fun _ h => h), H⟩ ?_
 intro k γ0 w1 hI
 try dsimp only at hI
 obtain ⟨PZ, hJ, H⟩ := hI
 have C1 : ∃ HY, HY = w1 := ⟨_, rfl⟩
 obtain ⟨HY, C1⟩ := C1
 rw [← C1] at hJ H ⊢
 clear C1
 refine WE.seq (WE.aA (WL.mv rfl rfl (WL.aX rfl eH rfl rfl (H.p 1 rfl) (WL.pv (PV.dS (H.p 0 rfl) eN rfl) rfl (WL.pv (PV.lss rfl rfl rfl) rfl (WL.nil ?_))))))
 refine WE.cond rfl (fun uV => ?_) (fun uV => ?_)
 ·
  try simp only [bP] at uV
  have hlt : k < n := by omega
  refine WE.skip (WE.seq (WE.block ?_))
  refine WE.bG (.take 0 (.take 1 (.take 2 (.take 3 (.take 4 (.take 5 (.take 6 .done))))))) mixed (by kernel_rfl) ?_
  replace H := H.out (Out.drew _)
  refine WP.aM rfl rfl (RV.aV rfl l9 rfl) (H.p 2 rfl) (WP.aM rfl rfl (RV.aV rfl eH rfl) (H.p 1 rfl) (WP.mv rfl rfl rfl ?_))
  refine WP.aC rfl rfl (PV.eq (v' := jO v 1 (64 * k) l.length) (PV.q9 rfl (H.p 0 rfl) eN gO rfl rfl (by omega) (by omega)) (by congr 1)) ?_
  refine WP.aC rfl rfl (PV.eq (v' := .int .i64 ((l.length - 64 * k : Nat) : Int)) (PV.dS (bL.sub (lo := 64 * k) (hi := l.length) (H.p 0 rfl) (by omega) (Nat.le_refl _)) eN rfl) (by simp)) ?_
  refine WP.aC rfl rfl (PV.eq (v' := .int .i64 64) (PV.aCx rfl rfl) (by congr 1; omega)) ?_
  refine WP.as rfl rfl rfl (WP.done (WE.aA (WL.mv rfl rfl (WL.aX rfl eH rfl rfl (H.p 1 rfl) (WL.mv rfl rfl (WL.mv rfl rfl (WL.mv rfl rfl ?_)))))))
  refine WL.pv (PV.bV rfl rfl rfl (by omega) (by omega)) rfl (WL.mv rfl rfl (WL.mv rfl rfl (WL.pv (PV.bV rfl rfl rfl (by omega) (by omega)) rfl ?_)))
  refine WL.pv (PV.eq (v' := nK v 1 (64 * k) (64 * k + 64)) (PV.aCe rfl (H.p 0 rfl) eN gO rfl rfl rfl rfl (by omega) (by omega)) (by congr 1)) rfl ?_
  refine WL.iZ rfl rfl (iK Nil k _ HY _ (by omega) hJ H.aL (aH.pure rfl)) ?_
  rintro _ w2 ⟨hk, ⟨rfl, hJ⟩ | ⟨rfl, hJ⟩⟩
  ·
   replace H := St.KA (Ps := [bL v l, fun w => dD w ⟨bs, 0, none⟩ [v], fun w => dD w ⟨bn, 0, none⟩ [.int .i64 64]]) hC hk (fun _ h => h.elim) (by intro p hp; simp at hp; rcases hp with rfl | rfl | rfl <;> assumption)
   refine WL.pv (PV.not rfl rfl) rfl (WL.nil (WE.jF rfl (WE.skip (WE.dW (WL.mv rfl rfl (WL.aX rfl l9 rfl rfl (H.p 2 rfl) (WL.pv (PV.bV rfl rfl rfl (by omega) (by omega)) rfl ?_)))))))
   refine WL.as rfl rfl (WL.nil ?_)
   exact ⟨k + 1, (by repeat (first | with_reducible exact bK.refl _ _ | refine bK.dG rfl ?_ | refine bK.bZ rfl ?_ | refine bK.bX rfl ?_)), ⟨rfl, trivial⟩, rfl, ⟨by omega, hJ, H⟩, (by omega)⟩
  ·
   refine WL.pv (PV.not rfl rfl) rfl (WL.nil (WE.kZ rfl (WE.ret ?_)))
   refine ⟨[], _, .nil _, trivial, ?_⟩
   exact ⟨rfl, Nil, .inr hJ⟩
 ·
  try simp only [bP] at uV
  obtain rfl : k = n := by omega
  refine WE.exit ?_
  refine ⟨[], _, .nil _, trivial, ?_⟩
  exact ⟨rfl, Nil, .inl (j9 _ _ _ _ hJ H.aL)⟩
theorem aAI {X : Nat → Prop} {w : World} {v : Value} {l : List UInt8} (hX : c6 X w) (bT : aH X (bL v l) w) :
  bC prog 161 [v, .int .i64 64].toArray w fun r w' => ∃ bs bn, r = .func (.func 193) [].toArray [.pointer (some ⟨bs, 0, none⟩), .pointer (some ⟨bn, 0, none⟩)].toArray ∧ Out Nil w w' ∧ aH X (fun w => dD w ⟨bs, 0, none⟩ [v]) w' ∧ aH X (fun w => dD w ⟨bn, 0, none⟩ [.int .i64 64]) w' := by
 refine bC.aI (N := 9) func161 rfl rfl (by simp) ?_
 have H := (St.begin hX).add (cE bT)
 refine WE.aA ?_
 refine WL.box (l := [v]) H rfl (by exact cO.cells (H.p 0 rfl)) rfl ?_
 intro b2 w1 H
 refine WL.box (l := _) H rfl rfl rfl ?_
 intro b3 w2 H
 refine WL.as rfl rfl (WL.nil (WE.seq (WE.aA (WL.aX rfl l9 rfl rfl (aN.aF (H.l 0 rfl) (aK.all _) rfl) (WL.pv (PV.lss rfl rfl rfl) rfl (WL.nil ?_))))))
 refine WE.bD rfl (by decide) ?_
 refine WE.skip (WE.aA (WL.pv (PV.makeFunc rfl) rfl (WL.as rfl rfl (WL.nil (WE.ret ⟨[_], _, .nil _, ⟨rfl, trivial⟩, ?_⟩)))))
 replace H := (H.freeze (i := 0) rfl).freeze (i := 0) rfl
 exact ⟨b2, b3, rfl, H.aL, H.fX ((H.bJ 0 rfl).imp fun _ h => h.rd), H.fX ((H.bJ 1 rfl).imp fun _ h => h.rd)⟩
theorem aIe {X : Nat → Prop} {w : World} {a : Value} {la : List UInt8} (hX : c6 X w) (bT : aH X (bL a la) w) (dJ : aH X (aZ) w) (rY : la.length ≤ 1000000000) :
  bC prog 109 [a].toArray w fun v w' => v = .agg (kc (cZ la)).toArray ∧ Out Nil w w' := by
 refine bC.aI (N := 34) func109 rfl rfl (by simp) ?_
 have H := ((St.begin hX).add (cE dJ)).add (cE bT)
 have aJe := E0 la
 have wE := mB la
 have aCE : zc la.length < 64 := by unfold zc; omega
 refine WE.aA ?_
 refine WL.alloc H rfl lB rfl ?_
 intro b2 w1 H
 refine WL.nil (WE.aA ?_)
 refine WL.call aG1 rfl (XV  H.aR  ) ?_
 rintro _ w2 ⟨rfl, hO⟩
 replace H := H.out hO
 refine WL.alloc H rfl P8 rfl ?_
 intro b3 w3 H
 refine WL.aW H 0 rfl rfl rfl (new := _) rfl (by exact QV) (uS _) (Laid.at (Laid.all (by simp only [aS])) rfl) rfl ?_
 intro w4 H
 refine WL.nil (WE.aA ?_)
 refine WL.pv (PV.eq (v' := .func (.func 160) [.pointer (some ⟨b3, 0, none⟩)].toArray [].toArray) (PV.makeFunc rfl) rfl) rfl ?_
 refine WL.alloc H rfl aD4 rfl ?_
 intro b4 w5 H
 refine WL.aW H 0 rfl rfl rfl (new := _) rfl (by exact aEl) (bB _ rfl) (Laid.at (Laid.all (by simp only [aS])) rfl) rfl ?_
 intro w6 H
 refine WL.nil (WE.seq (WE.aA (WL.mv rfl rfl ?_)))
 refine WL.call aGX rfl (aIg (la := la) H.aR (H.bJ 0 rfl) rY) ?_
 rintro v11 w7 ⟨hO, hR⟩
 replace H := (H.out hO).add hR
 refine WL.call aGY rfl (aAI  H.aR (by exact H.bJ 0 rfl) ) ?_
 rintro _ w8 ⟨bs, bn, rfl, hO, LY, HU⟩
 replace H := ((H.out hO).add HU).add LY
 refine WL.nil (WE.block ?_)
 replace H := H.wP
 refine WE.xS (α := Unit) (fun i _ => True) (fun i _ => []) (fun i _ => [aP.blk b4 268 [.func (.func 160) [.pointer (some ⟨b3, 0, none⟩)].toArray [].toArray], aP.blk b3 266 (kw (fZ (cS la) i)), aP.blk b2 30 (kc (List.replicate 32 0))]) (fun i _ => [fun w => dD w ⟨bs, 0, none⟩ [v11], fun w => dD w ⟨bn, 0, none⟩ [.int .i64 64], bL v11 (cS la), bL a la, aZ]) (fun _ _ => False) (fun _ _ => []) (fun _ _ => []) (fun _ _ => []) () H rfl aGL (fun W0 hO => KR (n := (cS la).length / 64) (H.U2 hO) (H.sD hO 2 rfl) (H.sD hO 0 rfl) (H.sD hO 1 rfl) (by omega) (by omega)) (by intro _ _ _ h; rw [h]; rfl) ⟨trivial, rfl, rfl, rfl⟩ ?_ ?_ ?_
 ·
  intro i _ xs_ l_ d_ o_ T_ sc_ w9 jM tK OE
  obtain rfl := OE
  refine WE.dW (WL.as rfl rfl (WL.nil ?_))
  refine ⟨rfl, rfl, rfl, ?_⟩
  intro tX H
  refine WE.block (WE.dW (WL.aX rfl aH4 rfl rfl (aN.aF (H.l 0 rfl) (aK.all _) rfl) (WL.mv rfl rfl ?_)))
  refine WL.rK aGZ rfl rfl (aB8 (b := b3) (s := fZ (cS la) i) (la := ((cS la).drop (64 * i)).take (64 * i + 64 - 64 * i)) H.aR (H.l 1 rfl) ((H.iL 1 rfl 3 rfl).imp fun _ h => bL.NJ h (by omega) (by omega)) (H.iL 1 rfl 5 rfl) (by simp; omega) (o5 _ _)) ?_
  rintro _ xG ⟨rfl, hO, hB⟩
  replace H := H.called 1 rfl hO hB
  refine WL.nil ?_
  replace H := H.conv (L' := [aP.blk b4 268 [.func (.func 160) [.pointer (some ⟨b3, 0, none⟩)].toArray [].toArray], aP.blk b3 266 (kw (fZ (cS la) (i + 1))), aP.blk b2 30 (kc (List.replicate 32 0)), aP.obj l_ o_, aP.obj d_ (.deferred (some [])), aP.sn T_ tX]) (by rw [show 64 * i + 64 - 64 * i = 64 by omega]; rfl)
  replace H := H.drop (fun p hp => List.mem_cons_of_mem _ hp)
  exact ⟨(), trivial, H⟩
 ·
  intro _ US HL tK H
  refine WE.aA ?_
  refine WL.alloc H rfl lB rfl ?_
  intro b6 DW H
  refine WL.nil (WE.seq (WE.aA (WL.mv rfl rfl (WL.nil (WE.block ?_)))))
  have hS := o5 (cS la) ((cS la).length / 64)
  refine WE.loop (α := Nat) (rg [(7, 1), (17, 16)]) (fun k => [(17, .int .i64 k)]) (fun k wl => k ≤ 32 ∧ St X w wl [] [aP.blk b6 30 (kc (qJ 32 k (oB (fZ (cS la) ((cS la).length / 64))))), aP.obj US (.deferred (some [])), aP.blk b4 268 [.func (.func 160) [.pointer (some ⟨b3, 0, none⟩)].toArray [].toArray], aP.blk b3 266 (kw (fZ (cS la) ((cS la).length / 64))), aP.blk b2 30 (kc (List.replicate 32 0))] [fun w => dD w ⟨bs, 0, none⟩ [v11], fun w => dD w ⟨bn, 0, none⟩ [.int .i64 64], bL v11 (cS la), bL a la, aZ]) (fun k => 32 - k) 0 ⟨rfl, trivial⟩ ⟨Nat.zero_le _, by rw [yO]; exact H⟩ ?_
  intro k γ0 H9 hI
  try dsimp only at hI
  obtain ⟨hi, H⟩ := hI
  refine WE.aA (WL.pv (PV.lss rfl rfl rfl) rfl (WL.nil (WE.seq ?_)))
  refine WE.cond rfl (fun r4 => ?_) (fun r4 => ?_)
  ·
   try simp only [bP] at r4
   have JJ : k < 32 := by omega
   refine WE.skip (WE.seq (WE.block (WE.aA (WL.mv rfl rfl (WL.as rfl rfl (WL.nil (WE.dW ?_)))))))
   refine WL.mv rfl rfl (WL.mv rfl rfl ?_)
   refine WL.pv (PV.eq (v' := .int .i64 ((k / 4 : Nat) : Int)) (PV.qC rfl rfl rfl (by omega) (by omega) (by omega)) rfl) rfl ?_
   refine WL.pv (PV.bF rfl pU dA rfl rfl (by omega) (by omega)) rfl ?_
   refine WL.aX rfl dU rfl rfl (aN.aF (H.l 3 rfl) (aK.word (k / 4) (by rw [hS]; omega)) (by omega)) ?_
   refine WL.mv rfl rfl (WL.pv (PV.eq (v' := .int .i64 ((k % 4 : Nat) : Int)) (PV.qB rfl rfl rfl (by omega) (by omega)) rfl) rfl ?_)
   refine WL.pv (PV.eq (v' := .int .i64 ((8 * (k % 4) : Nat) : Int)) (PV.mL rfl rfl rfl (by omega) (by omega)) rfl) rfl ?_
   refine WL.pv (PV.eq (v' := .int .i64 ((24 - 8 * (k % 4) : Nat) : Int)) (PV.gE rfl rfl rfl (by omega) (by omega)) (by (congr 1; omega))) rfl ?_
   refine WL.pv (PV.vJ (n := 24 - 8 * (k % 4)) rfl rfl rfl (by omega)) rfl (WL.pv (PV.aBM rfl vP mM rfl) rfl (WL.pv (PV.bF rfl pN gO rfl rfl (by omega) (by omega)) rfl ?_))
   refine WL.aW H 0 rfl rfl rfl (new := _) rfl (by exact gO) (bB _ rfl) (Laid.at (Laid.tQ k (by rw [tN (by omega) (by rw [jJ]; omega)]; omega)) (by simp)) rfl ?_
   intro ND H
   refine WL.nil (WE.dW (WL.pv (PV.bV rfl rfl rfl (by omega) (by omega)) rfl (WL.mv rfl rfl (WL.nil ?_))))
   have e := BJ (m := 32) (k := k) (l := oB (fZ (cS la) ((cS la).length / 64))) (by omega) (by rw [jJ]; omega)
   rw [A2 _ _ _ (by rw [hS]; omega)] at e
   exact ⟨k + 1, (by repeat (first | with_reducible exact bK.refl _ _ | refine bK.dG rfl ?_ | refine bK.bZ rfl ?_ | refine bK.bX rfl ?_)), ⟨rfl, trivial⟩, rfl, ⟨by omega, H.conv (by rw [← e]; rfl)⟩, (by omega)⟩
  ·
   try simp only [bP] at r4
   obtain rfl : k = 32 := by omega
   refine WE.exit (WE.aA ?_)
   have e32 := BK (m := 32) (l := oB (fZ (cS la) ((cS la).length / 64))) (jJ _)
   rw [e32] at H
   refine WL.bE rfl fS rfl rfl (aN.aF (H.l 0 rfl) (aK.all _) rfl) (by exact dH) ?_
   refine WL.aW H 4 rfl rfl rfl (new := _) rfl (by exact dH) (bH _) (Laid.at (Laid.all rfl) rfl) rfl ?_
   intro QL H
   refine WL.nil (WE.ret ?_)
   (obtain ⟨QK, uT, H⟩ := H.uE 1 rfl)
   refine ⟨[_], _, (uT _ (.nil _)), ⟨⟨_, rfl, aU fS (aN.aF (H.l 3 rfl) (aK.all _) rfl) (by exact dH)⟩, trivial⟩, ?_⟩
   exact ⟨rfl, H.aL⟩
 ·
  intro e_ _ US QJ P0 tK H
  exact tK.elim
def iY (x : UInt8) (k : Nat) : UInt8 := UInt8.ofNat (x.toNat / 2 ^ (8 - k) * 2 ^ (8 - k))
def gT (j q : Nat) : Nat := min (j - 8 * q) 8
def kM (l : List UInt8) (j : Nat) : List UInt8 := (List.range 32).map fun q => iY (l.getD q 0) (gT j q)
def gM (b : Int) : Nat := (min (max b 0) 256).toNat
def eB (l : List UInt8) (b : Int) : List UInt8 := kM l (gM b)
theorem cG (l : List UInt8) (j : Nat) : (kM l j).length = 32 := by simp [kM]
theorem cB (l : List UInt8) (b : Int) : (eB l b).length = 32 := cG _ _
theorem mO (l : List UInt8) (j q : Nat) (h : q < (kM l j).length) : (kM l j)[q] = iY (l.getD q 0) (gT j q) := by simp [kM]
theorem BS (l : List UInt8) (j q : Nat) (h : q < 32) : (kM l j).getD q 0 = iY (l.getD q 0) (gT j q) := by
 rw [fD (by rw [cG]; exact h), mO]
theorem iV (x : UInt8) (k : Nat) : (iY x k).toNat = x.toNat / 2 ^ (8 - k) * 2 ^ (8 - k) := by
 have h := Nat.div_mul_le_self x.toNat (2 ^ (8 - k))
 have := x.toNat_lt
 simp [iY]; omega
theorem OX (x : UInt8) : iY x 8 = x := by simp [iY]
theorem OW (l : List UInt8) (hl : l.length = 32) : kM l 256 = l := by
 apply List.ext_getElem
 ·
  rw [cG, hl]
 ·
  intro i h1 h2
  rw [mO, show gT 256 i = 8 by unfold gT; omega, OX, fD h2]
theorem Z9 (l : List UInt8) (j i : Nat) (hi : i < 32) (hl : l.length = 32) : ((List.range 32).map fun q => if q < i then iY (l.getD q 0) (gT j q) else l.getD q 0).set i (iY (l.getD i 0) (gT j i)) = (List.range 32).map fun q => if q < i + 1 then iY (l.getD q 0) (gT j q) else l.getD q 0 := by
 apply List.ext_getElem
 ·
  simp
 ·
  intro q h1 h2
  simp at h2
  rw [List.getElem_set]
  split
  ·
   rename_i h; subst h; simp
  ·
   rename_i h
   simp only [List.getElem_map, List.getElem_range]
   by_cases h3 : q < i
   ·
    rw [if_pos h3, if_pos (by omega)]
   ·
    rw [if_neg h3, if_neg (by omega)]
def jX (l : List UInt8) (j i : Nat) : List UInt8 := (List.range 32).map fun q => if q < i then iY (l.getD q 0) (gT j q) else l.getD q 0
theorem cH (l : List UInt8) (j i : Nat) : (jX l j i).length = 32 := by simp [jX]
theorem DO (l : List UInt8) (j : Nat) (hl : l.length = 32) : jX l j 0 = l := by
 apply List.ext_getElem
 ·
  rw [cH, hl]
 ·
  intro q h1 h2; simp [jX, h2]
theorem GF (l : List UInt8) (j : Nat) : jX l j 32 = kM l j := by
 unfold jX kM
 apply List.map_congr_left
 intro q hq
 rw [if_pos (by simpa using hq)]
theorem GD (l : List UInt8) (j i : Nat) (hi : i < (jX l j i).length) : (jX l j i)[i] = l.getD i 0 := by simp [jX]
theorem PB : ∀ k : Fin 9, ∀ x : Fin 256, IntKind.u8.wrap ((BitVec.ofInt IntKind.u8.bits (x.val : Int) &&& BitVec.ofInt IntKind.u8.bits (IntKind.u8.wrap (255 * 2 ^ (min ((8 : Int) - (k.val : Int)).toNat IntKind.u8.bits)))).toNat) = ((x.val / 2 ^ (8 - k.val) * 2 ^ (8 - k.val) : Nat) : Int) := by decide +kernel
theorem VK (x : UInt8) (k : Nat) (hk : k ≤ 8) (z : Int) (hz : z = 8 - (k : Int)) : IntKind.u8.wrap ((BitVec.ofInt IntKind.u8.bits (x.toNat : Int) &&& BitVec.ofInt IntKind.u8.bits (IntKind.u8.wrap (255 * 2 ^ (min z.toNat IntKind.u8.bits)))).toNat) = ((iY x k).toNat : Int) := by
 subst hz
 rw [iV]
 exact PB ⟨k, by omega⟩ ⟨x.toNat, x.toNat_lt⟩
def bI (l : List UInt8) (i : Nat) : Nat := (l.getD (i / 8) 0).toNat / 2 ^ (7 - i % 8) % 2
def AF (l : List UInt8) (i : Int) : Int := if i < 0 ∨ 255 < i then -1 else (bI l i.toNat : Int)
theorem aFE (b t : Nat) : ((b / 2 ^ t : Nat) : Int) / 2 = ((b / 2 ^ (t + 1) : Nat) : Int) := by
 rw [Nat.pow_succ, ← Nat.div_div_eq_div_mul]; omega
def jP (l : List UInt8) (i : Nat) : List UInt8 := l.set (i / 8) (if bI l i = 0 then UInt8.ofNat ((l.getD (i / 8) 0).toNat + 2 ^ (7 - i % 8)) else UInt8.ofNat ((l.getD (i / 8) 0).toNat - 2 ^ (7 - i % 8)))
theorem eA (l : List UInt8) (i : Nat) : bI l i < 2 := Nat.mod_lt _ (by decide)
theorem UT : ∀ r : Fin 8, ∀ x : Fin 256, (x.val / 2 ^ (7 - r.val) * 2 ^ (7 - r.val)) / 2 ^ (7 - r.val) % 2 = 1 → 2 ^ (7 - r.val) ≤ x.val / 2 ^ (7 - r.val) * 2 ^ (7 - r.val) ∧ x.val / 2 ^ (7 - r.val) * 2 ^ (7 - r.val) - 2 ^ (7 - r.val) = x.val / 2 ^ (8 - r.val) * 2 ^ (8 - r.val) := by decide +kernel
theorem OU : ∀ r : Fin 8, ∀ x : Fin 256, (x.val / 2 ^ (7 - r.val) * 2 ^ (7 - r.val)) / 2 ^ (7 - r.val) % 2 = 0 → x.val / 2 ^ (7 - r.val) * 2 ^ (7 - r.val) = x.val / 2 ^ (8 - r.val) * 2 ^ (8 - r.val) := by decide +kernel
theorem GS (l : List UInt8) (j : Nat) (hj : j < 256) : bI (kM l (j + 1)) j = ((l.getD (j / 8) 0).toNat / 2 ^ (7 - j % 8) * 2 ^ (7 - j % 8)) / 2 ^ (7 - j % 8) % 2 := by
 unfold bI
 rw [BS _ _ _ (by omega), iV, show 8 - gT (j + 1) (j / 8) = 7 - j % 8 by unfold gT; omega]
theorem BR (l : List UInt8) (j q : Nat) (hq : q ≠ j / 8) : gT (j + 1) q = gT j q := by unfold gT; omega
theorem OT (l : List UInt8) (j : Nat) (hj : j < 256) (h : bI (kM l (j + 1)) j ≠ 1) : kM l (j + 1) = kM l j := by
 have h0 : bI (kM l (j + 1)) j = 0 := by have := eA (kM l (j + 1)) j; omega
 rw [GS _ _ hj] at h0
 have h1 := OU ⟨j % 8, by omega⟩ ⟨(l.getD (j / 8) 0).toNat, UInt8.toNat_lt _⟩ h0
 apply List.ext_getElem
 ·
  rw [cG, cG]
 ·
  intro q h2 h3
  rw [mO, mO]
  by_cases hq : q = j / 8
  ·
   subst hq
   apply UInt8.toNat_inj.1
   rw [iV, iV, show 8 - gT (j + 1) (j / 8) = 7 - j % 8 by unfold gT; omega, show 8 - gT j (j / 8) = 8 - j % 8 by unfold gT; omega]
   exact h1
  ·
   rw [BR l j q hq]
theorem OS (l : List UInt8) (j : Nat) (hj : j < 256) (h : bI (kM l (j + 1)) j = 1) : jP (kM l (j + 1)) j = kM l j := by
 have h0 := h
 rw [GS _ _ hj] at h0
 have hh := UT ⟨j % 8, by omega⟩ ⟨(l.getD (j / 8) 0).toNat, UInt8.toNat_lt _⟩ h0
 dsimp only at hh
 obtain ⟨h1a, h1⟩ := hh
 unfold jP
 rw [if_neg (by omega)]
 apply List.ext_getElem
 ·
  simp [cG]
 ·
  intro q h2 h3
  rw [cG] at h3
  rw [List.getElem_set]
  split
  ·
   rename_i hq
   subst hq
   rw [mO]
   apply UInt8.toNat_inj.1
   rw [iV, show 8 - gT j (j / 8) = 8 - j % 8 by unfold gT; omega, BS _ _ _ (by omega)]
   have e : (iY (l.getD (j / 8) 0) (gT (j + 1) (j / 8))).toNat = (l.getD (j / 8) 0).toNat / 2 ^ (7 - j % 8) * 2 ^ (7 - j % 8) := by
    rw [iV, show 8 - gT (j + 1) (j / 8) = 7 - j % 8 by unfold gT; omega]
   rw [e]
   rw [h1]
   have h4 := Nat.div_mul_le_self (l.getD (j / 8) 0).toNat (2 ^ (8 - j % 8))
   have h5 := (l.getD (j / 8) 0).toNat_lt
   simp only [UInt8.toNat_ofNat']
   exact Nat.mod_eq_of_lt (Nat.lt_of_le_of_lt h4 h5)
  ·
   rename_i hq
   rw [mO, mO, BR l j q (fun h => hq h.symm)]
theorem aN.J1 {w : World} {b o : Nat} {t : TypeId} {l : List UInt8} (h : aN w b t (kc l)) (i : Nat) (hi : i < l.length) (ho : o = i) : dD w ⟨b, o, none⟩ [.int .u8 ((l.getD i 0).toNat : Int)] := by
 have h1 := aN.aF h (aK.byte i hi) ho
 rwa [← fD (d := 0)] at h1
def fO (bh bc : Nat) (bits : Int) (w : World) : Prop := dD w ⟨bh, 0, none⟩ [.pointer (some ⟨bc, 0, none⟩), .int .i64 bits]
theorem xR {X : Nat → Prop} {w : World} {l : List UInt8} {i : Int} (hX : c6 X w) (hl : l.length = 32) (hi : -9223372036854775808 ≤ i ∧ i ≤ 9223372036854775807) :
  bC prog 107 [.agg (kc l).toArray, .int .i64 i].toArray w fun v w' => v = .int .i64 (AF l i) ∧ Out Nil w w' := by
 refine bC.aI (N := 28) func107 rfl rfl (by simp) ?_
 have H := St.begin hX
 refine WE.aA ?_
 refine WL.box (l := kc l) H rfl rfl rfl ?_
 intro b2 w1 H
 refine WL.as rfl rfl (WL.nil (WE.seq (WE.aA (WL.mv rfl rfl (WL.pv (PV.lss rfl rfl rfl) rfl (WL.mv rfl rfl ?_))))))
 refine WL.split (t := 9) rfl (fun hg9 => ?_) (fun hg9 => ?_)
 ·
  refine WL.known (t := 8) (c := true) rfl hg9 ?_
  try simp only [bP] at hg9
  refine WL.off rfl (WL.off rfl (WL.pv (PV.c5 rfl rfl rfl) rfl (WL.nil (WE.kZ rfl (WE.aA (WL.as rfl rfl (WL.nil ?_)))))))
  refine WE.ret ⟨[_], _, .nil _, ⟨rfl, trivial⟩, ?_⟩
  refine ⟨?_, H.aL⟩
  rw [AF, if_pos (by omega)]; rfl
 ·
  refine WL.known (t := 8) (c := false) rfl hg9 ?_
  try simp only [bP] at hg9
  refine WL.mv rfl rfl (WL.pv (PV.gtr rfl rfl rfl) rfl (WL.pv (PV.cF rfl rfl rfl) rfl (WL.nil ?_)))
  refine WE.cond rfl (fun lU => ?_) (fun lU => ?_)
  ·
   try simp only [bP] at lU
   refine WE.aA (WL.as rfl rfl (WL.nil (WE.ret ⟨[_], _, .nil _, ⟨rfl, trivial⟩, ?_⟩)))
   refine ⟨?_, H.aL⟩
   rw [AF, if_pos (by omega)]; rfl
  ·
   try simp only [bP] at lU
   obtain ⟨n, rfl⟩ : ∃ n : Nat, i = (n : Int) := ⟨i.toNat, by omega⟩
   have hn : n < 256 := by omega
   have hx := (l.getD (n / 8) 0).toNat_lt
   refine WE.skip (WE.aA (WL.mv rfl rfl (WL.pv (PV.qC rfl rfl rfl (by omega) (by omega) (by omega)) rfl (WL.pv (PV.bF rfl gW gO rfl rfl (by omega) (by omega)) rfl (WL.aX rfl vD rfl rfl (aN.J1 (H.l 0 rfl) (n / 8) (by omega) (by omega)) (WL.pv (PV.lX rfl mM tE rfl (by omega) (by omega)) rfl (WL.as rfl rfl ?_)))))))
   refine WL.nil (WE.seq (WE.aA (WL.mv rfl rfl (WL.pv (PV.qB rfl rfl rfl (by omega) (by omega)) rfl (WL.as rfl rfl (WL.nil (WE.block ?_)))))))
   refine WE.loop (α := Nat) (rg [(5, 2), (20, 6)]) (fun j => [(6, .int .i64 j), (5, .int .i64 (((l.getD (n / 8) 0).toNat / 2 ^ (j - n % 8) : Nat) : Int))]) (fun j wl => n % 8 ≤ j ∧ j ≤ 7 ∧ St X w wl [] [aP.blk b2 24 (kc l)] []) (fun j => 7 - j) (n % 8) ⟨rfl, by show Value.int .i64 _ = _; rw [Nat.sub_self, Nat.pow_zero, Nat.div_one], trivial⟩ ⟨Nat.le_refl _, by omega, H⟩ ?_
   intro j γ0 w2 hI
   try dsimp only at hI
   obtain ⟨hj0, hj7, H⟩ := hI
   refine WE.seq (WE.aA (WL.mv rfl rfl (WL.pv (PV.lss rfl rfl rfl) rfl (WL.nil ?_))))
   refine WE.cond rfl (fun pF => ?_) (fun pF => ?_)
   ·
    try simp only [bP] at pF
    have hlt : j < 7 := by omega
    refine WE.skip (WE.seq (WE.block (WE.dW (WL.mv rfl rfl ?_))))
    refine WL.pv (PV.eq (v' := .int .i64 (((l.getD (n / 8) 0).toNat / 2 ^ (j + 1 - n % 8) : Nat) : Int)) (PV.qC rfl rfl rfl (by generalize (l.getD (n / 8) 0).toNat / 2 ^ (j - n % 8) = Q; omega) (by have h2 := Nat.div_le_self (l.getD (n / 8) 0).toNat (2 ^ (j - n % 8)); generalize (l.getD (n / 8) 0).toNat / 2 ^ (j - n % 8) = Q at *; omega) (by omega)) (by rw [aFE, show j + 1 - n % 8 = (j - n % 8) + 1 by omega])) rfl ?_
    refine WL.as rfl rfl (WL.nil (WE.dW (WL.mv rfl rfl (WL.pv (PV.bV rfl rfl rfl (by omega) (by omega)) rfl (WL.as rfl rfl (WL.nil ?_))))))
    exact ⟨j + 1, (by repeat (first | with_reducible exact bK.refl _ _ | refine bK.dG rfl ?_ | refine bK.bZ rfl ?_ | refine bK.bX rfl ?_)), ⟨rfl, rfl, trivial⟩, rfl, ⟨by omega, by omega, H⟩, (by omega)⟩
   ·
    try simp only [bP] at pF
    obtain rfl : j = 7 := by omega
    refine WE.exit (WE.aA (WL.mv rfl rfl (WL.pv (PV.aEH rfl rfl rfl (by omega)) rfl (WL.as rfl rfl (WL.nil (WE.ret ⟨[_], _, .nil _, ⟨rfl, trivial⟩, ?_⟩))))))
    refine ⟨?_, H.aL⟩
    rw [AF, if_neg (by omega)]
    show Value.int .i64 _ = _
    rw [Int.toNat_natCast]; rfl
theorem K0 {X : Nat → Prop} {w : World} {n : Nat} (hX : c6 X w) (hn : n < 256) :
  bC prog 204 [.int .i64 (n : Int)].toArray w fun v w' => v = .int .i64 ((2 ^ (7 - n % 8) : Nat) : Int) ∧ Out Nil w w' := by
 refine bC.aI (N := 14) func204 rfl rfl (by simp) ?_
 have H := St.begin hX
 refine WE.aA (WL.as rfl rfl (WL.nil (WE.aA (WL.as rfl rfl (WL.nil (WE.seq (WE.aA ?_)))))))
 refine WL.mv rfl rfl (WL.pv (PV.qB rfl rfl rfl (by omega) (by omega)) rfl (WL.as rfl rfl (WL.nil (WE.block ?_))))
 refine WE.loop (α := Nat) (rg [(3, 2), (7, 6)]) (fun j => [(4, .int .i64 j), (3, .int .i64 ((2 ^ (j - n % 8) : Nat) : Int))]) (fun j wl => n % 8 ≤ j ∧ j ≤ 7 ∧ St X w wl [] [] []) (fun j => 7 - j) (n % 8) ⟨rfl, by show Value.int .i64 _ = _; rw [Nat.sub_self]; rfl, trivial⟩ ⟨Nat.le_refl _, by omega, H⟩ ?_
 intro j γ0 w1 hI
 try dsimp only at hI
 obtain ⟨hj0, hj7, H⟩ := hI
 refine WE.seq (WE.aA (WL.mv rfl rfl (WL.pv (PV.lss rfl rfl rfl) rfl (WL.nil ?_))))
 refine WE.cond rfl (fun l8 => ?_) (fun l8 => ?_)
 ·
  try simp only [bP] at l8
  have hlt : j < 7 := by omega
  refine WE.skip (WE.seq (WE.block (WE.dW (WL.mv rfl rfl ?_))))
  refine WL.pv (PV.eq (v' := .int .i64 ((2 ^ (j + 1 - n % 8) : Nat) : Int)) (PV.mL rfl rfl rfl (by generalize 2 ^ (j - n % 8) = P; omega) (by have h1 : 2 ^ (j - n % 8) ≤ 2 ^ 7 := Nat.pow_le_pow_right (by decide) (by omega); generalize 2 ^ (j - n % 8) = P at *; omega)) (by rw [show j + 1 - n % 8 = (j - n % 8) + 1 by omega, Nat.pow_succ]; push_cast; rfl)) rfl ?_
  refine WL.as rfl rfl (WL.nil (WE.dW (WL.mv rfl rfl (WL.pv (PV.bV rfl rfl rfl (by omega) (by omega)) rfl (WL.as rfl rfl (WL.nil ?_))))))
  exact ⟨j + 1, (by repeat (first | with_reducible exact bK.refl _ _ | refine bK.dG rfl ?_ | refine bK.bZ rfl ?_ | refine bK.bX rfl ?_)), ⟨rfl, rfl, trivial⟩, rfl, ⟨by omega, by omega, H⟩, (by omega)⟩
 ·
  try simp only [bP] at l8
  obtain rfl : j = 7 := by omega
  refine WE.exit (WE.aA (WL.mv rfl rfl (WL.as rfl rfl (WL.nil (WE.ret ⟨[_], _, .nil _, ⟨rfl, trivial⟩, ?_⟩)))))
  exact ⟨rfl, H.aL⟩
theorem aDT {X : Nat → Prop} {w : World} {l : List UInt8} {n : Nat} (hX : c6 X w) (hl : l.length = 32) (hn : n < 256) :
  bC prog 191 [.agg (kc l).toArray, .int .i64 (n : Int)].toArray w fun v w' => v = .agg (kc (jP l n)).toArray ∧ Out Nil w w' := by
 refine bC.aI (N := 37) func191 rfl rfl (by simp) ?_
 have H := St.begin hX
 have hb := eA l n
 have hB : AF l n = (bI l n : Int) := by rw [AF, if_neg (by omega), Int.toNat_natCast]
 have hx := (l.getD (n / 8) 0).toNat_lt
 have hp : 2 ^ (7 - n % 8) ≤ 128 := Nat.le_trans (Nat.pow_le_pow_right (by decide) (show 7 - n % 8 ≤ 7 by omega)) (by decide)
 have FO : (jP l n).length = 32 := by simp [jP, hl]
 refine WE.aA ?_
 refine WL.box (l := kc l) H rfl rfl rfl ?_
 intro b2 w1 H
 refine WL.alloc H rfl q7 rfl ?_
 intro b4 w2 H
 refine WL.nil (WE.seq (WE.aA ?_))
 refine WL.bE rfl c7 rfl rfl (aN.aF (H.l 1 rfl) (aK.all _) rfl) (cI cM (by simp only [aS, cB, cG, cH, c9]; omega)) ?_
 refine WL.mv rfl rfl ?_
 refine WL.call UF rfl (xR (l := l) (i := (n : Int)) H.aR hl (by omega)) ?_
 rintro _ w3 ⟨rfl, hO⟩
 replace H := H.out hO
 refine WL.nil (WE.block (WE.aA (WL.pv (PV.eql rfl rfl rfl) rfl (WL.as rfl rfl (WL.nil ?_)))))
 refine WE.cond rfl (fun l8 => ?_) (fun l8 => ?_)
 ·
  try simp only [bP] at l8
  have h0 : bI l n = 0 := by omega
  refine WE.draw (.take 0 (.take 1 (.take 2 (.take 3 (.take 4 (.take 5 (.take 6 (.take 7 (.aG 8 (.take 9 (.take 10 (.take 11 (.aG 12 .done))))))))))))) mixed (by kernel_rfl) ?_
  replace H := H.out (Out.drew _)
  refine WP.mv rfl rfl rfl (WP.aC rfl rfl (PV.qC rfl rfl rfl (by omega) (by omega) (by omega)) (WP.mv rfl rfl rfl (WP.aC rfl rfl (PV.qC rfl rfl rfl (by omega) (by omega) (by omega)) (WP.aC rfl rfl (PV.bF rfl gW gO rfl rfl (by omega) (by omega)) (WP.aM rfl rfl (RV.aV rfl vD rfl) (aN.J1 (H.l 1 rfl) (n / 8) (by omega) (by omega)) (WP.aC rfl rfl (PV.lX rfl mM tE rfl (by omega) (by omega)) (WP.mv rfl rfl rfl ?_)))))))
  refine WP.aG rfl ?_
  refine WL.call aBw rfl (K0 (n := n) H.aR hn) ?_
  rintro _ w4 ⟨rfl, hO⟩
  replace H := H.out hO
  refine WL.nil ⟨(fa (rk hO) c8), ?_⟩
  refine WP.aC rfl rfl (PV.eq (v' := .int .i64 (((l.getD (n / 8) 0).toNat + 2 ^ (7 - n % 8) : Nat) : Int)) (PV.bV rfl rfl rfl (by generalize 2 ^ (7 - n % 8) = P at *; omega) (by generalize 2 ^ (7 - n % 8) = P at *; omega)) rfl) ?_
  refine WP.aC rfl rfl (PV.JY (n := (l.getD (n / 8) 0).toNat + 2 ^ (7 - n % 8)) rfl tE mM rfl) (WP.aC rfl rfl (PV.bF rfl gW gO rfl rfl (by omega) (by omega)) (WP.aG rfl ?_))
  refine WL.aW H 1 rfl rfl rfl (new := _) rfl (by exact gO) (bB _ rfl) (Laid.at (Laid.tQ (n / 8) (by omega)) (by omega)) rfl ?_
  intro w5 H
  replace H := H.conv (L' := [aP.blk b4 24 (kc (List.replicate 32 0)), aP.blk b2 24 (kc (jP l n))]) (by rw [jP, if_pos h0]; rfl)
  refine WL.nil ⟨(fa (nw 12 5) c8), ?_⟩
  refine WP.done (WE.aA ?_)
  refine WL.bE rfl c7 rfl rfl (aN.aF (H.l 1 rfl) (aK.all _) rfl) (cI cM (by simp only [aS, cB, cG, cH, c9]; omega)) ?_
  refine WL.aW H 0 rfl rfl rfl (new := _) rfl (cI cM (by simp only [aS, cB, cG, cH, c9]; omega)) (bH _) (Laid.at (Laid.all (by simp only [aS, cB, cG, cH, c9]; omega)) rfl) rfl ?_
  intro w6 H
  refine WL.nil (WE.ret ⟨[_], _, .nil _, ⟨⟨_, rfl, aU c7 (aN.aF (H.l 0 rfl) (aK.all _) rfl) (cI cM (by simp only [aS, cB, cG, cH, c9]; omega))⟩, trivial⟩, ?_⟩)
  exact ⟨rfl, H.aL⟩
 ·
  try simp only [bP] at l8
  have h1 : bI l n = 1 := by omega
  have hge : 2 ^ (7 - n % 8) ≤ (l.getD (n / 8) 0).toNat := by unfold bI at h1; rcases Nat.lt_or_ge (l.getD (n / 8) 0).toNat (2 ^ (7 - n % 8)) with h | h; rw [Nat.div_eq_of_lt h] at h1; omega; exact h
  refine WE.aA (WL.pv (PV.eql rfl rfl rfl) rfl (WL.as rfl rfl (WL.nil ?_)))
  refine WE.cR rfl (decide_eq_true (by omega)) ?_
  refine WE.draw (.take 0 (.take 1 (.take 2 (.take 3 (.take 4 (.take 5 (.take 6 (.take 7 (.aG 8 (.take 9 (.take 10 (.take 11 (.aG 12 .done))))))))))))) mixed (by kernel_rfl) ?_
  replace H := H.out (Out.drew _)
  refine WP.mv rfl rfl rfl (WP.aC rfl rfl (PV.qC rfl rfl rfl (by omega) (by omega) (by omega)) (WP.mv rfl rfl rfl (WP.aC rfl rfl (PV.qC rfl rfl rfl (by omega) (by omega) (by omega)) (WP.aC rfl rfl (PV.bF rfl gW gO rfl rfl (by omega) (by omega)) (WP.aM rfl rfl (RV.aV rfl vD rfl) (aN.J1 (H.l 1 rfl) (n / 8) (by omega) (by omega)) (WP.aC rfl rfl (PV.lX rfl mM tE rfl (by omega) (by omega)) (WP.mv rfl rfl rfl ?_)))))))
  refine WP.aG rfl ?_
  refine WL.call aBw rfl (K0 (n := n) H.aR hn) ?_
  rintro _ w7 ⟨rfl, hO⟩
  replace H := H.out hO
  refine WL.nil ⟨(fa (rk hO) c8), ?_⟩
  refine WP.aC rfl rfl (PV.eq (v' := .int .i64 (((l.getD (n / 8) 0).toNat - 2 ^ (7 - n % 8) : Nat) : Int)) (PV.gE rfl rfl rfl (by generalize 2 ^ (7 - n % 8) = P at *; omega) (by generalize 2 ^ (7 - n % 8) = P at *; omega)) (by (congr 1; omega))) ?_
  refine WP.aC rfl rfl (PV.JY (n := (l.getD (n / 8) 0).toNat - 2 ^ (7 - n % 8)) rfl tE mM rfl) (WP.aC rfl rfl (PV.bF rfl gW gO rfl rfl (by omega) (by omega)) (WP.aG rfl ?_))
  refine WL.aW H 1 rfl rfl rfl (new := _) rfl (by exact gO) (bB _ rfl) (Laid.at (Laid.tQ (n / 8) (by omega)) (by omega)) rfl ?_
  intro w8 H
  replace H := H.conv (L' := [aP.blk b4 24 (kc (List.replicate 32 0)), aP.blk b2 24 (kc (jP l n))]) (by rw [jP, if_neg (by omega)]; rfl)
  refine WL.nil ⟨(fa (nw 12 5) c8), ?_⟩
  refine WP.done (WE.aA ?_)
  refine WL.bE rfl c7 rfl rfl (aN.aF (H.l 1 rfl) (aK.all _) rfl) (cI cM (by simp only [aS, cB, cG, cH, c9]; omega)) ?_
  refine WL.aW H 0 rfl rfl rfl (new := _) rfl (cI cM (by simp only [aS, cB, cG, cH, c9]; omega)) (bH _) (Laid.at (Laid.all (by simp only [aS, cB, cG, cH, c9]; omega)) rfl) rfl ?_
  intro w9 H
  refine WL.nil (WE.ret ⟨[_], _, .nil _, ⟨⟨_, rfl, aU c7 (aN.aF (H.l 0 rfl) (aK.all _) rfl) (cI cM (by simp only [aS, cB, cG, cH, c9]; omega))⟩, trivial⟩, ?_⟩)
  exact ⟨rfl, H.aL⟩
theorem V4 {X : Nat → Prop} {w : World} {l : List UInt8} {i : Int} (hX : c6 X w) (hl : l.length = 32) (hi : -9223372036854775808 ≤ i ∧ i ≤ 9223372036854775807) :
  bC prog 154 [.agg (kc l).toArray, .int .i64 i].toArray w fun v w' => v = .agg (kc (eB l i)).toArray ∧ Out Nil w w' := by
 refine bC.aI (N := 21) func154 rfl rfl (by simp) ?_
 have H := St.begin hX
 have hc : gM i ≤ 256 := by unfold gM; omega
 refine WE.aA ?_
 refine WL.box (l := kc l) H rfl rfl rfl ?_
 intro b2 w1 H
 refine WL.alloc H rfl q7 rfl ?_
 intro b4 w2 H
 refine WL.nil ?_
 refine WE.cut (α := Unit) [1, 6, 7] (fun _ => [(1, .int .i64 (max i 0))]) (fun _ wl => St X w wl [] [aP.blk b4 24 (kc (List.replicate 32 0)), aP.blk b2 24 (kc l)] []) ?_ ?_
 ·
  refine WE.aA (WL.mv rfl rfl (WL.pv (PV.lss rfl rfl rfl) rfl (WL.nil ?_)))
  refine WE.cond rfl (fun wG => ?_) (fun wG => ?_)
  ·
   try simp only [bP] at wG
   refine WE.dW (WL.as rfl rfl (WL.nil ?_))
   exact ⟨(), (by repeat (first | with_reducible exact bK.refl _ _ | refine bK.dG rfl ?_)), ⟨by (show Value.int .i64 _ = _; congr 1; omega), trivial⟩, rfl, H⟩
  ·
   try simp only [bP] at wG
   refine WE.skip ?_
   exact ⟨(), (by repeat (first | with_reducible exact bK.refl _ _ | refine bK.dG rfl ?_)), ⟨by (show Value.int .i64 _ = _; congr 1; omega), trivial⟩, rfl, H⟩
 ·
  intro _ γ w3 hI
  try dsimp only at hI
  replace H := hI
  refine WE.seq (WE.aA (WL.as rfl rfl (WL.nil (WE.block ?_))))
  refine WE.loop (α := Nat) (rg [(5, 1), (8, 12)]) (fun j => [(5, .int .i64 ((j : Int) - 1))]) (fun j wl => (max i 0 ≤ (j : Int) ∨ j = 256) ∧ gM i ≤ j ∧ j ≤ 256 ∧ St X w wl [] [aP.blk b4 24 (kc (List.replicate 32 0)), aP.blk b2 24 (kc (kM l j))] []) (fun j => j) 256 ⟨rfl, trivial⟩ ⟨.inr rfl, hc, Nat.le_refl _, by rw [OW l hl]; exact H⟩ ?_
  intro j γ0 w4 hI
  try dsimp only at hI
  obtain ⟨hm, hj0, hj1, H⟩ := hI
  have qH := cG l j
  refine WE.seq (WE.aA (WL.mv rfl rfl (WL.mv rfl rfl (WL.pv (PV.geq rfl rfl rfl) rfl (WL.nil ?_)))))
  refine WE.cond rfl (fun kD => ?_) (fun kD => ?_)
  ·
   try simp only [bP] at kD
   obtain ⟨k, rfl⟩ : ∃ k, j = k + 1 := ⟨j - 1, by omega⟩
   have hk : k < 256 := by omega
   have rA := cG l k
   have hB : AF (kM l (k + 1)) ((k + 1 : Nat) - 1 : Int) = (bI (kM l (k + 1)) k : Int) := by rw [AF, if_neg (by omega)]; congr 2; omega
   refine WE.skip (WE.seq (WE.block (WE.aA ?_)))
   refine WL.bE rfl c7 rfl rfl (aN.aF (H.l 1 rfl) (aK.all _) rfl) (by exact cM) ?_
   refine WL.mv rfl rfl ?_
   refine WL.call UF rfl (xR (l := kM l (k + 1)) (i := ((k + 1 : Nat) - 1 : Int)) H.aR (cG _ _) (by omega)) ?_
   rintro _ w5 ⟨rfl, hO⟩
   replace H := H.out hO
   refine WL.pv (PV.eql rfl rfl rfl) rfl (WL.nil ?_)
   refine WE.cond rfl (fun nO => ?_) (fun nO => ?_)
   ·
    try simp only [bP] at nO
    have h1 : bI (kM l (k + 1)) k = 1 := by omega
    have hE := OS l k hk h1
    refine WE.dW ?_
    refine WL.bE rfl c7 rfl rfl (aN.aF (H.l 1 rfl) (aK.all _) rfl) (by exact cM) ?_
    refine WL.pv (PV.eq (v' := .int .i64 (k : Int)) (PV.move rfl) (by show Value.int .i64 _ = _; congr 1; omega)) rfl ?_
    refine WL.call aGM rfl (aDT (l := kM l (k + 1)) (n := k) H.aR (cG _ _) hk) ?_
    rintro _ w6 ⟨rfl, hO⟩
    replace H := H.out hO
    refine WL.aW H 1 rfl rfl rfl (new := _) rfl (by (rw [cM]; refine congrArg some ?_; (simp [aJ, aQ, *]; done))) (bH _) (Laid.at (Laid.all (by simp [aJ, aQ, *])) rfl) rfl ?_
    intro w7 H
    refine WL.nil (WE.dW (WL.mv rfl rfl ?_))
    refine WL.pv (PV.eq (v' := .int .i64 ((k : Int) - 1)) (PV.gE rfl rfl rfl (by omega) (by omega)) (by congr 1; omega)) rfl ?_
    refine WL.as rfl rfl (WL.nil ?_)
    replace H := H.conv (L' := [aP.blk b4 24 (kc (List.replicate 32 0)), aP.blk b2 24 (kc (kM l k))]) (by (rw [← hE]; rfl))
    exact ⟨k, (by repeat (first | with_reducible exact bK.refl _ _ | refine bK.dG rfl ?_ | refine bK.bZ rfl ?_ | refine bK.bX rfl ?_)), ⟨rfl, trivial⟩, rfl, ⟨by unfold gM at *; omega, by unfold gM at *; omega, by omega, H⟩, (by omega)⟩
   ·
    try simp only [bP] at nO
    have h1 : bI (kM l (k + 1)) k ≠ 1 := by omega
    have hE := OT l k hk h1
    refine WE.skip (WE.dW (WL.mv rfl rfl ?_))
    refine WL.pv (PV.eq (v' := .int .i64 ((k : Int) - 1)) (PV.gE rfl rfl rfl (by omega) (by omega)) (by congr 1; omega)) rfl ?_
    refine WL.as rfl rfl (WL.nil ?_)
    replace H := H.conv (L' := [aP.blk b4 24 (kc (List.replicate 32 0)), aP.blk b2 24 (kc (kM l k))]) (by (rw [hE]; done))
    exact ⟨k, (by repeat (first | with_reducible exact bK.refl _ _ | refine bK.dG rfl ?_ | refine bK.bZ rfl ?_ | refine bK.bX rfl ?_)), ⟨rfl, trivial⟩, rfl, ⟨by unfold gM at *; omega, by unfold gM at *; omega, by omega, H⟩, (by omega)⟩
  ·
   try simp only [bP] at kD
   have hj : j = gM i := by unfold gM at *; omega
   refine WE.exit (WE.aA ?_)
   refine WL.bE rfl c7 rfl rfl (aN.aF (H.l 1 rfl) (aK.all _) rfl) (by exact cM) ?_
   refine WL.aW H 0 rfl rfl rfl (new := _) rfl (by exact cM) (bH _) (Laid.at (Laid.all (by simp only [aS, cB, cG, cH, c9])) rfl) rfl ?_
   intro w8 H
   refine WL.nil (WE.ret ⟨[_], _, .nil _, ⟨⟨_, rfl, aU c7 (aN.aF (H.l 0 rfl) (aK.all _) rfl) (by exact cM)⟩, trivial⟩, ?_⟩)
   subst hj
   exact ⟨rfl, H.aL⟩
theorem RH {X : Nat → Prop} {w : World} {l : List UInt8} {i : Int} (hX : c6 X w) (hl : l.length = 32) (hi : -9223372036854775808 ≤ i ∧ i ≤ 9223372036854775807) :
  bC prog 103 [.agg (kc l).toArray, .int .i64 i].toArray w fun v w' => v = .agg (kc (eB l i)).toArray ∧ Out Nil w w' := by
 refine bC.aI (N := 8) func103 rfl rfl (by simp) ?_
 have H := St.begin hX
 refine WE.aA ?_
 refine WL.box (l := kc l) H rfl rfl rfl ?_
 intro b2 w1 H
 refine WL.alloc H rfl lB rfl ?_
 intro b4 w2 H
 refine WL.nil (WE.aA ?_)
 refine WL.bE rfl fS rfl rfl (aN.aF (H.l 1 rfl) (aK.all _) rfl) (cI dH (by simp only [aS, cB, cG, cH, c9]; omega)) ?_
 refine WL.mv rfl rfl ?_
 refine WL.call aG5 rfl (V4  H.aR  (by assumption) (by assumption)) ?_
 rintro _ w3 ⟨rfl, hO⟩
 replace H := H.out hO
 refine WL.aW H 0 rfl rfl rfl (new := _) rfl (by exact dH) (bH _) (Laid.at (Laid.all (by simp only [aS, cB, cG, cH, c9])) rfl) rfl ?_
 intro w4 H
 refine WL.nil (WE.ret ⟨[_], _, .nil _, ⟨⟨_, rfl, aU fS (aN.aF (H.l 0 rfl) (aK.all _) rfl) (by exact dH)⟩, trivial⟩, ?_⟩)
 exact ⟨rfl, H.aL⟩
theorem qQ {X : Nat → Prop} {w : World} {a : Value} {la : List UInt8} {i : Int} (hX : c6 X w) (bT : aH X (bL a la) w) (rY : la.length ≤ 1000000000) (hi : -9223372036854775808 ≤ i ∧ i ≤ 9223372036854775807) :
  bC prog 63 [.int .i64 i, a].toArray w fun v w' => v = .agg (kc (eB (cZ la) i)).toArray ∧ Out Nil w w' := by
 refine bC.aI (N := 9) func63 rfl rfl (by simp) ?_
 have H := (St.begin hX).add (cE bT)
 refine WE.aA ?_
 refine WL.alloc H rfl lB rfl ?_
 intro b4 w1 H
 refine WL.nil (WE.aA (WL.mv rfl rfl ?_))
 refine WL.call aHA rfl (RE (la := la) H.aR (H.bJ 0 rfl) rY) ?_
 rintro _ w2 ⟨rfl, hO⟩
 replace H := H.out hO
 refine WL.mv rfl rfl ?_
 refine WL.call aHB rfl (RH (l := cZ la) (i := i) H.aR (c9 _) hi) ?_
 rintro _ w3 ⟨rfl, hO⟩
 replace H := H.out hO
 refine WL.aW H 0 rfl rfl rfl (new := _) rfl (by exact dH) (bH _) (Laid.at (Laid.all (by simp only [aS, cB, cG, cH, c9])) rfl) rfl ?_
 intro w4 H
 refine WL.nil (WE.ret ⟨[_], _, .nil _, ⟨⟨_, rfl, aU fS (aN.aF (H.l 0 rfl) (aK.all _) rfl) (by exact dH)⟩, trivial⟩, ?_⟩)
 exact ⟨rfl, H.aL⟩
theorem aAv {X : Nat → Prop} {w : World} {i : Int} (hX : c6 X w) :
  bC prog 28 [.int .i64 i].toArray w fun v w' => v = .bool (decide (0 ≤ i ∧ i ≤ 256)) ∧ Out Nil w w' := by
 refine bC.aI (N := 9) func28 rfl rfl (by simp) ?_
 have H := St.begin hX
 refine WE.aA (WL.as rfl rfl (WL.nil (WE.aA (WL.mv rfl rfl (WL.pv (PV.geq rfl rfl rfl) rfl (WL.mv rfl rfl ?_))))))
 refine WL.split (t := 5) rfl (fun S8 => ?_) (fun S8 => ?_)
 ·
  refine WL.known (t := 4) (c := true) rfl S8 ?_
  try simp only [bP] at S8
  refine WL.mv rfl rfl (WL.pv (PV.leq rfl rfl rfl) rfl (WL.pv (PV.c5 rfl rfl rfl) rfl (WL.as rfl rfl (WL.nil (WE.ret ⟨[_], _, .nil _, ⟨rfl, trivial⟩, ?_⟩)))))
  refine ⟨?_, H.aL⟩
  show Value.bool _ = _
  congr 1
  (rw [decide_eq_decide]; omega)
 ·
  refine WL.known (t := 4) (c := false) rfl S8 ?_
  try simp only [bP] at S8
  refine WL.off rfl (WL.off rfl (WL.pv (PV.cF rfl rfl rfl) rfl (WL.as rfl rfl (WL.nil (WE.ret ⟨[_], _, .nil _, ⟨rfl, trivial⟩, ?_⟩)))))
  refine ⟨?_, H.aL⟩
  show Value.bool _ = _
  congr 1
  (symm; exact decide_eq_false (by omega))
theorem aIs {X : Nat → Prop} {w : World} {l : List UInt8} {i : Int} (hX : c6 X w) (hl : l.length = 32) (hi : -9223372036854775808 ≤ i ∧ i ≤ 9223372036854775807) :
  bC prog 108 [.agg (kc l).toArray, .int .i64 i].toArray w fun v w' => v = .agg (kc (eB l i)).toArray ∧ Out Nil w w' := by
 refine bC.aI (N := 29) func108 rfl rfl (by simp) ?_
 have H := St.begin hX
 have hc : ((gM i : Nat) : Int) = min (max i 0) 256 := by unfold gM; omega
 refine WE.aA ?_
 refine WL.box (l := kc l) H rfl rfl rfl ?_
 intro b2 w1 H
 refine WL.alloc H rfl lB rfl ?_
 intro b4 w2 H
 refine WL.nil (WE.aA (WL.mv rfl rfl (WL.pv (PV.aEZ rfl rfl) rfl ?_)))
 refine WL.pv (PV.eq (v' := .int .i64 ((gM i : Nat) : Int)) (PV.aCx rfl rfl) (by rw [hc])) rfl ?_
 refine WL.as rfl rfl (WL.nil (WE.seq (WE.aA (WL.mv rfl rfl (WL.nil (WE.block ?_))))))
 refine WE.loop (α := Nat) (rg [(5, 2), (10, 18)]) (fun q => [(10, .int .i64 q)]) (fun q wl => q ≤ 32 ∧ St X w wl [] [aP.blk b4 30 (kc (List.replicate 32 0)), aP.blk b2 30 (kc (jX l (gM i) q))] []) (fun q => 32 - q) 0 ⟨rfl, trivial⟩ ⟨Nat.zero_le _, by rw [DO _ _ hl]; exact H⟩ ?_
 intro q γ0 w3 hI
 try dsimp only at hI
 obtain ⟨hq, H⟩ := hI
 have hcp := cH l (gM i) q
 have hk8 : gT (gM i) q ≤ 8 := by unfold gT; omega
 refine WE.aA (WL.pv (PV.lss rfl rfl rfl) rfl (WL.nil (WE.seq ?_)))
 refine WE.cond rfl (fun j3 => ?_) (fun j3 => ?_)
 ·
  try simp only [bP] at j3
  have hlt : q < 32 := by omega
  refine WE.skip (WE.seq (WE.block (WE.aA (WL.mv rfl rfl (WL.as rfl rfl (WL.nil (WE.aA ?_)))))))
  refine WL.mv rfl rfl (WL.mv rfl rfl (WL.pv (PV.mL rfl rfl rfl (by omega) (by omega)) rfl (WL.pv (PV.gE rfl rfl rfl (by omega) (by omega)) rfl (WL.pv (PV.aEZ rfl rfl) rfl ?_))))
  refine WL.pv (PV.eq (v' := .int .i64 ((gT (gM i) q : Nat) : Int)) (PV.aCx rfl rfl) (by congr 1; unfold gT; omega)) rfl ?_
  refine WL.as rfl rfl (WL.nil ?_)
  refine WE.draw (.take 0 (.take 1 (.take 2 (.take 3 (.take 4 (.take 5 (.take 6 (.take 7 (.aG 8 .done))))))))) mixed (by kernel_rfl) ?_
  replace H := H.out (Out.drew _)
  refine WP.mv rfl rfl rfl (WP.aC rfl rfl (PV.bF rfl pN gO rfl rfl (by omega) (by omega)) ?_)
  refine WP.aM rfl rfl (RV.aV rfl vD rfl) (by have h1 := aN.aF (o' := 0 + (q : Int).toNat * 1) (H.l 1 rfl) (aK.byte q (by rw [cH]; exact hlt)) (by omega); rw [GD] at h1; exact h1) ?_
  refine WP.mv rfl rfl rfl (WP.aC rfl rfl (PV.gE rfl rfl rfl (by omega) (by omega)) (WP.aC rfl rfl (PV.XY rfl rfl rfl (by omega)) ?_))
  refine WP.aC rfl rfl (PV.eq (v' := .int .u8 ((iY (l.getD q 0) (gT (gM i) q)).toNat : Int)) (PV.J9 rfl rfl rfl) (congrArg (Value.int .u8) (VK _ _ (by unfold gT; omega) _ rfl))) ?_
  refine WP.aC rfl rfl (PV.bF rfl pN gO rfl rfl (by omega) (by omega)) (WP.aG rfl ?_)
  refine WL.aW H 1 rfl rfl rfl (new := _) rfl (by exact gO) (bB _ rfl) (Laid.at (Laid.tQ q (by rw [cH]; exact hlt)) (by simp)) rfl ?_
  intro w4 H
  refine WL.nil ⟨(fa (nw 8 2) c8), ?_⟩
  refine WP.done (WE.dW (WL.pv (PV.bV rfl rfl rfl (by omega) (by omega)) rfl (WL.mv rfl rfl (WL.nil ?_))))
  replace H := H.conv (L' := [aP.blk b4 30 (kc (List.replicate 32 0)), aP.blk b2 30 (kc (jX l (gM i) (q + 1)))]) (by rw [show (jX l (gM i) q).set q _ = _ from Z9 l (gM i) q hlt hl]; rfl)
  exact ⟨q + 1, (by repeat (first | with_reducible exact bK.refl _ _ | refine bK.dG rfl ?_ | refine bK.bZ rfl ?_ | refine bK.bX rfl ?_)), ⟨rfl, trivial⟩, rfl, ⟨by omega, H⟩, (by omega)⟩
 ·
  try simp only [bP] at j3
  obtain rfl : q = 32 := by omega
  refine WE.exit (WE.aA ?_)
  rw [GF] at H
  have qH := cG l (gM i)
  refine WL.bE rfl fS rfl rfl (aN.aF (H.l 1 rfl) (aK.all _) rfl) (by exact dH) ?_
  refine WL.aW H 0 rfl rfl rfl (new := _) rfl (by exact dH) (bH _) (Laid.at (Laid.all (by simp only [aS, cB, cG, cH, c9])) rfl) rfl ?_
  intro w5 H
  refine WL.nil (WE.ret ⟨[_], _, .nil _, ⟨⟨_, rfl, aU fS (aN.aF (H.l 0 rfl) (aK.all _) rfl) (by exact dH)⟩, trivial⟩, ?_⟩)
  exact ⟨rfl, H.aL⟩
theorem aIj {X : Nat → Prop} {w : World} {i : Int} (hX : c6 X w) (bU : 0 ≤ i ∧ i ≤ 256) :
  bC prog 70 [.int .i64 i].toArray w fun v w' => ∃ bh bc, v = .tuple [.pointer (some ⟨bh, 0, none⟩), .int .i64 0].toArray ∧ Out Nil w w' ∧ w.heap.size ≤ bc ∧ aN w' bc 213 [.int .i64 0] ∧ aH (fun c => X c ∨ c = bc) (fO bh bc i) w' := by
 refine bC.aI (N := 15) func70 rfl rfl (by simp) ?_
 have H := St.begin hX
 refine WE.aA (WL.as rfl rfl (WL.as rfl rfl (WL.nil (WE.seq (WE.aA (WL.mv rfl rfl (WL.pv (PV.lss rfl rfl rfl) rfl ?_)))))))
 refine WL.mv rfl rfl ?_
 refine WL.split (t := 6) rfl (fun hg6 => ?_) (fun hg6 => ?_)
 ·
  refine WL.known (t := 5) (c := true) rfl hg6 ?_
  try simp only [bP] at hg6
  exfalso; omega
 ·
  refine WL.known (t := 5) (c := false) rfl hg6 ?_
  try simp only [bP] at hg6
  refine WL.mv rfl rfl (WL.pv (PV.gtr rfl rfl rfl) rfl (WL.pv (PV.cF rfl rfl rfl) rfl (WL.nil ?_)))
  refine WE.bD rfl (by simp; omega) ?_
  refine WE.skip (WE.aA (WL.pv (PV.dQ rfl aEN aD8 Fl.nil) rfl ?_))
  refine WL.box (l := _) H rfl rfl rfl ?_
  intro VC w1 H
  refine WL.mv rfl rfl ?_
  refine WL.pv (PV.dQ rfl aEO aD9 (Fl.cons rfl rfl (by simp only [aS, cB, cG, cH, c9]) Laid.head (Fl.cons rfl rfl (by simp only [aS, cB, cG, cH, c9]) (Laid.tail Laid.head rfl) Fl.nil))) rfl ?_
  refine WL.box (l := _) H rfl rfl rfl ?_
  intro vW w2 H
  refine WL.as rfl rfl (WL.as rfl rfl (WL.nil (WE.ret ⟨[_, _], _, .nil _, ⟨rfl, rfl, trivial⟩, ?_⟩)))
  replace H := H.freeze (i := 0) rfl
  exact ⟨_, _, rfl, H.aL, H.kI _ (List.mem_of_getElem? (i := 0) rfl) _ rfl, H.l 0 rfl, (H.aBt 0 rfl).imp fun _ h => h.rd⟩
theorem sJ {X : Nat → Prop} {w : World} {bh bc : Nat} {bits n : Int} {a : Value} {la : List UInt8} (hX : c6 X w) (fA : aN w bc 213 ([.int .i64 n])) (bT : aH (fun c_ => X c_ ∨ c_ = bc) (fO bh bc bits) w) (dJ : aH (fun c_ => X c_ ∨ c_ = bc) (bL a la) w) (fQ : aH (fun c_ => X c_ ∨ c_ = bc) (aZ) w) (bU : 0 ≤ bits ∧ bits ≤ 256) (rY : la.length ≤ 1000000000) :
  bC prog 68 [.pointer (some ⟨bh, 0, none⟩), a].toArray w fun v w' => v = .agg (kc (eB (cZ la) bits)).toArray ∧ Out (· = bc) w w' ∧ aN w' bc 213 [.int .i64 (IntKind.i64.wrap (n + 1))] := by
 refine bC.aI (N := 25) func68 rfl rfl (by simp) ?_
 have H := (((St.dK (b := bc) (t := 213) (l := [.int .i64 n]) hX fA).add (cC fQ)).add (cC dJ)).add (cC bT)
 refine WE.aA ?_
 refine WL.alloc H rfl lB rfl ?_
 intro b4 w1 H
 refine WL.nil (WE.seq (WE.aA (WL.mv rfl rfl (WL.pv (PV.jU rfl aEK rfl rfl) rfl (WL.nil ?_)))))
 refine WE.bD rfl rfl ?_
 refine WE.skip (WE.aA (WL.mv rfl rfl (WL.pv (PV.nilCheck rfl rfl) rfl (WL.pv (PV.fieldAddr rfl ZU rfl) rfl ?_))))
 refine WL.aX rfl aH8 rfl rfl (by exact dD.at_ (o := 0) (H.p 0 rfl) rfl rfl) ?_
 refine WL.pv (PV.nilCheck rfl rfl) rfl (WL.pv (PV.fieldAddr rfl MA rfl) rfl (WL.aX rfl l9 rfl rfl (aN.aF (H.o 0 rfl) aK.hd rfl) (WL.pv (PV.KB rfl rfl rfl) rfl (WL.pv (PV.nilCheck rfl rfl) rfl (WL.pv (PV.fieldAddr rfl MA rfl) rfl ?_)))))
 refine WL.lQ H 0 rfl rfl rfl (new := _) rfl (by exact sz3) (bB _ rfl) (Laid.at Laid.head rfl) rfl ?_
 intro w2 H
 refine WL.nil ?_
 refine WE.bG (.take 0 (.take 2 (.take 3 (.take 4 (.take 5 (.aG 1 (.aG 6 (.aG 7 .done)))))))) mixed (by kernel_rfl) ?_
 replace H := H.out (Out.drew _)
 refine WP.mv rfl rfl rfl (WP.mv rfl rfl rfl (WP.aC rfl rfl (PV.nilCheck rfl rfl) (WP.aC rfl rfl (PV.fieldAddr rfl ZT rfl) ?_)))
 refine WP.aM rfl rfl (RV.aV rfl l9 rfl) (by exact dD.at_ (o := 1) (H.p 0 rfl) rfl rfl) ?_
 refine WP.aG rfl ?_
 refine WL.call aHx rfl (aIe (la := la) H.aR (H.bJ 1 rfl) (H.bJ 2 rfl) rY) ?_
 rintro _ w3 ⟨rfl, hO⟩
 replace H := H.out hO
 refine WL.nil ⟨(fa (rk hO) c8), ?_⟩
 refine WP.aG rfl ?_
 refine WL.call aHy rfl (aIs (l := cZ la) (i := bits) H.aR (c9 _) (by omega)) ?_
 rintro _ w4 ⟨rfl, hO⟩
 replace H := H.out hO
 refine WL.nil ⟨(fa (nw 6 5) c8), ?_⟩
 refine WP.aG rfl ?_
 refine WL.aW H 0 rfl rfl rfl (new := _) rfl (by exact dH) (bH _) (Laid.at (Laid.all (by simp only [aS, cB, cG, cH, c9])) rfl) rfl ?_
 intro w5 H
 refine WL.nil ⟨(fa (nw 7 5) c8), ?_⟩
 refine WP.done (WE.ret ⟨[_], _, .nil _, ⟨⟨_, rfl, aU fS (aN.aF (H.l 0 rfl) (aK.all _) rfl) (by exact dH)⟩, trivial⟩, ?_⟩)
 exact ⟨rfl, H.cT, H.o 0 rfl⟩
def num (k : List UInt8) : Nat := k.foldl (fun s x => s * 256 + x.toNat) 0
theorem BG (k : List UInt8) : ∀ a : Nat, k.foldl (fun s x => s * 256 + x.toNat) a = a * 256 ^ k.length + num k := by
 induction k with
 | nil => intro a; simp [num]
 | cons x k ih =>
  intro a
  have e : num (x :: k) = (0 * 256 + x.toNat) * 256 ^ k.length + num k := ih _
  rw [e, List.foldl_cons, ih, List.length_cons, Nat.pow_succ]
  rw [Nat.zero_mul, Nat.zero_add, Nat.add_mul, Nat.add_assoc, Nat.mul_assoc, Nat.mul_comm 256]
theorem lJ (x : UInt8) (k : List UInt8) : num (x :: k) = x.toNat * 256 ^ k.length + num k := by
 have h := BG k (0 * 256 + x.toNat)
 rw [Nat.zero_mul, Nat.zero_add] at h
 simpa [num] using h
theorem rU (a b : List UInt8) : num (a ++ b) = num a * 256 ^ b.length + num b := by
 show (a ++ b).foldl _ 0 = _
 rw [List.foldl_append]
 exact BG b _
theorem x9 (k : List UInt8) : num k < 256 ^ k.length := by
 induction k with
 | nil => simp [num]
 | cons x k ih =>
  rw [lJ, List.length_cons, Nat.pow_succ]
  have hx : x.toNat + 1 ≤ 256 := by have := x.toNat_lt; omega
  calc x.toNat * 256 ^ k.length + num k < x.toNat * 256 ^ k.length + 256 ^ k.length := by omega
   _ = (x.toNat + 1) * 256 ^ k.length := by rw [Nat.add_mul, Nat.one_mul]
   _ ≤ 256 * 256 ^ k.length := Nat.mul_le_mul_right _ hx
   _ = 256 ^ k.length * 256 := Nat.mul_comm _ _
theorem s9 : ∀ (a b : List UInt8), a.length = b.length → num a = num b → a = b := by
 intro a
 induction a with
 | nil => intro b h _; exact (List.eq_nil_of_length_eq_zero h.symm).symm
 | cons x a ih =>
  intro b h hn
  cases b with
  | nil => cases h
  | cons y b =>
   have hl : a.length = b.length := by simpa using h
   rw [lJ, lJ, hl] at hn
   have h1 := x9 a
   have h2 := x9 b
   rw [hl] at h1
   have hxy : x.toNat = y.toNat := by
    have e1 : (x.toNat * 256 ^ b.length + num a) / 256 ^ b.length = x.toNat := by
     rw [Nat.mul_comm, Nat.mul_add_div (Nat.pow_pos (by decide)), Nat.div_eq_of_lt h1, Nat.add_zero]
    have e2 : (y.toNat * 256 ^ b.length + num b) / 256 ^ b.length = y.toNat := by
     rw [Nat.mul_comm, Nat.mul_add_div (Nat.pow_pos (by decide)), Nat.div_eq_of_lt h2, Nat.add_zero]
    rw [← e1, ← e2, hn]
   rw [UInt8.toNat_inj.1 hxy, ih b hl (by rw [hxy] at hn; omega)]
theorem aAg (k : List UInt8) (h : k.length = 32) (i : Nat) (hi : i < 256) : bI k i = num k / 2 ^ (255 - i) % 2 := by
 have hq : i / 8 < k.length := by omega
 have e : k = k.take (i / 8) ++ k[i / 8] :: k.drop (i / 8 + 1) := by rw [← List.drop_eq_getElem_cons hq, List.take_append_drop]
 have hn : num k = (num (k.take (i / 8)) * 256 + k[i / 8].toNat) * 256 ^ (31 - i / 8) + num (k.drop (i / 8 + 1)) := by
  have hl : (k.drop (i / 8 + 1)).length = 31 - i / 8 := by simp; omega
  have := rU (k.take (i / 8)) (k[i / 8] :: k.drop (i / 8 + 1))
  rw [← e, lJ, List.length_cons, hl, Nat.pow_succ] at this
  rw [this, Nat.add_mul, Nat.mul_assoc, Nat.mul_comm 256, Nat.add_assoc]
 have hd := x9 (k.drop (i / 8 + 1))
 rw [show (k.drop (i / 8 + 1)).length = 31 - i / 8 by simp; omega] at hd
 have h8 : (256 : Nat) ^ (31 - i / 8) = 2 ^ (8 * (31 - i / 8)) := by rw [show (256 : Nat) = 2 ^ 8 from rfl, ← Nat.pow_mul]
 have hdiv : num k / 2 ^ (8 * (31 - i / 8)) = num (k.take (i / 8)) * 256 + k[i / 8].toNat := by
  rw [← h8, hn, Nat.mul_comm _ (256 ^ _), Nat.mul_add_div (Nat.pow_pos (by decide)), Nat.div_eq_of_lt hd, Nat.add_zero]
 have aCI : 255 - i = 8 * (31 - i / 8) + (7 - i % 8) := by omega
 rw [aCI, Nat.pow_add, ← Nat.div_div_eq_div_mul, hdiv]
 have aJP : (256 : Nat) = 2 ^ (7 - i % 8) * (2 ^ (i % 8) * 2) := by
  rw [← Nat.pow_succ, ← Nat.pow_add, show 7 - i % 8 + (i % 8 + 1) = 8 by omega]
 unfold bI
 rw [fD hq]
 have e3 : num (k.take (i / 8)) * 256 + k[i / 8].toNat = 2 ^ (7 - i % 8) * (num (k.take (i / 8)) * (2 ^ (i % 8) * 2)) + k[i / 8].toNat := by
  rw [← Nat.mul_assoc, Nat.mul_comm (2 ^ (7 - i % 8)), Nat.mul_assoc, ← aJP]
 rw [e3, Nat.mul_add_div (Nat.pow_pos (by decide)), ← Nat.mul_assoc, Nat.mul_comm _ 2, Nat.mul_add_mod]
def pre (d : Nat) (k : List UInt8) : Nat := num k / 2 ^ (256 - d)
theorem n5 (k : List UInt8) (h : k.length = 32) : pre 0 k = 0 := by
 unfold pre
 apply Nat.div_eq_of_lt
 have := x9 k
 rw [h] at this
 exact this
theorem qD (k : List UInt8) : pre 256 k = num k := by simp [pre]
theorem lI (k : List UInt8) (h : k.length = 32) (d : Nat) (hd : d < 256) : pre (d + 1) k = 2 * pre d k + bI k d := by
 unfold pre
 rw [aAg k h d hd, show 256 - d = (255 - d) + 1 by omega, show 256 - (d + 1) = 255 - d by omega, Nat.pow_succ, ← Nat.div_div_eq_div_mul]
 omega
structure En where
 k : List UInt8
 s : Value
 v : List UInt8
def oT (e : En) : List Value := kc e.k ++ [e.s]
def KL (m : List En) : Prop := ∀ e ∈ m, e.k.length = 32
def bO (m : List En) (d b : Nat) : List En := m.filter fun e => bI e.k d == b
structure Pm (d : Nat) (m : List En) : Prop where
 le : d ≤ 256
 kl : KL m
 OR : m.Pairwise fun a b => num a.k ≠ num b.k
 com : ∀ a ∈ m, ∀ b ∈ m, pre d a.k = pre d b.k
theorem Pm.lt {d : Nat} {m : List En} (h : Pm d m) (h2 : 2 ≤ m.length) : d < 256 := by
 rcases Nat.lt_or_ge d 256 with hlt | hge
 ·
  exact hlt
 ·
  have hd : d = 256 := by have := h.le; omega
  subst hd
  match m, h2 with
  | a :: b :: m, _ =>
   exfalso
   have h1 := (List.pairwise_cons.1 h.OR).1 b (by simp)
   have h3 := h.com a (by simp) b (by simp)
   rw [qD, qD] at h3
   exact h1 h3
theorem Pm.part {d : Nat} {m : List En} (h : Pm d m) (hd : d < 256) (b : Nat) : Pm (d + 1) (bO m d b) where
 le := hd
 kl := fun e he => h.kl e (List.mem_filter.1 he).1
 OR := h.OR.filter _
 com := fun x hx y hy => by
  have hx' := List.mem_filter.1 hx
  have hy' := List.mem_filter.1 hy
  rw [lI _ (h.kl _ hx'.1) d hd, lI _ (h.kl _ hy'.1) d hd, h.com _ hx'.1 _ hy'.1]
  have e1 : bI x.k d = b := by simpa using hx'.2
  have e2 : bI y.k d = b := by simpa using hy'.2
  rw [e1, e2]
theorem n9 (m : List En) (d : Nat) : (bO m d 0).length + (bO m d 1).length = m.length := by
 induction m with
 | nil => rfl
 | cons e m ih =>
  have hb := eA e.k d
  have e0 : bO (e :: m) d 0 = if (bI e.k d == 0) = true then e :: bO m d 0 else bO m d 0 := List.filter_cons
  have e1 : bO (e :: m) d 1 = if (bI e.k d == 1) = true then e :: bO m d 1 else bO m d 1 := List.filter_cons
  rw [e0, e1, List.length_cons]
  by_cases h : bI e.k d = 0
  ·
   rw [if_pos (by simp [h]), if_neg (by simp [h]), List.length_cons]; omega
  ·
   have h1 : bI e.k d = 1 := by omega
   rw [if_neg (by simp [h1]), if_pos (by simp [h1]), List.length_cons]; omega
theorem Pm.zero {m : List En} (hk : KL m) (hd : m.Pairwise fun a b => num a.k ≠ num b.k) : Pm 0 m := ⟨by omega, hk, hd, fun a ha b hb => by rw [n5 _ (hk a ha), n5 _ (hk b hb)]⟩
inductive Sh where
 | nil
 | leaf (k v : List UInt8)
 | inner (l r : Sh)
def Sh.gC : Sh → Nat
 | .nil => 0
 | .leaf _ _ => 1
 | .inner l r => l.gC + r.gC
def Sh.kind : Sh → Int
 | .nil => 0
 | .leaf _ _ => 1
 | .inner _ _ => 2
def nI (bits : Int) (v : List UInt8) : List UInt8 := eB (cZ (2 :: v)) bits
def SA (bits : Int) (k v : List UInt8) : List UInt8 := eB (cZ (0 :: (k ++ nI bits v))) bits
def vO (bits : Int) (a b : List UInt8) : List UInt8 := eB (cZ (1 :: (a ++ b))) bits
def lW (bits : Int) : List UInt8 := eB (cZ [3]) bits
def Sh.nV (bits : Int) : Sh → List UInt8
 | .nil => lW bits
 | .leaf k v => SA bits k v
 | .inner l r => vO bits (l.nV bits) (r.nV bits)
theorem eW (bits : Int) (s : Sh) : (s.nV bits).length = 32 := by cases s <;> exact cB _ _
def kO : Sh → Sh → Sh
 | .nil, .inner l r => .inner .nil (.inner l r)
 | .nil, s => s
 | .inner l r, .nil => .inner (.inner l r) .nil
 | s, .nil => s
 | s, t => .inner s t
def F1 : Nat → Nat → List En → Sh
 | _, _, [] => .nil
 | _, _, [e] => .leaf e.k e.v
 | 0, _, e :: _ => .leaf e.k e.v
 | n + 1, d, m => .inner (F1 n (d + 1) (bO m d 0)) (F1 n (d + 1) (bO m d 1))
def grow (d : Nat) (m : List En) : Sh := F1 (256 - d) d m
theorem eM (d : Nat) : grow d [] = .nil := by unfold grow; cases 256 - d <;> rfl
theorem dR (d : Nat) (e : En) : grow d [e] = .leaf e.k e.v := by unfold grow; cases 256 - d <;> rfl
theorem iU (d : Nat) (m : List En) (hd : d < 256) (h : 2 ≤ m.length) : grow d m = .inner (grow (d + 1) (bO m d 0)) (grow (d + 1) (bO m d 1)) := by
 unfold grow
 rw [show 256 - d = (256 - (d + 1)) + 1 by omega]
 match m, h with
 | a :: b :: m, _ => rfl
theorem F0 {P : Nat → List En → Sh → Prop} (h0 : ∀ d, P d [] .nil) (h1 : ∀ d e, P d [e] (.leaf e.k e.v))
  (h2 : ∀ d m, Pm d m → d < 256 → 2 ≤ m.length → P (d + 1) (bO m d 0) (grow (d + 1) (bO m d 0)) → P (d + 1) (bO m d 1) (grow (d + 1) (bO m d 1)) → P d m (.inner (grow (d + 1) (bO m d 0)) (grow (d + 1) (bO m d 1)))) :
  ∀ (n d : Nat) (m : List En), 256 - d = n → Pm d m → P d m (grow d m) := by
 intro n
 induction n with
 | zero =>
  intro d m hn hp
  match m, hp with
  | [], _ => rw [eM]; exact h0 d
  | [e], _ => rw [dR]; exact h1 d e
  | a :: b :: m, hp => have := hp.lt (by simp); omega
 | succ n ih =>
  intro d m hn hp
  match m, hp with
  | [], _ => rw [eM]; exact h0 d
  | [e], _ => rw [dR]; exact h1 d e
  | a :: b :: m, hp =>
   have hd := hp.lt (by simp)
   rw [iU d _ hd (by simp)]
   exact h2 d _ hp hd (by simp) (ih _ _ (by omega) (hp.part hd 0)) (ih _ _ (by omega) (hp.part hd 1))
theorem mN {d : Nat} {m : List En} (h : Pm d m) : (grow d m).gC = m.length :=
 F0 (P := fun _ m s => s.gC = m.length) (fun _ => rfl) (fun _ _ => rfl) (fun d m _ _ _ h0 h1 => by
  show (grow _ _).gC + (grow _ _).gC = _
  rw [h0, h1, n9]) _ d m rfl h
theorem FD {l r : Sh} (h : 2 ≤ l.gC + r.gC) : kO l r = .inner l r := by
 cases l <;> cases r <;> first | rfl | (simp [Sh.gC] at h; done)
 all_goals (simp [Sh.gC] at h)
def n4 (bits : Int) (d : Nat) (m : List En) : List UInt8 := (grow d m).nV bits
theorem qR {a b : List UInt8} (hl : a.length = b.length) (i : Nat) (hi : i < a.length) (hp : a.take i = b.take i) (h : a[i].toNat < (b[i]'(by omega)).toNat) : num a < num b := by
 have hib : i < b.length := by omega
 have ea : a = a.take i ++ a[i] :: a.drop (i + 1) := by rw [← List.drop_eq_getElem_cons hi, List.take_append_drop]
 have eb : b = a.take i ++ b[i] :: b.drop (i + 1) := by rw [hp, ← List.drop_eq_getElem_cons hib, List.take_append_drop]
 have h1 := rU (a.take i) (a[i] :: a.drop (i + 1))
 have h2 := rU (a.take i) (b[i] :: b.drop (i + 1))
 rw [← ea, lJ] at h1
 rw [← eb, lJ] at h2
 have rY : (a.drop (i + 1)).length = (b.drop (i + 1)).length := by simp; omega
 have h3 := x9 (a.drop (i + 1))
 rw [List.length_cons] at h1 h2
 rw [rY] at h1 h3
 rw [h1, h2]
 have h4 : (a[i].toNat + 1) * 256 ^ (b.drop (i + 1)).length ≤ b[i].toNat * 256 ^ (b.drop (i + 1)).length := Nat.mul_le_mul_right _ h
 rw [Nat.add_mul, Nat.one_mul] at h4
 omega
def iM (a b : List UInt8) : Int := if num a < num b then -1 else if num b < num a then 1 else 0
theorem mP {a b : List UInt8} : iM a b < 0 ↔ num a < num b := by
 unfold iM
 by_cases h : num a < num b
 ·
  simp [h]
 ·
  rw [if_neg h]
  by_cases h2 : num b < num a <;> simp [h, h2]
def fJ (m : List En) (k : List UInt8) : List En := m.filter fun x => decide (x.k ≠ k)
def ins (e : En) : List En → List En
 | [] => [e]
 | x :: r => if num e.k < num x.k then e :: x :: r else x :: ins e r
def iC (m : List En) (e : En) : List En := ins e (fJ m e.k)
def k9 (m : List En) : Prop := m.Pairwise fun a b => num a.k < num b.k
def o9 (e : En) (p : List En × Bool) (x : En) : List En × Bool := if p.2 = false ∧ num e.k < num x.k then (p.1 ++ [e, x], true) else (p.1 ++ [x], p.2)
theorem NT (e : En) : ∀ (l out : List En), l.foldl (o9 e) (out, true) = (out ++ l, true) := by
 intro l
 induction l with
 | nil => intro out; simp
 | cons x l ih =>
  intro out
  rw [List.foldl_cons]
  have : o9 e (out, true) x = (out ++ [x], true) := by simp [o9]
  rw [this, ih]; simp
theorem RJ (e : En) : ∀ (l out : List En), cond (l.foldl (o9 e) (out, false)).2 (l.foldl (o9 e) (out, false)).1 ((l.foldl (o9 e) (out, false)).1 ++ [e]) = out ++ ins e l := by
 intro l
 induction l with
 | nil => intro out; simp [ins]
 | cons x l ih =>
  intro out
  rw [List.foldl_cons]
  by_cases h : num e.k < num x.k
  ·
   have : o9 e (out, false) x = (out ++ [e, x], true) := by simp [o9, h]
   rw [this, NT]
   simp [ins, h]
  ·
   have : o9 e (out, false) x = (out ++ [x], false) := by simp [o9, h]
   rw [this, ih]
   simp [ins, h]
theorem LJ {e x : En} {l : List En} : x ∈ ins e l ↔ x = e ∨ x ∈ l := by
 induction l with
 | nil => simp [ins]
 | cons y l ih =>
  unfold ins
  split
  ·
   simp
  ·
   simp [ih]; constructor
   ·
    rintro (h | h | h) <;> simp [h]
   ·
    rintro (h | h | h) <;> simp [h]
theorem Y1 {e : En} {l : List En} (h : k9 l) (hn : ∀ x ∈ l, num x.k ≠ num e.k) : k9 (ins e l) := by
 induction l with
 | nil => simp [ins, k9]
 | cons y l ih =>
  have h1 := List.pairwise_cons.1 h
  unfold ins
  split
  ·
   rename_i hlt
   refine List.pairwise_cons.2 ⟨fun x hx => ?_, h⟩
   cases List.mem_cons.1 hx with
   | inl e => rw [e]; exact hlt
   | inr hx => exact Nat.lt_trans hlt (h1.1 x hx)
  ·
   rename_i hnl
   refine List.pairwise_cons.2 ⟨fun x hx => ?_, ih h1.2 fun x hx => hn x (List.mem_cons_of_mem _ hx)⟩
   rcases LJ.1 hx with rfl | hx
   ·
    have := hn y (by simp); omega
   ·
    exact h1.1 x hx
theorem jK {m : List En} {k : List UInt8} {x : En} : x ∈ fJ m k ↔ x ∈ m ∧ x.k ≠ k := by simp [fJ]
theorem xW {m : List En} {e : En} (h : k9 m) (hk : KL m) (he : e.k.length = 32) : k9 (iC m e) :=
 Y1 (h.filter _) fun x hx hn => (jK.1 hx).2 (s9 _ _ (by rw [hk x (jK.1 hx).1, he]) hn)
theorem oE {m : List En} {e x : En} : x ∈ iC m e ↔ x = e ∨ (x ∈ m ∧ x.k ≠ e.k) := by
 unfold iC; rw [LJ, jK]
theorem CI {m : List En} {e : En} (hk : KL m) (he : e.k.length = 32) : KL (iC m e) := fun x hx => by
 rcases oE.1 hx with rfl | hx
 ·
  exact he
 ·
  exact hk x hx.1
theorem Y3 (e : En) (l : List En) : (ins e l).length = l.length + 1 := by
 induction l with
 | nil => rfl
 | cons y l ih => unfold ins; split <;> simp [ih]
theorem EV (m : List En) (e : En) : (iC m e).length ≤ m.length + 1 := by
 unfold iC
 rw [Y3]
 have : (fJ m e.k).length ≤ m.length := List.length_filter_le _ _
 omega
theorem k9.OR {m : List En} (h : k9 m) : m.Pairwise fun a b => num a.k ≠ num b.k := h.imp fun h => Nat.ne_of_lt h
theorem kY {e : En} (h : e.k.length = 32) : (oT e).length = 33 := by simp [oT, aJ, h]
theorem Z7 (m : List En) (hk : KL m) (i : Nat) (hi : i < m.length) : ((m.flatMap oT).drop (i * 33)).take 33 = oT m[i] := by
 induction m generalizing i with
 | nil => cases hi
 | cons e m ih =>
  have he := kY (hk e (by simp))
  cases i with
  | zero =>
   rw [Nat.zero_mul, List.drop_zero, List.flatMap_cons, List.take_append_of_le_length (by omega), List.take_of_length_le (by omega)]
   rfl
  | succ i =>
   have := ih (fun x hx => hk x (List.mem_cons_of_mem _ hx)) i (by simpa using hi)
   rw [List.flatMap_cons, show (i + 1) * 33 = (oT e).length + i * 33 by rw [he]; omega, List.drop_append]
   rw [List.drop_eq_nil_of_le (by omega), List.nil_append, show (oT e).length + i * 33 - (oT e).length = i * 33 by omega, this]
   rfl
def fF (v : Value) (m : List En) (w : World) : Prop := cO w v 33 m.length (m.flatMap oT)
def eC (m : List En) (w : World) : Prop := ∀ e ∈ m, bL e.s e.v w
theorem fF.rd {v : Value} {m : List En} {w : World} (h : fF v m w) (hk : KL m) (i : Nat) (hi : i < m.length) : dD w (jS v (i * 33)) (oT m[i]) := by
 have := cO.rd h i hi
 rwa [Z7 m hk i hi] at this
theorem xB {X : Nat → Prop} {w : World} {x : UInt8} {s : Value} {vs : List Value} {ls : List (List UInt8)} (hX : c6 X w) (bT : aH X (kN s vs) w) (dJ : aH X (qN vs ls) w) (hvs : vs.length ≤ 1000000) (aE9 : ls.flatten.length ≤ 70368744177000) :
  bC prog 110 [.int .u8 (x.toNat : Int), s].toArray w fun v w' => Out Nil w w' ∧ aH X (bL v (x :: ls.flatten)) w' := by
 refine bC.aI (N := 10) func110 rfl rfl (by simp) ?_
 have H := ((St.begin hX).add (cE dJ)).add (cE bT)
 refine WE.aA (WL.as rfl rfl (WL.nil (WE.aA (WL.mv rfl rfl ?_))))
 refine WL.bA (l0 := [.int .u8 (0)]) H rfl iG (by decide) (cW _ _) (Fl.cons rfl rfl (by simp only [aS]) Laid.head Fl.nil) rfl ?_
 intro b6 w1 H
 replace H := H.AQ (n := 1) (sz := 1) (i := 0) rfl rfl (by decide)
 refine WL.mv rfl rfl ?_
 refine WL.call aGo rfl (WS  H.aR (by exact H.bJ 0 rfl) (by exact H.bJ 1 rfl) (by assumption) (by omega)) ?_
 rintro v8 w2 ⟨hO, hR⟩
 replace H := (H.out hO).add hR
 refine WL.append H 0 iG (by decide) rfl rfl rfl (by exact H.p 0 rfl) (bH _) (by omega) (by decide) rfl ?_
 intro v9 w3 H
 refine WL.as rfl rfl (WL.nil (WE.ret ⟨[_], _, .nil _, ⟨rfl, trivial⟩, ?_⟩))
 replace H := H.freeze (i := 0) rfl
 exact ⟨H.aL, H.fX ((H.bJ 0 rfl).imp fun _ h => bL.dM (l := x :: ls.flatten) h)⟩
theorem MW {X : Nat → Prop} {w : World} {a : Value} {la : List UInt8} (hX : c6 X w) (bT : aH X (bL a la) w) (rY : la.length ≤ 70368744177000) :
  bC prog 168 [a].toArray w fun v w' => Out Nil w w' ∧ aH X (bL v (2 :: la)) w' := by
 refine bC.aI (N := 6) func168 rfl rfl (by simp) ?_
 have H := (St.begin hX).add (cE bT)
 refine WE.aA (WL.as rfl rfl (WL.nil (WE.aA (WL.mv rfl rfl ?_))))
 refine WL.bA (l0 := [.slice none 0 0]) H rfl K8 (by decide) (cW _ _) (Fl.cons rfl (by exact cO.cells (H.p 0 rfl)) (by simp only [aS]) Laid.head Fl.nil) rfl ?_
 intro b4 w1 H
 replace H := H.freeze (i := 0) rfl
 replace H := H.add ((H.bJ 0 rfl).imp fun _ h => kN.cA h rfl)
 replace H := H.add ((H.bJ 2 rfl).imp fun w h => qN.cons h (qN.nil w))
 refine WL.call ME rfl (xB (x := 2) (vs := [a]) (ls := [la]) H.aR (H.bJ 1 rfl) (H.bJ 0 rfl) (by simp) (by simpa using rY)) ?_
 rintro v5 w2 ⟨hO, hR⟩
 replace H := (H.out hO).add hR
 refine WL.as rfl rfl (WL.nil (WE.ret ⟨[_], _, .nil _, ⟨rfl, trivial⟩, ?_⟩))
 exact ⟨H.aL, H.fX ((H.bJ 0 rfl).imp fun _ h => (show bL v5 (2 :: la) _ by simpa using h))⟩
theorem M1 {X : Nat → Prop} {w : World}  (hX : c6 X w) :
  bC prog 69 [].toArray w fun v w' => Out Nil w w' ∧ aH X (bL v [3]) w' := by
 refine bC.aI (N := 2) func69 rfl rfl (by decide +revert) ?_
 have H := St.begin hX
 refine WE.aA (WL.as rfl rfl (WL.nil (WE.aA ?_)))
 refine WL.call ME rfl (xB (x := 3) (vs := []) (ls := []) H.aR (fun w _ => cO.nil w 1) (fun w _ => qN.nil w) (by simp) (by simp)) ?_
 rintro v1 w1 ⟨hO, hR⟩
 replace H := (H.out hO).add hR
 refine WL.as rfl rfl (WL.nil (WE.ret ⟨[_], _, .nil _, ⟨rfl, trivial⟩, ?_⟩))
 exact ⟨H.aL, H.fX (H.bJ 0 rfl)⟩
theorem IK {X : Nat → Prop} {w : World} {a : Value} {la : List UInt8} (hX : c6 X w) (bT : aH X (bL a la) w) (rY : la.length ≤ 70368744177000) :
  bC prog 106 [a].toArray w fun v w' => Out Nil w w' ∧ aH X (bL v (2 :: la)) w' := by
 refine bC.aI (N := 6) func106 rfl rfl (by simp) ?_
 have H := (St.begin hX).add (cE bT)
 refine WE.aA (WL.as rfl rfl (WL.nil (WE.aA ?_)))
 refine WL.bA (l0 := [.int .u8 (0)]) H rfl iG (by decide) (cW _ _) (Fl.cons rfl rfl (by simp only [aS]) Laid.head Fl.nil) rfl ?_
 intro b3 w1 H
 replace H := H.AQ (n := 1) (sz := 1) (i := 0) rfl rfl (by decide)
 refine WL.mv rfl rfl ?_
 refine WL.append H 0 iG (by decide) rfl rfl rfl (by exact H.p 0 rfl) (bH _) (by omega) (by decide) rfl ?_
 intro v5 w2 H
 refine WL.as rfl rfl (WL.nil (WE.ret ⟨[_], _, .nil _, ⟨rfl, trivial⟩, ?_⟩))
 replace H := H.freeze (i := 0) rfl
 exact ⟨H.aL, H.fX ((H.bJ 0 rfl).imp fun _ h => bL.dM (l := 2 :: la) h)⟩
theorem WB {X : Nat → Prop} {w : World} {k l : List UInt8} (hX : c6 X w) (hk : k.length = 32) (hl : l.length = 32) :
  bC prog 219 [.agg (kc k ++ kc l).toArray].toArray w fun v w' => Out Nil w w' ∧ aH X (bL v (0 :: (k ++ l))) w' := by
 refine bC.aI (N := 9) func219 rfl rfl (by simp) ?_
 have H := St.begin hX
 refine WE.aA ?_
 refine WL.box (l := _) H rfl rfl rfl ?_
 intro b1 w1 H
 refine WL.as rfl rfl (WL.nil ?_)
 refine WE.bG (.take 0 (.take 1 (.take 2 (.take 3 (.aG 4 (.aG 5 (.take 6 .done))))))) mixed (by kernel_rfl) ?_
 replace H := H.out (Out.drew _)
 refine WP.aC rfl rfl (PV.fieldAddr rfl kK rfl) ?_
 refine WP.aC rfl rfl (PV.iH rfl gW (by rw [gO]; rfl) rfl) ?_
 refine WP.aC rfl rfl (PV.fieldAddr rfl DJ rfl) ?_
 refine WP.aC rfl rfl (PV.iH rfl pN (by rw [gO]; rfl) rfl) ?_
 refine WP.aG rfl ?_
 refine WL.bA (l0 := [.slice none 0 0, .slice none 0 0]) H rfl K8 (by decide) (cW _ _) (Fl.cons rfl rfl (by simp only [aS]) Laid.head (Fl.cons rfl rfl (by simp only [aS]) (Laid.tail Laid.head rfl) Fl.nil)) rfl ?_
 intro b7 w2 H
 replace H := H.freeze (i := 0) rfl
 replace H := H.freeze (i := 0) rfl
 replace H := H.add ((H.bJ 1 rfl).imp fun _ h => kN.cA h rfl)
 replace H := H.add ((H.bJ 1 rfl).imp fun w h => qN.cons (bL.oC (a := ⟨b1, 0, none⟩) (aN.aF h (aK.l (aK.all (kc k))) rfl) hk (Nat.le_refl _)) (qN.cons (bL.oC (a := ⟨b1, 32, none⟩) (aN.aF h (aK.r (aK.all (kc l)) rfl) (by simp [aJ, hk])) hl (Nat.le_refl _)) (qN.nil w)))
 refine WL.nil ⟨c8, ?_⟩
 refine WP.aG rfl ?_
 refine WL.call ME rfl (xB (x := 0) (vs := [_, _]) (ls := [k, l]) H.aR (H.bJ 1 rfl) (H.bJ 0 rfl) (by simp) (by simp [hk, hl])) ?_
 rintro v8 w3 ⟨hO, hR⟩
 replace H := (H.out hO).add hR
 refine WL.nil ⟨c8, ?_⟩
 refine WP.as rfl rfl rfl (WP.done (WE.ret ⟨[_], _, .nil _, ⟨rfl, trivial⟩, ?_⟩))
 exact ⟨H.aL, H.fX ((H.bJ 0 rfl).imp fun _ h => (show bL v8 (0 :: (k ++ l)) _ by simpa using h))⟩
theorem V7 {X : Nat → Prop} {w : World} {k l : List UInt8} (hX : c6 X w) (hk : k.length = 32) (hl : l.length = 32) :
  bC prog 216 [.agg (kc k).toArray, .agg (kc l).toArray].toArray w fun v w' => Out Nil w w' ∧ aH X (bL v (1 :: (k ++ l))) w' := by
 refine bC.aI (N := 9) func216 rfl rfl (by simp) ?_
 have H := St.begin hX
 refine WE.aA ?_
 refine WL.box (l := _) H rfl rfl rfl ?_
 intro b2 w1 H
 refine WL.box (l := _) H rfl rfl rfl ?_
 intro b3 w2 H
 refine WL.as rfl rfl (WL.nil ?_)
 refine WE.bG (.take 0 (.take 1 (.aG 2 (.aG 3 (.take 4 .done))))) mixed (by kernel_rfl) ?_
 replace H := H.out (Out.drew _)
 refine WP.aC rfl rfl (PV.iH rfl pN (by rw [gO]; rfl) rfl) ?_
 refine WP.aC rfl rfl (PV.iH rfl pN (by rw [gO]; rfl) rfl) ?_
 refine WP.aG rfl ?_
 refine WL.bA (l0 := [.slice none 0 0, .slice none 0 0]) H rfl K8 (by decide) (cW _ _) (Fl.cons rfl rfl (by simp only [aS]) Laid.head (Fl.cons rfl rfl (by simp only [aS]) (Laid.tail Laid.head rfl) Fl.nil)) rfl ?_
 intro b7 w3 H
 replace H := H.freeze (i := 0) rfl
 replace H := H.freeze (i := 0) rfl
 replace H := H.freeze (i := 0) rfl
 replace H := H.add ((H.bJ 2 rfl).imp fun _ h => kN.cA h rfl)
 replace H := H.add (((H.bJ 1 rfl).and (H.bJ 2 rfl)).imp fun w h => qN.cons (bL.cA h.1 hk) (qN.cons (bL.cA h.2 hl) (qN.nil w)))
 refine WL.nil ⟨c8, ?_⟩
 refine WP.aG rfl ?_
 refine WL.call ME rfl (xB (x := 1) (vs := [_, _]) (ls := [k, l]) H.aR (H.bJ 1 rfl) (H.bJ 0 rfl) (by simp) (by simp [hk, hl])) ?_
 rintro v8 w4 ⟨hO, hR⟩
 replace H := (H.out hO).add hR
 refine WL.nil ⟨c8, ?_⟩
 refine WP.as rfl rfl rfl (WP.done (WE.ret ⟨[_], _, .nil _, ⟨rfl, trivial⟩, ?_⟩))
 exact ⟨H.aL, H.fX ((H.bJ 0 rfl).imp fun _ h => (show bL v8 (1 :: (k ++ l)) _ by simpa using h))⟩
theorem aAV {X : Nat → Prop} {w : World} {x : UInt8} {k l : List UInt8} (hX : c6 X w) (hk : k.length = 32) (hl : l.length = 32) :
  bC prog 105 [.int .u8 (x.toNat : Int), .agg (kc k).toArray, .agg (kc l).toArray].toArray w fun v w' => Out Nil w w' ∧ aH X (bL v (x :: (k ++ l))) w' := by
 refine bC.aI (N := 33) func105 rfl rfl (by simp) ?_
 have H := St.begin hX
 refine WE.aA ?_
 refine WL.box (l := _) H rfl rfl rfl ?_
 intro b4 w1 H
 refine WL.box (l := _) H rfl rfl rfl ?_
 intro b5 w2 H
 refine WL.as rfl rfl (WL.nil (WE.aA (WL.mv rfl rfl ?_)))
 refine WL.bA (l0 := [.int .u8 (0)]) H rfl iG (by decide) (cW _ _) (Fl.cons rfl rfl (by simp only [aS]) Laid.head Fl.nil) rfl ?_
 intro VC w3 H
 replace H := H.AQ (n := 1) (sz := 1) (i := 0) rfl rfl (by decide)
 refine WL.as rfl rfl (WL.nil (WE.seq (WE.aA (WL.as rfl rfl (WL.nil (WE.block ?_))))))
 refine WE.loop (α := Nat × Value) (rg [(7, 2), (12, 10)]) (fun p => [(8, .int .i64 p.1), (7, p.2)]) (fun p wl => p.1 ≤ 32 ∧ St X w wl [] [aP.gZ w.heap.size p.2 5 1 ([x].length + p.1) (kc ([x] ++ k.take p.1)), aP.blk b5 23 (kc l), aP.blk b4 23 (kc k)] []) (fun p => 32 - p.1) (0, .slice (some ⟨VC, 0, none⟩) 1 1) ⟨rfl, rfl, trivial⟩ ⟨Nat.zero_le _, H⟩ ?_
 intro ⟨i, v⟩ γ0 w4 hI
 try dsimp only at hI
 obtain ⟨hi, H⟩ := hI
 refine WE.seq (WE.aA (WL.mv rfl rfl (WL.pv (PV.lss rfl rfl rfl) rfl (WL.nil ?_))))
 refine WE.cond rfl (fun yN => ?_) (fun yN => ?_)
 ·
  try simp only [bP] at yN
  refine WE.skip (WE.seq (WE.block (WE.dW (WL.mv rfl rfl (WL.mv rfl rfl (WL.pv (PV.bF rfl aAi gO rfl rfl (by omega) (by omega)) rfl (WL.aX rfl vD rfl rfl (aN.aF (H.l 2 rfl) (aK.byte i (by omega)) (by simp)) ?_)))))))
  refine WL.bA (l0 := [.int .u8 (0)]) H rfl iG (by decide) (cW _ _) (Fl.cons rfl rfl (by simp only [aS]) Laid.head Fl.nil) rfl ?_
  intro b20 w5 H
  refine WL.append H 1 iG (by decide) rfl rfl rfl (cO.cA (n := 1) (H.l 0 rfl) rfl) (bB _ rfl) (by simp only [List.length_cons, List.length_nil]; omega) (by decide) rfl ?_
  intro v21 w6 H
  refine WL.as rfl rfl (WL.nil (WE.dW (WL.mv rfl rfl (WL.pv (PV.bV rfl rfl rfl (by omega) (by omega)) rfl (WL.as rfl rfl (WL.nil ?_))))))
  replace H := H.forget 0
  have e := CY [x] k i (by omega)
  replace H : St X w w6 [] [aP.gZ w.heap.size v21 5 1 ([x].length + (i + 1)) (kc ([x] ++ k.take (i + 1))), aP.blk b5 23 (kc l), aP.blk b4 23 (kc k)] [] := by rw [e]; exact H
  exact ⟨(i + 1, v21), (by repeat (first | with_reducible exact bK.refl _ _ | refine bK.dG rfl ?_ | refine bK.bZ rfl ?_ | refine bK.bX rfl ?_)), ⟨rfl, rfl, trivial⟩, rfl, ⟨by dsimp only; omega, H⟩, (by dsimp only; omega)⟩
 ·
  try simp only [bP] at yN
  refine WE.exit (WE.seq (WE.aA (WL.as rfl rfl (WL.nil (WE.block ?_)))))
  have aCR : i = 32 := by omega
  subst aCR
  have e32 : k.take 32 = k := List.take_of_length_le (by omega)
  replace H := H.conv (L' := [aP.gZ w.heap.size v 5 1 (x :: k).length (kc (x :: k)), aP.blk b5 23 (kc l), aP.blk b4 23 (kc k)]) (by rw [e32, show (x :: k).length = 33 by rw [List.length_cons, hk]]; rfl)
  refine WE.loop (α := Nat × Value) (rg [(7, 1), (9, 1), (22, 10)]) (fun p => [(9, .int .i64 p.1), (7, p.2)]) (fun p wl => p.1 ≤ 32 ∧ St X w wl [] [aP.gZ w.heap.size p.2 5 1 ((x :: k).length + p.1) (kc ((x :: k) ++ l.take p.1)), aP.blk b5 23 (kc l), aP.blk b4 23 (kc k)] []) (fun p => 32 - p.1) (0, v) ⟨rfl, rfl, trivial⟩ ⟨Nat.zero_le _, by dsimp only; rw [List.take_zero, List.append_nil]; exact H⟩ ?_
  intro ⟨j, u⟩ γ1 w7 hI
  try dsimp only at hI
  obtain ⟨hj, H⟩ := hI
  refine WE.seq (WE.aA (WL.mv rfl rfl (WL.pv (PV.lss rfl rfl rfl) rfl (WL.nil ?_))))
  refine WE.cond rfl (fun kX => ?_) (fun kX => ?_)
  ·
   try simp only [bP] at kX
   refine WE.skip (WE.seq (WE.block (WE.dW (WL.mv rfl rfl (WL.mv rfl rfl (WL.pv (PV.bF rfl aAi gO rfl rfl (by omega) (by omega)) rfl (WL.aX rfl vD rfl rfl (aN.aF (H.l 1 rfl) (aK.byte j (by omega)) (by simp)) ?_)))))))
   refine WL.bA (l0 := [.int .u8 (0)]) H rfl iG (by decide) (cW _ _) (Fl.cons rfl rfl (by simp only [aS]) Laid.head Fl.nil) rfl ?_
   intro VA w8 H
   refine WL.append H 1 iG (by decide) rfl rfl rfl (cO.cA (n := 1) (H.l 0 rfl) rfl) (bB _ rfl) (by simp only [List.length_cons, hk]; omega) (by decide) rfl ?_
   intro v31 w9 H
   refine WL.as rfl rfl (WL.nil (WE.dW (WL.mv rfl rfl (WL.pv (PV.bV rfl rfl rfl (by omega) (by omega)) rfl (WL.as rfl rfl (WL.nil ?_))))))
   replace H := H.forget 0
   have e := CY (x :: k) l j (by omega)
   replace H : St X w w9 [] [aP.gZ w.heap.size v31 5 1 ((x :: k).length + (j + 1)) (kc ((x :: k) ++ l.take (j + 1))), aP.blk b5 23 (kc l), aP.blk b4 23 (kc k)] [] := by rw [e]; exact H
   exact ⟨(j + 1, v31), (by repeat (first | with_reducible exact bK.refl _ _ | refine bK.dG rfl ?_ | refine bK.bZ rfl ?_ | refine bK.bX rfl ?_)), ⟨rfl, rfl, trivial⟩, rfl, ⟨by dsimp only; omega, H⟩, (by dsimp only; omega)⟩
  ·
   try simp only [bP] at kX
   refine WE.exit (WE.aA (WL.mv rfl rfl (WL.as rfl rfl (WL.nil (WE.ret ⟨[_], _, .nil _, ⟨rfl, trivial⟩, ?_⟩)))))
   replace H := H.freeze (i := 0) rfl
   have aJu : l.take j = l := List.take_of_length_le (by omega)
   exact ⟨H.aL, H.fX ((H.bJ 0 rfl).imp fun _ h => by have := bL.dM h; rw [aJu] at this; exact this)⟩
theorem NQ {X : Nat → Prop} {w : World} {k l : List UInt8} (hX : c6 X w) (hk : k.length = 32) (hl : l.length = 32) :
  bC prog 64 [.agg (kc k ++ kc l).toArray].toArray w fun v w' => Out Nil w w' ∧ aH X (bL v (0 :: (k ++ l))) w' := by
 refine bC.aI (N := 8) func64 rfl rfl (by simp) ?_
 have H := St.begin hX
 refine WE.aA ?_
 refine WL.box (l := _) H rfl rfl rfl ?_
 intro b1 w1 H
 refine WL.as rfl rfl (WL.nil (WE.aA (WL.pv (PV.fieldAddr rfl kK rfl) rfl ?_)))
 refine WL.bE rfl c7 rfl rfl (aN.aF (H.l 0 rfl) (aK.l (aK.all _)) rfl) (cI cM (by simp only [aS]; omega)) ?_
 refine WL.pv (PV.fieldAddr rfl DJ rfl) rfl ?_
 refine WL.bE rfl fS rfl rfl (aN.aF (H.l 0 rfl) (aK.r (aK.all _) rfl) (by simp [aJ, aQ, *])) (cI dH (by simp only [aS]; omega)) ?_
 refine WL.call aBG rfl (aAV (x := 0) (k := k) (l := l) H.aR hk hl) ?_
 rintro v7 w2 ⟨hO, hR⟩
 replace H := (H.out hO).add hR
 refine WL.as rfl rfl (WL.nil (WE.ret ⟨[_], _, .nil _, ⟨rfl, trivial⟩, ?_⟩))
 exact ⟨H.aL, H.fX (H.bJ 0 rfl)⟩
theorem NP {X : Nat → Prop} {w : World} {k l : List UInt8} (hX : c6 X w) (hk : k.length = 32) (hl : l.length = 32) :
  bC prog 67 [.agg (kc k).toArray, .agg (kc l).toArray].toArray w fun v w' => Out Nil w w' ∧ aH X (bL v (1 :: (k ++ l))) w' := by
 refine bC.aI (N := 8) func67 rfl rfl (by simp) ?_
 have H := St.begin hX
 refine WE.aA ?_
 refine WL.box (l := _) H rfl rfl rfl ?_
 intro b2 w1 H
 refine WL.box (l := _) H rfl rfl rfl ?_
 intro b3 w2 H
 refine WL.as rfl rfl (WL.nil (WE.aA ?_))
 refine WL.bE rfl fS rfl rfl (aN.aF (H.l 1 rfl) (aK.all _) rfl) (cI dH (by simp only [aS]; omega)) ?_
 refine WL.bE rfl fS rfl rfl (aN.aF (H.l 0 rfl) (aK.all _) rfl) (cI dH (by simp only [aS]; omega)) ?_
 refine WL.call aBG rfl (aAV (x := 1) (k := k) (l := l) H.aR hk hl) ?_
 rintro v7 w3 ⟨hO, hR⟩
 replace H := (H.out hO).add hR
 refine WL.as rfl rfl (WL.nil (WE.ret ⟨[_], _, .nil _, ⟨rfl, trivial⟩, ?_⟩))
 exact ⟨H.aL, H.fX (H.bJ 0 rfl)⟩
inductive Tr where
 | nil
 | leaf (a : Nat) (k v : List UInt8) (s : Value)
 | inner (a : Nat) (l r : Tr)
def Tr.addr : Tr → Option Addr
 | .nil => none
 | .leaf a _ _ _ => some ⟨a, 0, none⟩
 | .inner a _ _ => some ⟨a, 0, none⟩
def Tr.ptr (T : Tr) : Value := .pointer T.addr
def Tr.er : Tr → Sh
 | .nil => .nil
 | .leaf _ k v _ => .leaf k v
 | .inner _ l r => .inner l.er r.er
def SB (bits : Int) (k v : List UInt8) (s : Value) : List Value := (kc k ++ kc (nI bits v)) ++ [s]
def JC (bits : Int) (l r : Tr) : List Value := [l.ptr, r.ptr] ++ ((kc (l.er.nV bits) ++ kc (r.er.nV bits)) ++ [.int .i64 ((l.er.gC + r.er.gC : Nat) : Int)])
def sI (a : Nat) (t : TypeId) (L : List Value) (D : List UInt8) (w : World) : Prop := aN w a 143 ([.iface t (.agg L.toArray)] ++ kc D)
def cV (bits : Int) : Tr → World → Prop
 | .nil, _ => True
 | .leaf a k v s, w => k.length = 32 ∧ bL s v w ∧ v.length ≤ 1000000 ∧ sI a 150 (SB bits k v s) (SA bits k v) w
 | .inner a l r, w => cV bits l w ∧ cV bits r w ∧ sI a 154 (JC bits l r) (vO bits (l.er.nV bits) (r.er.nV bits)) w
def AK : List Value := (kc (List.replicate 32 0) ++ kc (List.replicate 32 0)) ++ [.slice none 0 0]
def xD : List Value := [.pointer none, .pointer none] ++ ((kc (List.replicate 32 0) ++ kc (List.replicate 32 0)) ++ [.int .i64 0])
def Tr.lfC (bits : Int) : Tr → List Value
 | .leaf _ k v s => SB bits k v s
 | _ => AK
def Tr.inC (bits : Int) : Tr → List Value
 | .inner _ l r => JC bits l r
 | _ => xD
def Tr.left : Tr → Tr
 | .inner _ l _ => l
 | _ => .nil
def Tr.right : Tr → Tr
 | .inner _ _ r => r
 | _ => .nil
def Tr.key : Tr → List UInt8
 | .leaf _ k _ _ => k
 | _ => List.replicate 32 0
def Tr.val : Tr → List UInt8
 | .leaf _ _ v _ => v
 | _ => []
def Tr.vs : Tr → Value
 | .leaf _ _ _ s => s
 | _ => .slice none 0 0
def Tr.vd (bits : Int) : Tr → List UInt8
 | .leaf _ _ v _ => nI bits v
 | _ => List.replicate 32 0
def Tr.aCD : Tr → Nat
 | .inner _ l r => l.er.gC + r.er.gC
 | _ => 0
def Tr.ld (bits : Int) : Tr → List UInt8
 | .inner _ l _ => l.er.nV bits
 | _ => List.replicate 32 0
def Tr.rd (bits : Int) : Tr → List UInt8
 | .inner _ _ r => r.er.nV bits
 | _ => List.replicate 32 0
theorem fY (bits : Int) (v : List UInt8) : (nI bits v).length = 32 := cB _ _
theorem aY : (∀ l b, (eB l b).length = 32) ∧ (∀ l, (cZ l).length = 32) ∧ (∀ b (s : Sh), (s.nV b).length = 32) ∧ (∀ b v, (nI b v).length = 32) := ⟨cB, c9, eW, fY⟩
theorem Tr.aT (bits : Int) (T : Tr) : (T.vd bits).length = 32 := match T with | .leaf _ _ v _ => fY bits v | .nil => List.length_replicate | .inner _ _ _ => List.length_replicate
theorem Tr.bR (bits : Int) (T : Tr) : (T.ld bits).length = 32 := match T with | .inner _ l _ => eW bits l.er | .nil => List.length_replicate | .leaf _ _ _ _ => List.length_replicate
theorem Tr.bQ (bits : Int) (T : Tr) : (T.rd bits).length = 32 := match T with | .inner _ _ r => eW bits r.er | .nil => List.length_replicate | .leaf _ _ _ _ => List.length_replicate
theorem cV.gY {bits : Int} {T : Tr} {w : World} (h : cV bits T w) : T.key.length = 32 := by
 cases T <;> first | exact h.1 | simp [Tr.key]
theorem cV.vsl {bits : Int} {T : Tr} {w : World} (h : cV bits T w) : bL T.vs T.val w := by
 cases T <;> first | exact h.2.1 | exact bL.nil _
theorem cV.QM {bits : Int} {T : Tr} {w : World} (h : cV bits T w) : T.val.length ≤ 1000000 := by
 cases T <;> first | exact h.2.2.1 | simp [Tr.val]
theorem cV.left {bits : Int} {T : Tr} {w : World} (h : cV bits T w) : cV bits T.left w := by
 cases T <;> first | exact h.1 | trivial
theorem cV.right {bits : Int} {T : Tr} {w : World} (h : cV bits T w) : cV bits T.right w := by
 cases T <;> first | exact h.2.1 | trivial
theorem Tr.CR (bits : Int) (T : Tr) : T.lfC bits = (kc T.key ++ kc (T.vd bits)) ++ [T.vs] := by cases T <;> rfl
theorem Tr.yI (bits : Int) (T : Tr) : T.inC bits = [T.left.ptr, T.right.ptr] ++ ((kc (T.ld bits) ++ kc (T.rd bits)) ++ [.int .i64 (T.aCD : Int)]) := by cases T <;> rfl
theorem Tr.YF {bits : Int} {T : Tr} {w : World} (h : cV bits T w) : eO (T.lfC bits) := by
 rw [Tr.CR]; exact bN (bN (bH _) (bH _)) (bB _ (by simp [cO.fW h.vsl]))
theorem Tr.YG (bits : Int) (T : Tr) : eO (T.inC bits) := by
 rw [Tr.yI]; exact bN (bB _ rfl) (bN (bN (bH _) (bH _)) (bB _ rfl))
theorem Tr.YP {bits : Int} {T : Tr} {w : World} (h : cV bits T w) : (T.lfC bits).length = 65 := by
 rw [Tr.CR]; simp [aJ, h.gY, Tr.aT]
theorem Tr.YQ (bits : Int) (T : Tr) : (T.inC bits).length = 67 := by
 rw [Tr.yI]; simp [aJ, Tr.bR, Tr.bQ]
theorem Tr.aBa {T : Tr} (h : T.er.kind = 1) : ∃ a k v s, T = .leaf a k v s := by cases T <;> first | exact ⟨_, _, _, _, rfl⟩ | simp [Tr.er, Sh.kind] at h
theorem Tr.BB {T : Tr} (h : T.er.kind = 2) : ∃ a l r, T = .inner a l r := by cases T <;> first | exact ⟨_, _, _, rfl⟩ | simp [Tr.er, Sh.kind] at h
theorem Tr.YO {bits : Int} {T : Tr} (h : T.er.kind ≠ 1) : T.lfC bits = AK := by cases T <;> first | rfl | exact absurd rfl h
theorem Tr.Y4 {bits : Int} {T : Tr} (h : T.er.kind ≠ 2) : T.inC bits = xD := by cases T <;> first | rfl | exact absurd rfl h
theorem Tr.UX (T : Tr) : T.er.gC = if T.er.kind = 1 then 1 else T.aCD := by cases T <;> simp [Tr.er, Sh.gC, Sh.kind, Tr.aCD]
theorem PM {X : Nat → Prop} {w : World}  (hX : c6 X w) :
  bC prog 31 [.pointer none].toArray w fun v w' => v = .int .i64 0 ∧ Out Nil w w' := by
 refine bC.aI (N := 15) func31 rfl rfl (by simp) ?_
 have H := St.begin hX
 refine WE.aA (WL.as rfl rfl (WL.nil (WE.seq (WE.aA (WL.mv rfl rfl (WL.pv (PV.jU rfl xY rfl rfl) rfl (WL.nil ?_)))))))
 refine WE.cR rfl rfl ?_
 refine WE.aA (WL.as rfl rfl (WL.nil (WE.ret ⟨[_], _, .nil _, ⟨rfl, trivial⟩, ?_⟩)))
 exact ⟨rfl, H.aL⟩
theorem KN {X : Nat → Prop} {w : World} {a : Nat} {L : List Value} {D : List UInt8} (hX : c6 X w) (bT : aH X (sI a 150 L D) w) :
  bC prog 31 [.pointer (some ⟨a, 0, none⟩)].toArray w fun v w' => v = .int .i64 1 ∧ Out Nil w w' := by
 refine bC.aI (N := 15) func31 rfl rfl (by simp) ?_
 have H := (St.begin hX).add (cE bT)
 refine WE.aA (WL.as rfl rfl (WL.nil (WE.seq (WE.aA (WL.mv rfl rfl (WL.pv (PV.jU rfl xY rfl rfl) rfl (WL.nil ?_)))))))
 refine WE.bD rfl rfl ?_
 refine WE.skip (WE.seq (WE.aA (WL.mv rfl rfl (WL.pv (PV.nilCheck rfl rfl) rfl (WL.pv (PV.fieldAddr rfl wX rfl) rfl (WL.aX rfl MV rfl rfl (dD.at_ (o := 0) (aN.rd (H.p 0 rfl)) rfl rfl) (WL.nil ?_)))))))
 refine WE.block (WE.aA (WL.pv (PV.y9 rfl GH aAP rfl) rfl (WL.pv (PV.extract rfl rfl rfl) rfl (WL.pv (PV.extract rfl rfl rfl) rfl (WL.nil ?_)))))
 refine WE.cR rfl rfl ?_
 refine WE.aA (WL.as rfl rfl (WL.nil (WE.ret ⟨[_], _, .nil _, ⟨rfl, trivial⟩, ?_⟩)))
 exact ⟨rfl, H.aL⟩
theorem G6 {X : Nat → Prop} {w : World} {a : Nat} {L : List Value} {D : List UInt8} (hX : c6 X w) (bT : aH X (sI a 154 L D) w) :
  bC prog 31 [.pointer (some ⟨a, 0, none⟩)].toArray w fun v w' => v = .int .i64 2 ∧ Out Nil w w' := by
 refine bC.aI (N := 15) func31 rfl rfl (by simp) ?_
 have H := (St.begin hX).add (cE bT)
 refine WE.aA (WL.as rfl rfl (WL.nil (WE.seq (WE.aA (WL.mv rfl rfl (WL.pv (PV.jU rfl xY rfl rfl) rfl (WL.nil ?_)))))))
 refine WE.bD rfl rfl ?_
 refine WE.skip (WE.seq (WE.aA (WL.mv rfl rfl (WL.pv (PV.nilCheck rfl rfl) rfl (WL.pv (PV.fieldAddr rfl wX rfl) rfl (WL.aX rfl MV rfl rfl (dD.at_ (o := 0) (aN.rd (H.p 0 rfl)) rfl rfl) (WL.nil ?_)))))))
 refine WE.block (WE.aA (WL.pv (PV.y9 rfl GH aAP rfl) rfl (WL.pv (PV.extract rfl rfl rfl) rfl (WL.pv (PV.extract rfl rfl rfl) rfl (WL.nil ?_)))))
 refine WE.bD rfl rfl ?_
 refine WE.aA (WL.pv (PV.y9 rfl MJ aDY rfl) rfl (WL.pv (PV.extract rfl rfl rfl) rfl (WL.pv (PV.extract rfl rfl rfl) rfl (WL.nil ?_))))
 refine WE.cR rfl rfl ?_
 refine WE.aA (WL.as rfl rfl (WL.nil (WE.ret ⟨[_], _, .nil _, ⟨rfl, trivial⟩, ?_⟩)))
 exact ⟨rfl, H.aL⟩
theorem e8 {X : Nat → Prop} {w : World} {bits : Int} {T : Tr} (hX : c6 X w) (bT : aH X (cV bits T) w) :
  bC prog 31 [T.ptr].toArray w fun v w' => v = .int .i64 T.er.kind ∧ Out Nil w w' := by
 cases T with
 | nil => exact PM hX
 | leaf a k v s => exact KN hX (bT.imp fun _ h => h.2.2.2)
 | inner a l r => exact G6 hX (bT.imp fun _ h => h.2.2)
theorem LO {X : Nat → Prop} {w : World} {bits : Int} {T : Tr} (hX : c6 X w) (bT : aH X (cV bits T) w) :
  bC prog 72 [T.ptr].toArray w fun v w' => v = .agg (T.lfC bits).toArray ∧ Out Nil w w' := by
 refine bC.aI (N := 12) func72 rfl rfl (by simp) ?_
 have H := (St.begin hX).add (cE bT)
 have hlen := Tr.YP (bT.here)
 have iD := Tr.YF (bT.here)
 refine WE.aA ?_
 refine WL.alloc H rfl KV rfl ?_
 intro b2 w1 H
 refine WL.nil (WE.seq (WE.aA (WL.mv rfl rfl ?_)))
 refine WL.call mE rfl (e8 (T := T) H.aR (H.bJ 0 rfl)) ?_
 rintro _ w2 ⟨rfl, hO⟩
 replace H := H.out hO
 refine WL.pv (PV.neq rfl rfl rfl) rfl (WL.nil ?_)
 refine WE.cond rfl (fun uW => ?_) (fun uW => ?_)
 ·
  try simp only [bP] at uW
  have hz := Tr.YO (bits := bits) uW
  refine WE.aA ?_
  refine WL.pv (PV.eq (v' := .agg (T.lfC bits).toArray) (PV.dQ (l := T.lfC bits) rfl aA5 KV (by rw [hz]; exact Fl.nil)) rfl) rfl ?_
  refine WL.aW H 0 rfl rfl rfl (new := _) rfl (by (rw [EG]; refine congrArg some ?_; (symm; assumption))) iD (Laid.all (by rw [hlen]; rfl)) rfl ?_
  intro w3 H
  refine WL.nil (WE.ret ⟨[_], _, .nil _, ⟨⟨_, rfl, aU aBT (aN.aF (H.l 0 rfl) (aK.all _) rfl) (by (rw [EG]; refine congrArg some ?_; (symm; assumption)))⟩, trivial⟩, ?_⟩)
  exact ⟨rfl, H.aL⟩
 ·
  try simp only [bP] at uW
  obtain ⟨a, k, v, s, rfl⟩ := Tr.aBa uW
  refine WE.skip (WE.aA (WL.mv rfl rfl (WL.pv (PV.nilCheck rfl rfl) rfl (WL.pv (PV.fieldAddr rfl wX rfl) rfl (WL.aX rfl MV rfl rfl (dD.at_ (o := 0) (aN.rd ((H.p 0 rfl : cV bits _ _).2.2.2)) rfl rfl) (WL.pv (PV.MT rfl GH rfl) rfl ?_))))))
  refine WL.aW H 0 rfl rfl rfl (new := _) rfl (by (rw [EG]; refine congrArg some ?_; (symm; assumption))) iD (Laid.all (show (SB bits k v s).length = _ from hlen)) rfl ?_
  intro w4 H
  refine WL.nil (WE.ret ⟨[_], _, .nil _, ⟨⟨_, rfl, aU aBT (aN.aF (H.l 0 rfl) (aK.all _) rfl) (by (rw [EG]; refine congrArg some ?_; (symm; assumption)))⟩, trivial⟩, ?_⟩)
  exact ⟨rfl, H.aL⟩
theorem yH {X : Nat → Prop} {w : World} {bits : Int} {T : Tr} (hX : c6 X w) (bT : aH X (cV bits T) w) :
  bC prog 153 [T.ptr].toArray w fun v w' => v = .agg (T.inC bits).toArray ∧ Out Nil w w' := by
 refine bC.aI (N := 12) func153 rfl rfl (by simp) ?_
 have H := (St.begin hX).add (cE bT)
 have hlen := Tr.YQ bits T
 have iD := Tr.YG bits T
 refine WE.aA ?_
 refine WL.alloc H rfl P9 rfl ?_
 intro b2 w1 H
 refine WL.nil (WE.seq (WE.aA (WL.mv rfl rfl ?_)))
 refine WL.call mE rfl (e8 (T := T) H.aR (H.bJ 0 rfl)) ?_
 rintro _ w2 ⟨rfl, hO⟩
 replace H := H.out hO
 refine WL.pv (PV.neq rfl rfl rfl) rfl (WL.nil ?_)
 refine WE.cond rfl (fun uW => ?_) (fun uW => ?_)
 ·
  try simp only [bP] at uW
  have hz := Tr.Y4 (bits := bits) uW
  refine WE.aA ?_
  refine WL.pv (PV.eq (v' := .agg (T.inC bits).toArray) (PV.dQ (l := T.inC bits) rfl aA4 P9 (by rw [hz]; exact Fl.nil)) rfl) rfl ?_
  refine WL.aW H 0 rfl rfl rfl (new := _) rfl (by (rw [K6]; refine congrArg some ?_; (symm; assumption))) iD (Laid.all (by rw [hlen]; rfl)) rfl ?_
  intro w3 H
  refine WL.nil (WE.ret ⟨[_], _, .nil _, ⟨⟨_, rfl, aU aBS (aN.aF (H.l 0 rfl) (aK.all _) rfl) (by (rw [K6]; refine congrArg some ?_; (symm; assumption)))⟩, trivial⟩, ?_⟩)
  exact ⟨rfl, H.aL⟩
 ·
  try simp only [bP] at uW
  obtain ⟨a, l, r, rfl⟩ := Tr.BB uW
  refine WE.skip (WE.aA (WL.mv rfl rfl (WL.pv (PV.nilCheck rfl rfl) rfl (WL.pv (PV.fieldAddr rfl wX rfl) rfl (WL.aX rfl MV rfl rfl (dD.at_ (o := 0) (aN.rd ((H.p 0 rfl : cV bits _ _).2.2)) rfl rfl) (WL.pv (PV.MT rfl MJ rfl) rfl ?_))))))
  refine WL.aW H 0 rfl rfl rfl (new := _) rfl (by (rw [K6]; refine congrArg some ?_; (symm; assumption))) iD (Laid.all (show (JC bits l r).length = _ from hlen)) rfl ?_
  intro w4 H
  refine WL.nil (WE.ret ⟨[_], _, .nil _, ⟨⟨_, rfl, aU aBS (aN.aF (H.l 0 rfl) (aK.all _) rfl) (by (rw [K6]; refine congrArg some ?_; (symm; assumption)))⟩, trivial⟩, ?_⟩)
  exact ⟨rfl, H.aL⟩
theorem nH {X : Nat → Prop} {w : World} {bits : Int} {T : Tr} (hX : c6 X w) (bT : aH X (cV bits T) w) :
  bC prog 32 [T.ptr].toArray w fun v w' => v = .agg (kc T.key ++ kc (T.vd bits)).toArray ∧ Out Nil w w' := by
 refine bC.aI (N := 6) func32 rfl rfl (by simp) ?_
 have H := (St.begin hX).add (cE bT)
 have hk := cV.gY (bT.here)
 have hd := Tr.aT bits T
 refine WE.aA ?_
 refine WL.alloc H rfl HW rfl ?_
 intro b2 w1 H
 refine WL.nil (WE.aA (WL.mv rfl rfl ?_))
 refine WL.call aGh rfl (LO (T := T) H.aR (H.bJ 0 rfl)) ?_
 rintro _ w2 ⟨rfl, hO⟩
 replace H := H.out hO
 rw [Tr.CR]
 refine WL.pv (PV.lV rfl DK rfl (eG.agg G0 (cI xJ (by simp only [aS, aY, Tr.aT, Tr.bR, Tr.bQ]; omega)) (aK.l (aK.all _)))) rfl ?_
 refine WL.aW H 0 rfl rfl rfl (new := _) rfl (cI xJ (by simp only [aS, aY, Tr.aT, Tr.bR, Tr.bQ]; omega)) (bN (bH _) (bH _)) (Laid.at (Laid.all (by simp only [aS, aY, Tr.aT, Tr.bR, Tr.bQ]; omega)) rfl) rfl ?_
 intro w3 H
 refine WL.nil (WE.ret ⟨[_], _, .nil _, ⟨⟨_, rfl, aU G0 (aN.aF (H.l 0 rfl) (aK.all _) rfl) (cI xJ (by simp only [aS, aY, Tr.aT, Tr.bR, Tr.bQ]; omega))⟩, trivial⟩, ?_⟩)
 exact ⟨rfl, H.aL⟩
theorem KM {X : Nat → Prop} {w : World} {bits : Int} {T : Tr} (hX : c6 X w) (bT : aH X (cV bits T) w) :
  bC prog 112 [T.ptr].toArray w fun v w' => v = T.left.ptr ∧ Out Nil w w' := by
 refine bC.aI (N := 7) func112 rfl rfl (by simp) ?_
 have H := (St.begin hX).add (cE bT)
 refine WE.aA (WL.as rfl rfl (WL.nil (WE.aA (WL.mv rfl rfl ?_))))
 refine WL.call T9 rfl (yH (T := T) H.aR (H.bJ 0 rfl)) ?_
 rintro _ w1 ⟨rfl, hO⟩
 replace H := H.out hO
 rw [Tr.yI]
 refine WL.pv (PV.lV rfl MD rfl (eG.agg VM (by exact K7) (aK.l (aK.all _)))) rfl ?_
 refine WL.pv (PV.rX (i := 0) rfl VE mI rfl rfl (by decide) (eG.one iQ aK.hd)) rfl (WL.as rfl rfl (WL.nil (WE.ret ⟨[_], _, .nil _, ⟨rfl, trivial⟩, ?_⟩)))
 exact ⟨rfl, H.aL⟩
theorem zH {X : Nat → Prop} {w : World} {bits : Int} {T : Tr} (hX : c6 X w) (bT : aH X (cV bits T) w) :
  bC prog 113 [T.ptr].toArray w fun v w' => v = T.right.ptr ∧ Out Nil w w' := by
 refine bC.aI (N := 7) func113 rfl rfl (by simp) ?_
 have H := (St.begin hX).add (cE bT)
 refine WE.aA (WL.as rfl rfl (WL.nil (WE.aA (WL.mv rfl rfl ?_))))
 refine WL.call T9 rfl (yH (T := T) H.aR (H.bJ 0 rfl)) ?_
 rintro _ w1 ⟨rfl, hO⟩
 replace H := H.out hO
 rw [Tr.yI]
 refine WL.pv (PV.lV rfl MD rfl (eG.agg VM (by exact K7) (aK.l (aK.all _)))) rfl ?_
 refine WL.pv (PV.rX (i := 1) rfl VE mI rfl rfl (by decide) (eG.one iQ (aK.tl aK.hd rfl))) rfl (WL.as rfl rfl (WL.nil (WE.ret ⟨[_], _, .nil _, ⟨rfl, trivial⟩, ?_⟩)))
 exact ⟨rfl, H.aL⟩
theorem WA {X : Nat → Prop} {w : World} {bits : Int} {T : Tr} (hX : c6 X w) (bT : aH X (cV bits T) w) :
  bC prog 99 [T.ptr].toArray w fun v w' => v = .int .i64 (T.er.gC : Int) ∧ Out Nil w w' := by
 refine bC.aI (N := 9) func99 rfl rfl (by simp) ?_
 have H := (St.begin hX).add (cE bT)
 have hd := Tr.bR bits T
 have hr := Tr.bQ bits T
 refine WE.aA (WL.as rfl rfl (WL.nil (WE.seq (WE.aA (WL.mv rfl rfl ?_)))))
 refine WL.call mE rfl (e8 (T := T) H.aR (H.bJ 0 rfl)) ?_
 rintro _ w1 ⟨rfl, hO⟩
 replace H := H.out hO
 refine WL.pv (PV.eql rfl rfl rfl) rfl (WL.nil ?_)
 refine WE.cond rfl (fun uW => ?_) (fun uW => ?_)
 ·
  try simp only [bP] at uW
  refine WE.aA (WL.as rfl rfl (WL.nil (WE.ret ⟨[_], _, .nil _, ⟨rfl, trivial⟩, ?_⟩)))
  refine ⟨?_, H.aL⟩
  rw [Tr.UX, if_pos uW]; rfl
 ·
  try simp only [bP] at uW
  refine WE.skip (WE.aA (WL.mv rfl rfl ?_))
  refine WL.call T9 rfl (yH (T := T) H.aR (H.bJ 0 rfl)) ?_
  rintro _ w2 ⟨rfl, hO⟩
  replace H := H.out hO
  rw [Tr.yI]
  refine WL.pv (PV.lV rfl ZW rfl (eG.one l9 (aK.r (aK.r (aK.all _) rfl) (by simp only [aS, aY, Tr.aT, Tr.bR, Tr.bQ])))) rfl ?_
  refine WL.as rfl rfl (WL.nil (WE.ret ⟨[_], _, .nil _, ⟨rfl, trivial⟩, ?_⟩))
  refine ⟨?_, H.aL⟩
  rw [Tr.UX, if_neg uW]; rfl
theorem HI {X : Nat → Prop} {w : World} {a : Value} {la : List UInt8} (hX : c6 X w) (bT : aH X (bL a la) w) (rY : la.length ≤ 70368744177664) :
  bC prog 102 [a].toArray w fun v w' => Out Nil w w' ∧ w'.ownsRow w.heap.size 5 1 v la.length (kc la) := by
 refine bC.aI (N := 8) func102 rfl rfl (by simp) ?_
 have H := (St.begin hX).add (cE bT)
 refine WE.aA (WL.as rfl rfl (WL.nil (WE.seq (WE.aA (WL.mv rfl rfl (WL.pv (PV.aBJ rfl (H.p 0 rfl) eN rfl rfl) rfl (WL.nil ?_)))))))
 refine WE.cond rfl (fun ZH => ?_) (fun ZH => ?_)
 ·
  try simp only [bP] at ZH
  have h0 : la = [] := List.eq_nil_of_length_eq_zero (cO.R3 (H.p 0 rfl) ZH)
  subst h0
  refine WE.aA (WL.as rfl rfl (WL.nil (WE.ret ⟨[_], _, .nil _, ⟨rfl, trivial⟩, ?_⟩)))
  exact ⟨H.aL, World.ownsRow_nil _ _ _ _⟩
 ·
  try simp only [bP] at ZH
  refine WE.skip (WE.aA ?_)
  refine WL.bA (l0 := []) H rfl iG (by decide) (cW _ _) Fl.nil rfl ?_
  intro b5 w1 H
  replace H := H.AQ (n := 0) (sz := 1) (i := 0) rfl rfl (by decide)
  refine WL.mv rfl rfl ?_
  refine WL.append H 0 iG (by decide) rfl rfl rfl (H.p 0 rfl) (bH _) (by omega) (by decide) rfl ?_
  intro v7 w2 H
  refine WL.as rfl rfl (WL.nil (WE.ret ⟨[_], _, .nil _, ⟨rfl, trivial⟩, ?_⟩))
  exact ⟨H.aL, by have := H.l 0 rfl; rw [Nat.zero_add] at this; exact this⟩
theorem WC {X : Nat → Prop} {w : World} {bh bc : Nat} {bits n : Int} {a : Value} {k la : List UInt8} (hX : c6 X w) (fA : aN w bc 213 ([.int .i64 n])) (bT : aH (fun c_ => X c_ ∨ c_ = bc) (fO bh bc bits) w) (dJ : aH (fun c_ => X c_ ∨ c_ = bc) (bL a la) w) (fQ : aH (fun c_ => X c_ ∨ c_ = bc) (aZ) w) (bU : 0 ≤ bits ∧ bits ≤ 256) (rY : la.length ≤ 1000000) (hk : k.length = 32) :
  bC prog 173 [.pointer (some ⟨bh, 0, none⟩), .agg (kc k).toArray, a].toArray w fun v w' => ∃ m, v = .agg (kc k ++ kc (nI bits la)).toArray ∧ Out (· = bc) w w' ∧ aN w' bc 213 [.int .i64 m] := by
 refine bC.aI (N := 13) func173 rfl rfl (by simp) ?_
 have H := (((St.dK (b := bc) (t := 213) (l := [.int .i64 n]) hX fA).add (cC fQ)).add (cC dJ)).add (cC bT)
 refine WE.aA ?_
 refine WL.box (l := kc k) H rfl rfl rfl ?_
 intro b4 w1 H
 refine WL.alloc H rfl HW rfl ?_
 intro b6 w2 H
 refine WL.nil ?_
 refine WE.bG (.take 0 (.take 1 (.take 2 (.aG 3 (.aG 4 (.take 5 (.aG 6 .done))))))) mixed (by kernel_rfl) ?_
 replace H := H.out (Out.drew _)
 refine WP.dO rfl rfl rfl c7 rfl (aN.aF (H.l 1 rfl) (aK.all _) rfl) (cI cM (by simp only [aS, aY, Tr.aT, Tr.bR, Tr.bQ]; omega)) ?_
 refine WP.mv rfl rfl rfl (WP.mv rfl rfl rfl (WP.aG rfl ?_))
 refine WL.call aBB rfl (MW (la := la) H.aR (H.bJ 1 rfl) (by omega)) ?_
 rintro v10 w3 ⟨hO, hR⟩
 replace H := (H.out hO).add hR
 refine WL.nil ⟨(fa (fun _ _ => (aN.aF (H.l 1 rfl) (aK.all _) rfl)) c8), ?_⟩
 refine WP.aG rfl ?_
 refine WL.call JR rfl (sJ (la := 2 :: la) H.aR (H.o 0 rfl) (by exact H.aO 0 rfl 1 rfl) (by exact H.aO 0 rfl 0 rfl) (by exact H.aO 0 rfl 3 rfl) bU (by simp; omega)) ?_
 rintro _ w4 ⟨rfl, hO, hB⟩
 replace H := H.eZ 0 rfl hO hB
 refine WL.nil ⟨(fa (fun _ _ => (aN.aF (H.l 1 rfl) (aK.all _) rfl)) c8), ?_⟩
 refine WP.aC rfl rfl (PV.dQ rfl YA HW (Fl.cons rfl rfl (by simp only [aS, aY, Tr.aT, Tr.bR, Tr.bQ]; omega) (Laid.left (Laid.all (by simp only [aS, aY, Tr.aT, Tr.bR, Tr.bQ]; omega))) (Fl.cons rfl rfl (by simp only [aS, aY, Tr.aT, Tr.bR, Tr.bQ]) (Laid.right (Laid.all (by simp only [aS, aY, Tr.aT, Tr.bR, Tr.bQ])) (by simp only [aS, aY, Tr.aT, Tr.bR, Tr.bQ]; omega)) Fl.nil))) ?_
 refine WP.aG rfl ?_
 refine WL.aW H 0 rfl rfl rfl (new := _) rfl (cI xJ (by simp only [aS, aY, Tr.aT, Tr.bR, Tr.bQ]; omega)) (bN (bH _) (bH _)) (Laid.at (Laid.all (by simp only [aS, aY, Tr.aT, Tr.bR, Tr.bQ]; omega)) rfl) rfl ?_
 intro w5 H
 refine WL.nil ⟨(fa (nw 6 0) c8), ?_⟩
 refine WP.done (WE.ret ⟨[_], _, .nil _, ⟨⟨_, rfl, aU G0 (aN.aF (H.l 0 rfl) (aK.all _) rfl) (cI xJ (by simp only [aS, aY, Tr.aT, Tr.bR, Tr.bQ]; omega))⟩, trivial⟩, ?_⟩)
 exact ⟨_, rfl, H.cT, H.o 0 rfl⟩
theorem N0 {X : Nat → Prop} {w : World} {k d : List UInt8} {s : Value} (hX : c6 X w) (hk : k.length = 32) (hd : d.length = 32) :
  bC prog 242 [.agg ((kc k ++ kc d) ++ [s]).toArray].toArray w fun v w' => Out Nil w w' ∧ aH X (bL v (0 :: (k ++ d))) w' := by
 refine bC.aI (N := 6) func242 rfl rfl (by simp) ?_
 have H := St.begin hX
 refine WE.aA ?_
 refine WL.box (l := (kc k ++ kc d) ++ [s]) H rfl rfl rfl ?_
 intro b1 w1 H
 refine WL.as rfl rfl (WL.nil (WE.aA (WL.pv (PV.fieldAddr rfl DK rfl) rfl ?_)))
 refine WL.bE rfl G0 rfl rfl (aN.aF (H.l 0 rfl) (aK.l (aK.all _)) rfl) (cI xJ (by simp only [aS, aY, Tr.aT, Tr.bR, Tr.bQ]; omega)) ?_
 refine WL.call aBu rfl (WB (k := k) (l := d) H.aR hk hd) ?_
 rintro v5 w2 ⟨hO, hR⟩
 replace H := (H.out hO).add hR
 refine WL.as rfl rfl (WL.nil (WE.ret ⟨[_], _, .nil _, ⟨rfl, trivial⟩, ?_⟩))
 exact ⟨H.aL, H.fX (H.bJ 0 rfl)⟩
theorem JB {X : Nat → Prop} {w : World} {p d e : List UInt8} {x y z : Value} (hX : c6 X w) (hd : d.length = 32) (he : e.length = 32) :
  bC prog 243 [.agg ([x, y] ++ ((kc d ++ kc e) ++ [z])).toArray].toArray w fun v w' => Out Nil w w' ∧ aH X (bL v (1 :: (d ++ e))) w' := by
 refine bC.aI (N := 10) func243 rfl rfl (by simp) ?_
 have H := St.begin hX
 refine WE.aA ?_
 refine WL.box (l := [x, y] ++ ((kc d ++ kc e) ++ [z])) H rfl rfl rfl ?_
 intro b1 w1 H
 refine WL.as rfl rfl (WL.nil (WE.aA (WL.pv (PV.fieldAddr rfl MC rfl) rfl (WL.pv (PV.bF rfl zA dH rfl rfl (by omega) (by omega)) rfl ?_))))
 refine WL.bE rfl fS rfl rfl (aN.aF (H.l 0 rfl) (aK.r (aK.l (aK.l (aK.all _))) rfl) rfl) (cI dH (by simp only [aS, aY, Tr.aT, Tr.bR, Tr.bQ]; omega)) ?_
 refine WL.pv (PV.fieldAddr rfl MC rfl) rfl (WL.pv (PV.bF rfl zA dH rfl rfl (by omega) (by omega)) rfl ?_)
 refine WL.bE rfl fS rfl rfl (aN.aF (H.l 0 rfl) (aK.r (aK.l (aK.r (aK.all _) rfl)) rfl) (by simp [aJ, aQ, *])) (cI dH (by simp only [aS, aY, Tr.aT, Tr.bR, Tr.bQ]; omega)) ?_
 refine WL.call aBv rfl (V7 (k := d) (l := e) H.aR hd he) ?_
 rintro v9 w2 ⟨hO, hR⟩
 replace H := (H.out hO).add hR
 refine WL.as rfl rfl (WL.nil (WE.ret ⟨[_], _, .nil _, ⟨rfl, trivial⟩, ?_⟩))
 exact ⟨H.aL, H.fX (H.bJ 0 rfl)⟩
theorem HZ {X : Nat → Prop} {w : World} {bh bc : Nat} {bits n : Int} {k d : List UInt8} {s : Value} (hX : c6 X w) (fA : aN w bc 213 ([.int .i64 n])) (bT : aH (fun c_ => X c_ ∨ c_ = bc) (fO bh bc bits) w) (dJ : aH (fun c_ => X c_ ∨ c_ = bc) (aZ) w) (bU : 0 ≤ bits ∧ bits ≤ 256) (hk : k.length = 32) (hd : d.length = 32) :
  bC prog 172 [.pointer (some ⟨bh, 0, none⟩), .iface 150 (.agg ((kc k ++ kc d) ++ [s]).toArray)].toArray w fun v w' => ∃ a m, v = .pointer (some ⟨a, 0, none⟩) ∧ Out (· = bc) w w' ∧ aN w' bc 213 [.int .i64 m] ∧ aH (fun c => X c ∨ c = bc) (sI a 150 ((kc k ++ kc d) ++ [s]) (eB (cZ (0 :: (k ++ d))) bits)) w' := by
 refine bC.aI (N := 12) func172 rfl rfl (by simp) ?_
 have H := ((St.dK (b := bc) (t := 213) (l := [.int .i64 n]) hX fA).add (cC dJ)).add (cC bT)
 refine WE.aA (WL.as rfl rfl (WL.nil (WE.aA (WL.mv rfl rfl (WL.mv rfl rfl (WL.mv rfl rfl ?_))))))
 refine WL.invoke rfl (by kernel_rfl) GH aGs rfl (N0 (k := k) (d := d) (s := s) H.aR hk hd) ?_
 rintro v8 w2 ⟨hO, hR⟩
 replace H := (H.out hO).add hR
 refine WL.call JR rfl (sJ (la := 0 :: (k ++ d)) H.aR (H.o 0 rfl) (by exact H.aO 0 rfl 1 rfl) (by exact H.aO 0 rfl 0 rfl) (by exact H.aO 0 rfl 2 rfl) bU (by simp; omega)) ?_
 rintro _ w4 ⟨rfl, hO, hB⟩
 replace H := H.eZ 0 rfl hO hB
 refine WL.pv (PV.dQ rfl aA6 aAT (Fl.cons rfl rfl (by simp only [aS, aY, Tr.aT, Tr.bR, Tr.bQ]) (Laid.left (Laid.all (by simp only [aS, aY, Tr.aT, Tr.bR, Tr.bQ]))) (Fl.cons rfl rfl (by simp only [aS, aY, Tr.aT, Tr.bR, Tr.bQ]) (Laid.right (Laid.all (by simp only [aS, aY, Tr.aT, Tr.bR, Tr.bQ])) (by simp only [aS, aY, Tr.aT, Tr.bR, Tr.bQ])) Fl.nil))) rfl ?_
 refine WL.box (l := _) H rfl rfl rfl ?_
 intro VC w5 H
 refine WL.as rfl rfl (WL.nil (WE.ret ⟨[_], _, .nil _, ⟨rfl, trivial⟩, ?_⟩))
 replace H := H.freeze (i := 0) rfl
 exact ⟨_, _, rfl, H.cT, H.o 0 rfl, (H.gA (H.bJ 0 rfl)).imp fun _ h => h⟩
theorem D8 {X : Nat → Prop} {w : World} {bh bc : Nat} {bits n : Int} {d e : List UInt8} {x y z : Value} (hX : c6 X w) (fA : aN w bc 213 ([.int .i64 n])) (bT : aH (fun c_ => X c_ ∨ c_ = bc) (fO bh bc bits) w) (dJ : aH (fun c_ => X c_ ∨ c_ = bc) (aZ) w) (bU : 0 ≤ bits ∧ bits ≤ 256) (hd : d.length = 32) (he : e.length = 32) :
  bC prog 172 [.pointer (some ⟨bh, 0, none⟩), .iface 154 (.agg ([x, y] ++ ((kc d ++ kc e) ++ [z])).toArray)].toArray w fun v w' => ∃ a m, v = .pointer (some ⟨a, 0, none⟩) ∧ Out (· = bc) w w' ∧ aN w' bc 213 [.int .i64 m] ∧ aH (fun c => X c ∨ c = bc) (sI a 154 ([x, y] ++ ((kc d ++ kc e) ++ [z])) (eB (cZ (1 :: (d ++ e))) bits)) w' := by
 refine bC.aI (N := 12) func172 rfl rfl (by simp) ?_
 have H := ((St.dK (b := bc) (t := 213) (l := [.int .i64 n]) hX fA).add (cC dJ)).add (cC bT)
 refine WE.aA (WL.as rfl rfl (WL.nil (WE.aA (WL.mv rfl rfl (WL.mv rfl rfl (WL.mv rfl rfl ?_))))))
 refine WL.invoke rfl (by kernel_rfl) MJ aGr rfl (JB (p := []) (x := x) (y := y) (z := z) H.aR hd he) ?_
 rintro v8 w2 ⟨hO, hR⟩
 replace H := (H.out hO).add hR
 refine WL.call JR rfl (sJ (la := 1 :: (d ++ e)) H.aR (H.o 0 rfl) (by exact H.aO 0 rfl 1 rfl) (by exact H.aO 0 rfl 0 rfl) (by exact H.aO 0 rfl 2 rfl) bU (by simp; omega)) ?_
 rintro _ w4 ⟨rfl, hO, hB⟩
 replace H := H.eZ 0 rfl hO hB
 refine WL.pv (PV.dQ rfl aA6 aAT (Fl.cons rfl rfl (by simp only [aS, aY, Tr.aT, Tr.bR, Tr.bQ]) (Laid.left (Laid.all (by simp only [aS, aY, Tr.aT, Tr.bR, Tr.bQ]))) (Fl.cons rfl rfl (by simp only [aS, aY, Tr.aT, Tr.bR, Tr.bQ]) (Laid.right (Laid.all (by simp only [aS, aY, Tr.aT, Tr.bR, Tr.bQ])) (by simp only [aS, aY, Tr.aT, Tr.bR, Tr.bQ])) Fl.nil))) rfl ?_
 refine WL.box (l := _) H rfl rfl rfl ?_
 intro VC w5 H
 refine WL.as rfl rfl (WL.nil (WE.ret ⟨[_], _, .nil _, ⟨rfl, trivial⟩, ?_⟩))
 replace H := H.freeze (i := 0) rfl
 exact ⟨_, _, rfl, H.cT, H.o 0 rfl, (H.gA (H.bJ 0 rfl)).imp fun _ h => h⟩
theorem dD.aF {w : World} {b o o' : Nat} {l0 l : List Value} (h : dD w ⟨b, 0, none⟩ l0) (s : aK l0 o l) (ho : o' = o) : dD w ⟨b, o', none⟩ l := by
 subst ho
 have := dD.sub h s
 rwa [mS, Nat.zero_add] at this
theorem aH.aH0 {X : Nat → Prop} {p q r : World → Prop} {w : World} (h : aH X p w) (h' : aH X q w) (h'' : aH X r w) : aH X (fun w => p w ∧ q w ∧ r w) w := fun w' hw => ⟨h w' hw, h' w' hw, h'' w' hw⟩
theorem wA {X : Nat → Prop} {w : World} {bh bc : Nat} {bits n : Int} (hX : c6 X w) (fA : aN w bc 213 ([.int .i64 n])) (bT : aH (fun c_ => X c_ ∨ c_ = bc) (fO bh bc bits) w) (dJ : aH (fun c_ => X c_ ∨ c_ = bc) (aZ) w) (bU : 0 ≤ bits ∧ bits ≤ 256) :
  bC prog 27 [.pointer (some ⟨bh, 0, none⟩), .pointer none].toArray w fun v w' => ∃ m, v = .agg (kc (lW bits)).toArray ∧ Out (· = bc) w w' ∧ aN w' bc 213 [.int .i64 m] := by
 refine bC.aI (N := 14) func27 rfl rfl (by simp) ?_
 have H := ((St.dK (b := bc) (t := 213) (l := [.int .i64 n]) hX fA).add (cC dJ)).add (cC bT)
 refine WE.aA ?_
 refine WL.alloc H rfl lB rfl ?_
 intro b4 w1 H
 refine WL.nil (WE.seq (WE.aA (WL.mv rfl rfl (WL.pv (PV.jU rfl xY rfl rfl) rfl (WL.nil ?_)))))
 refine WE.cR rfl rfl ?_
 refine WE.aA (WL.mv rfl rfl ?_)
 refine WL.call aGj rfl (M1 H.aR) ?_
 rintro v8 w2 ⟨hO, hR⟩
 replace H := (H.out hO).add hR
 refine WL.call JR rfl (sJ (la := [3]) H.aR (H.o 0 rfl) (by exact H.aO 0 rfl 1 rfl) (by exact H.aO 0 rfl 0 rfl) (by exact H.aO 0 rfl 2 rfl) bU (by simp)) ?_
 rintro _ w3 ⟨rfl, hO, hB⟩
 replace H := H.eZ 0 rfl hO hB
 refine WL.aW H 0 rfl rfl rfl (new := _) rfl (by exact dH) (bH _) (Laid.at (Laid.all (by simp only [aS, aY, Tr.aT, Tr.bR, Tr.bQ])) rfl) rfl ?_
 intro w4 H
 refine WL.nil (WE.ret ⟨[_], _, .nil _, ⟨⟨_, rfl, aU fS (aN.aF (H.l 0 rfl) (aK.all _) rfl) (by exact dH)⟩, trivial⟩, ?_⟩)
 exact ⟨_, rfl, H.cT, H.o 0 rfl⟩
theorem zM {X : Nat → Prop} {w : World} {h : Value} {a : Nat} {t : TypeId} {L : List Value} {D : List UInt8} (hX : c6 X w) (bT : aH X (sI a t L D) w) (hD : D.length = 32) :
  bC prog 27 [h, .pointer (some ⟨a, 0, none⟩)].toArray w fun v w' => v = .agg (kc D).toArray ∧ Out Nil w w' := by
 refine bC.aI (N := 14) func27 rfl rfl (by simp) ?_
 have H := (St.begin hX).add (cE bT)
 refine WE.aA ?_
 refine WL.alloc H rfl lB rfl ?_
 intro b4 w1 H
 refine WL.nil (WE.seq (WE.aA (WL.mv rfl rfl (WL.pv (PV.jU rfl xY rfl rfl) rfl (WL.nil ?_)))))
 refine WE.bD rfl rfl ?_
 refine WE.skip (WE.aA (WL.mv rfl rfl (WL.pv (PV.nilCheck rfl rfl) rfl (WL.pv (PV.fieldAddr rfl ZY rfl) rfl ?_))))
 refine WL.bE rfl fS rfl rfl (dD.aF (aN.rd (H.p 0 rfl)) (aK.r (a := [.iface t (.agg L.toArray)]) (aK.all (kc D)) rfl) rfl) (cI dH (by simp only [aS, aY, Tr.aT, Tr.bR, Tr.bQ]; omega)) ?_
 refine WL.aW H 0 rfl rfl rfl (new := _) rfl (cI dH (by simp only [aS, aY, Tr.aT, Tr.bR, Tr.bQ]; omega)) (bH _) (Laid.at (Laid.all (by simp only [aS, aY, Tr.aT, Tr.bR, Tr.bQ]; omega)) rfl) rfl ?_
 intro w2 H
 refine WL.nil (WE.ret ⟨[_], _, .nil _, ⟨⟨_, rfl, aU fS (aN.aF (H.l 0 rfl) (aK.all _) rfl) (cI dH (by simp only [aS, aY, Tr.aT, Tr.bR, Tr.bQ]; omega))⟩, trivial⟩, ?_⟩)
 exact ⟨rfl, H.aL⟩
theorem tW {X : Nat → Prop} {w : World} {bh bc : Nat} {bits n : Int} {T : Tr} (hX : c6 X w) (fA : aN w bc 213 [.int .i64 n]) (bT : aH (fun c => X c ∨ c = bc) (fO bh bc bits) w)
  (dJ : aH (fun c => X c ∨ c = bc) (cV bits T) w) (fQ : aH (fun c => X c ∨ c = bc) aZ w) (bU : 0 ≤ bits ∧ bits ≤ 256) :
  bC prog 27 [.pointer (some ⟨bh, 0, none⟩), T.ptr].toArray w fun v w' => ∃ m, v = .agg (kc (T.er.nV bits)).toArray ∧ Out (· = bc) w w' ∧ aN w' bc 213 [.int .i64 m] := by
 have old : ∀ {w' : World}, Out Nil w w' → Out (· = bc) w w' ∧ aN w' bc 213 [.int .i64 n] := fun hO => ⟨hO.mono fun _ _ h => h.elim, fA.of_eq (hO.block _ fA.lt id)⟩
 cases T with
 | nil => exact wA hX fA bT fQ bU
 | leaf a k v s =>
  refine (zM (X := Nil) (D := SA bits k v) (oD _) ((dJ.imp fun _ h => h.2.2.2).nil) (cB _ _)).mono ?_
  rintro v w' ⟨rfl, hO⟩
  exact ⟨n, rfl, old hO⟩
 | inner a l r =>
  refine (zM (X := Nil) (D := vO bits (l.er.nV bits) (r.er.nV bits)) (oD _) ((dJ.imp fun _ h => h.2.2).nil) (cB _ _)).mono ?_
  rintro v w' ⟨rfl, hO⟩
  exact ⟨n, rfl, old hO⟩
theorem aAF {X : Nat → Prop} {w : World} {bh bc : Nat} {bits n : Int} {l r : Tr} (hX : c6 X w) (fA : aN w bc 213 ([.int .i64 n])) (bT : aH (fun c_ => X c_ ∨ c_ = bc) (fO bh bc bits) w) (dJ : aH (fun c_ => X c_ ∨ c_ = bc) (cV bits l) w) (fQ : aH (fun c_ => X c_ ∨ c_ = bc) (cV bits r) w) (jW : aH (fun c_ => X c_ ∨ c_ = bc) (aZ) w) (bU : 0 ≤ bits ∧ bits ≤ 256) (hA : l.addr.isNone = true → r.er.kind = 2) (hB_ : r.addr.isNone = true → l.er.kind = 2) (TD : l.er.gC + r.er.gC ≤ 1000000000) :
  bC prog 140 [.pointer (some ⟨bh, 0, none⟩), l.ptr, r.ptr].toArray w fun v w' => ∃ (T : Tr) (m : Int), v = T.ptr ∧ T.er = .inner l.er r.er ∧ Out (· = bc) w w' ∧ aN w' bc 213 [.int .i64 m] ∧ aH (fun c => X c ∨ c = bc) (cV bits T) w' := by
 refine bC.aI (N := 44) func140 rfl rfl (by simp) ?_
 have H := ((((St.dK (b := bc) (t := 213) (l := [.int .i64 n]) hX fA).add (cC jW)).add (cC fQ)).add (cC dJ)).add (cC bT)
 refine WE.aA (WL.as rfl rfl (WL.nil ?_))
 refine WE.cut (α := Unit) (rg [(6, 1), (8, 8)]) (fun _ => []) (fun _ wl => St X w wl [aP.blk bc 213 [.int .i64 n]] [] [fO bh bc bits, cV bits l, cV bits r, aZ]) ?_ ?_
 ·
  refine WE.aA (WL.mv rfl rfl (WL.pv (PV.jU rfl xY rfl rfl) rfl (WL.mv rfl rfl ?_)))
  refine WL.split (t := 10) rfl (fun OB => ?_) (fun OB => ?_)
  ·
   refine WL.known (t := 9) (c := true) rfl OB ?_
   try simp only [bP] at OB
   refine WL.mv rfl rfl ?_
   refine WL.call mE rfl (e8 (X := Nil) (T := r) (oD _) (by exact (H.bJ 2 rfl).nil)) ?_
   rintro _ w1 ⟨rfl, hO⟩
   replace H := H.out hO
   refine WL.pv (PV.neq rfl rfl rfl) rfl (WL.pv (PV.c5 rfl rfl rfl) rfl (WL.nil ?_))
   refine WE.bD rfl (by simp [hA OB]) ?_
   refine WE.skip ?_
   exact ⟨(), (by repeat (first | with_reducible exact bK.refl _ _ | refine bK.dG rfl ?_)), trivial, rfl, H⟩
  ·
   refine WL.known (t := 9) (c := false) rfl OB ?_
   try simp only [bP] at OB
   refine WL.off rfl (WL.off rfl (WL.off rfl (WL.pv (PV.cF rfl rfl rfl) rfl (WL.nil (WE.jF rfl (WE.skip ?_))))))
   exact ⟨(), (by repeat (first | with_reducible exact bK.refl _ _ | refine bK.dG rfl ?_)), trivial, rfl, H⟩
 ·
  intro _ γ w2 hI
  try dsimp only at hI
  replace H := hI
  refine WE.cut (α := Unit) (rg [(6, 1), (16, 8)]) (fun _ => []) (fun _ wl => St X w wl [aP.blk bc 213 [.int .i64 n]] [] [fO bh bc bits, cV bits l, cV bits r, aZ]) ?_ ?_
  ·
   refine WE.aA (WL.mv rfl rfl (WL.pv (PV.jU rfl xY rfl rfl) rfl (WL.mv rfl rfl ?_)))
   refine WL.split (t := 18) rfl (fun tH => ?_) (fun tH => ?_)
   ·
    refine WL.known (t := 17) (c := true) rfl tH ?_
    try simp only [bP] at tH
    refine WL.mv rfl rfl ?_
    refine WL.call mE rfl (e8 (X := Nil) (T := l) (oD _) (by exact (H.bJ 1 rfl).nil)) ?_
    rintro _ w3 ⟨rfl, hO⟩
    replace H := H.out hO
    refine WL.pv (PV.neq rfl rfl rfl) rfl (WL.pv (PV.c5 rfl rfl rfl) rfl (WL.nil ?_))
    refine WE.bD rfl (by simp [hB_ tH]) ?_
    refine WE.skip ?_
    exact ⟨(), (by repeat (first | with_reducible exact bK.refl _ _ | refine bK.dG rfl ?_)), trivial, rfl, H⟩
   ·
    refine WL.known (t := 17) (c := false) rfl tH ?_
    try simp only [bP] at tH
    refine WL.off rfl (WL.off rfl (WL.off rfl (WL.pv (PV.cF rfl rfl rfl) rfl (WL.nil (WE.jF rfl (WE.skip ?_))))))
    exact ⟨(), (by repeat (first | with_reducible exact bK.refl _ _ | refine bK.dG rfl ?_)), trivial, rfl, H⟩
  ·
   intro _ γ w4 hI
   try dsimp only at hI
   replace H := hI
   refine WE.aA (WL.mv rfl rfl (WL.mv rfl rfl ?_))
   refine WL.pv (PV.eq (v' := .agg [l.ptr, r.ptr].toArray) (PV.lY rfl VE mI aAS (Fl.cons rfl rfl (by simp only [aS, aY, Tr.aT, Tr.bR, Tr.bQ]) (Laid.aCs 0 (by simp only [aS, aY, Tr.aT, Tr.bR, Tr.bQ]; omega)) (Fl.cons rfl rfl (by simp only [aS, aY, Tr.aT, Tr.bR, Tr.bQ]) (Laid.aCs 1 (by simp [aJ, aQ, *])) Fl.nil))) rfl) rfl ?_
   refine WL.alloc H rfl aAS rfl ?_
   intro b7 w5 H
   refine WL.aW H 0 rfl rfl rfl (new := _) rfl (by exact K7) (bB _ rfl) (Laid.at (Laid.all (by simp only [aS, aY, Tr.aT, Tr.bR, Tr.bQ])) rfl) rfl ?_
   intro w6 H
   refine WL.nil ?_
   refine WE.bG (.take 0 (.take 1 (.take 2 (.take 3 (.take 5 (.take 6 (.take 9 (.take 11 (.aG 4 (.aG 7 (.take 8 (.aG 10 (.aG 12 (.take 13 (.take 14 (.take 15 (.aG 16 (.take 17 .done)))))))))))))))))) mixed (by kernel_rfl) ?_
   replace H := H.out (Out.drew _)
   refine WP.mv rfl rfl rfl ?_
   refine WP.dO rfl rfl rfl VM rfl (aN.aF (H.l 0 rfl) (aK.all _) rfl) (by exact K7) ?_
   refine WP.mv rfl rfl rfl (WP.mv rfl rfl rfl (WP.mv rfl rfl rfl (WP.mv rfl rfl rfl (WP.mv rfl rfl rfl (WP.mv rfl rfl rfl (WP.aG rfl ?_))))))
   refine WL.call T6 rfl (tW (T := l) H.aR (H.o 0 rfl) (by exact H.aO 0 rfl 0 rfl) (by exact H.aO 0 rfl 1 rfl) (by exact H.aO 0 rfl 3 rfl) bU) ?_
   rintro _ w7 ⟨aLd, rfl, hO, hB⟩
   replace H := H.eZ 0 rfl hO hB
   refine WL.nil ⟨(fa (fun _ _ => (aN.aF (H.l 0 rfl) (aK.all _) rfl)) c8), ?_⟩
   refine WP.aG rfl ?_
   refine WL.call T6 rfl (tW (T := r) H.aR (H.o 0 rfl) (by exact H.aO 0 rfl 0 rfl) (by exact H.aO 0 rfl 2 rfl) (by exact H.aO 0 rfl 3 rfl) bU) ?_
   rintro _ w8 ⟨aLc, rfl, hO, hB⟩
   replace H := H.eZ 0 rfl hO hB
   refine WL.nil ⟨(fa (fun _ _ => (aN.aF (H.l 0 rfl) (aK.all _) rfl)) c8), ?_⟩
   refine WP.aC rfl rfl (PV.lY rfl zA dH QA (Fl.cons rfl rfl (by simp only [aS, aY, Tr.aT, Tr.bR, Tr.bQ]) (Laid.left (Laid.all (by simp only [aS, aY, Tr.aT, Tr.bR, Tr.bQ]))) (Fl.cons rfl rfl (by simp only [aS, aY, Tr.aT, Tr.bR, Tr.bQ]) (Laid.right (Laid.all (by simp only [aS, aY, Tr.aT, Tr.bR, Tr.bQ])) (by simp only [aS, aY, Tr.aT, Tr.bR, Tr.bQ])) Fl.nil))) ?_
   refine WP.aG rfl ?_
   refine WL.call aC4 rfl (WA (X := Nil) (T := l) (oD _) (by exact (H.bJ 1 rfl).nil)) ?_
   rintro _ w9 ⟨rfl, hO⟩
   replace H := H.out hO
   refine WL.nil ⟨(fa (rk hO) c8), ?_⟩
   refine WP.aG rfl ?_
   refine WL.call aC4 rfl (WA (X := Nil) (T := r) (oD _) (by exact (H.bJ 2 rfl).nil)) ?_
   rintro _ tX ⟨rfl, hO⟩
   replace H := H.out hO
   refine WL.nil ⟨(fa (rk hO) c8), ?_⟩
   refine WP.aC rfl rfl (PV.eq (v' := .int .i64 ((l.er.gC + r.er.gC : Nat) : Int)) (PV.bV rfl rfl rfl (by omega) (by omega)) (by congr 1)) ?_
   refine WP.aC rfl rfl (PV.dQ rfl aA4 P9 (Fl.cons rfl rfl (by simp only [aS, aY, Tr.aT, Tr.bR, Tr.bQ]) (Laid.left (Laid.all (by simp only [aS, aY, Tr.aT, Tr.bR, Tr.bQ]))) (Fl.cons rfl rfl (by simp only [aS, aY, Tr.aT, Tr.bR, Tr.bQ]) (Laid.right (Laid.left (Laid.all (by simp only [aS, aY, Tr.aT, Tr.bR, Tr.bQ]))) (by simp only [aS, aY, Tr.aT, Tr.bR, Tr.bQ])) (Fl.cons rfl rfl (by simp only [aS, aY, Tr.aT, Tr.bR, Tr.bQ]) (Laid.right (Laid.right (Laid.all (by simp only [aS, aY, Tr.aT, Tr.bR, Tr.bQ])) rfl) (by simp only [aS, aY, Tr.aT, Tr.bR, Tr.bQ])) Fl.nil)))) ?_
   refine WP.aC rfl rfl (PV.LI rfl MJ) (WP.aG rfl ?_)
   refine WL.call aBz rfl (D8 (d := l.er.nV bits) (e := r.er.nV bits) (x := l.ptr) (y := r.ptr) H.aR (H.o 0 rfl) (by exact H.aO 0 rfl 0 rfl) (by exact H.aO 0 rfl 3 rfl) bU (eW _ _) (eW _ _)) ?_
   rintro _ xG ⟨a2, m2, rfl, hO, hB, hR⟩
   replace H := H.dP 0 rfl hO hB hR
   refine WL.nil ⟨(fa (nw 16 1) c8), ?_⟩
   refine WP.as rfl rfl rfl (WP.done (WE.ret ⟨[_], _, .nil _, ⟨rfl, trivial⟩, ?_⟩))
   exact ⟨.inner a2 l r, m2, rfl, rfl, H.cT, H.o 0 rfl, (H.gA (aH.aH0 (H.bJ 2 rfl) (H.bJ 3 rfl) (H.bJ 0 rfl))).imp fun _ h => h⟩
theorem aAE {X : Nat → Prop} {w : World} {h : Value} {bits : Int} {r : Tr} (hX : c6 X w) (bT : aH X (cV bits r) w) (hk : r.er.kind ≠ 2) :
  bC prog 140 [h, .pointer none, r.ptr].toArray w fun v w' => v = r.ptr ∧ Out Nil w w' := by
 refine bC.aI (N := 44) func140 rfl rfl (by simp) ?_
 have H := (St.begin hX).add (cE bT)
 refine WE.aA (WL.as rfl rfl (WL.nil (WE.seq (WE.aA (WL.mv rfl rfl (WL.pv (PV.jU rfl xY rfl rfl) rfl (WL.mv rfl rfl ?_)))))))
 refine WL.known (t := 10) (c := true) rfl rfl (WL.mv rfl rfl ?_)
 refine WL.call mE rfl (e8 (T := r) H.aR (H.bJ 0 rfl)) ?_
 rintro _ w1 ⟨rfl, hO⟩
 replace H := H.out hO
 refine WL.pv (PV.neq rfl rfl rfl) rfl (WL.pv (PV.c5 rfl rfl rfl) rfl (WL.nil ?_))
 refine WE.cR rfl (by simp [hk]) ?_
 refine WE.aA (WL.mv rfl rfl (WL.as rfl rfl (WL.nil (WE.ret ⟨[_], _, .nil _, ⟨rfl, trivial⟩, ?_⟩))))
 exact ⟨rfl, H.aL⟩
theorem aAD {X : Nat → Prop} {w : World} {h : Value} {bits : Int} {l : Tr} (hX : c6 X w) (bT : aH X (cV bits l) w) (hn : l.addr.isNone = false) (hk : l.er.kind ≠ 2) :
  bC prog 140 [h, l.ptr, .pointer none].toArray w fun v w' => v = l.ptr ∧ Out Nil w w' := by
 refine bC.aI (N := 44) func140 rfl rfl (by simp) ?_
 have H := (St.begin hX).add (cE bT)
 refine WE.aA (WL.as rfl rfl (WL.nil (WE.seq (WE.aA (WL.mv rfl rfl (WL.pv (PV.jU rfl xY rfl rfl) rfl (WL.mv rfl rfl ?_)))))))
 refine WL.known (t := 10) (c := false) rfl hn (WL.off rfl (WL.off rfl (WL.off rfl (WL.pv (PV.cF rfl rfl rfl) rfl (WL.nil (WE.jF rfl (WE.skip ?_)))))))
 refine WE.seq (WE.aA (WL.mv rfl rfl (WL.pv (PV.jU rfl xY rfl rfl) rfl (WL.mv rfl rfl (WL.known (t := 18) (c := true) rfl rfl (WL.mv rfl rfl ?_))))))
 refine WL.call mE rfl (e8 (T := l) H.aR (H.bJ 0 rfl)) ?_
 rintro _ w1 ⟨rfl, hO⟩
 replace H := H.out hO
 refine WL.pv (PV.neq rfl rfl rfl) rfl (WL.pv (PV.c5 rfl rfl rfl) rfl (WL.nil ?_))
 refine WE.cR rfl (by simp [hk]) ?_
 refine WE.aA (WL.mv rfl rfl (WL.as rfl rfl (WL.nil (WE.ret ⟨[_], _, .nil _, ⟨rfl, trivial⟩, ?_⟩))))
 exact ⟨rfl, H.aL⟩
theorem Tr.I3 {T : Tr} (h : T.addr.isNone = true) : T = .nil := by cases T <;> first | rfl | cases h
theorem Tr.VN {T : Tr} (h : T ≠ .nil) : T.addr.isNone = false := by cases T <;> first | rfl | exact absurd rfl h
theorem YX {s : Sh} (h : s.kind ≠ 2) : kO .nil s = s := by cases s <;> first | rfl | exact absurd rfl h
theorem YW {s : Sh} (h : s.kind ≠ 2) : kO s .nil = s := by cases s <;> first | rfl | exact absurd rfl h
theorem YZ {s t : Sh} (h1 : s = .nil → t.kind = 2) (h2 : t = .nil → s.kind = 2) : kO s t = .inner s t := by
 cases s <;> cases t <;> first | rfl | (have := h1 rfl; simp [Sh.kind] at this; done) | (have := h2 rfl; simp [Sh.kind] at this)
theorem zK {X : Nat → Prop} {w : World} {bh bc : Nat} {bits n : Int} {l r : Tr} (hX : c6 X w) (fA : aN w bc 213 [.int .i64 n]) (bT : aH (fun c => X c ∨ c = bc) (fO bh bc bits) w)
  (dJ : aH (fun c => X c ∨ c = bc) (cV bits l) w) (fQ : aH (fun c => X c ∨ c = bc) (cV bits r) w) (jW : aH (fun c => X c ∨ c = bc) aZ w) (bU : 0 ≤ bits ∧ bits ≤ 256) (TD : l.er.gC + r.er.gC ≤ 1000000000) :
  bC prog 140 [.pointer (some ⟨bh, 0, none⟩), l.ptr, r.ptr].toArray w fun v w' => ∃ (T : Tr) (m : Int), v = T.ptr ∧ T.er = kO l.er r.er ∧ Out (· = bc) w w' ∧ aN w' bc 213 [.int .i64 m] ∧ aH (fun c => X c ∨ c = bc) (cV bits T) w' := by
 have old : ∀ {w' : World}, Out Nil w w' → Out (· = bc) w w' ∧ aN w' bc 213 [.int .i64 n] := fun hO => ⟨hO.mono fun _ _ h => h.elim, fA.of_eq (hO.block _ fA.lt id)⟩
 have bJ : ∀ {w' : World} {T : Tr}, aH (fun c => X c ∨ c = bc) (cV bits T) w → Out Nil w w' → aH (fun c => X c ∨ c = bc) (cV bits T) w' := fun h hO => h.out hO (fun _ _ h => h.elim) fun _ _ h => h
 by_cases h1 : l = .nil ∧ r.er.kind ≠ 2
 ·
  obtain ⟨rfl, hk⟩ := h1
  refine (aAE (X := Nil) (oD _) fQ.nil hk).mono ?_
  rintro v w' ⟨rfl, hO⟩
  exact ⟨r, n, rfl, (YX hk).symm, (old hO).1, (old hO).2, bJ fQ hO⟩
 ·
  by_cases h2 : r = .nil ∧ l.er.kind ≠ 2
  ·
   obtain ⟨rfl, hk⟩ := h2
   have hn : l ≠ .nil := fun e => h1 ⟨e, by simp [Tr.er, Sh.kind]⟩
   refine (aAD (X := Nil) (oD _) dJ.nil (Tr.VN hn) hk).mono ?_
   rintro v w' ⟨rfl, hO⟩
   exact ⟨l, n, rfl, (YW hk).symm, (old hO).1, (old hO).2, bJ dJ hO⟩
  ·
   have e1 : l = .nil → r.er.kind = 2 := fun e => Decidable.byContradiction fun h => h1 ⟨e, h⟩
   have e2 : r = .nil → l.er.kind = 2 := fun e => Decidable.byContradiction fun h => h2 ⟨e, h⟩
   refine (aAF hX fA bT dJ fQ jW bU (fun h => e1 (Tr.I3 h)) (fun h => e2 (Tr.I3 h)) TD).mono ?_
   rintro v w' ⟨T, m, rfl, hT, h⟩
   refine ⟨T, m, rfl, ?_, h⟩
   rw [hT, YZ]
   ·
    intro e; cases l <;> first | exact e1 rfl | cases e
   ·
    intro e; cases r <;> first | exact e2 rfl | cases e
end Go.Sp.Tryz
