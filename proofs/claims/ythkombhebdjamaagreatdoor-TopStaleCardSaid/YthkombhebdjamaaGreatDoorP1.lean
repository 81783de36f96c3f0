/- Part of the proof of this claim: walks through the program's functions and the plain laws that they need, printed by a program of this session. -/
import Derived.Test.YthkombhebdjamaaGreatDoorTy
import Derived.Test.YthkombhebdjamaaGreatDoorWords
import Derived.Test.YthkombhebdjamaaGreatDoorBytes
import Derived.Test.YthkombhebdjamaaGreatDoorMore
set_option maxRecDepth 100000
set_option maxHeartbeats 1000000
set_option linter.unusedVariables false
set_option linter.unusedSimpArgs false
namespace Go.Sp.Tryz
open Go.Proofs Go.RowKit Go.Sp Go.Sp.TryzT Go.Proofs.Tryz
variable {X : Nat → Prop} {w : World}
def nZ (x : UInt32) (n : Nat) : UInt32 := (x >>> UInt32.ofNat n) ||| (x <<< UInt32.ofNat (32 - n))
def j7 (x : UInt32) (l : List Nat) : UInt32 := l.foldl (fun s n => s ^^^ nZ x n) 0
theorem DC (x : UInt32) (l : List Nat) (k : Nat) (h : k < l.length) : j7 x (l.take (k + 1)) = j7 x (l.take k) ^^^ nZ x l[k] := by
 unfold j7
 rw [List.take_succ_eq_append_getElem h, List.foldl_append]; rfl
theorem aGj : ∀ n : Fin 32, 0 < n.val → IntKind.u64.wrap ((BitVec.ofInt IntKind.u64.bits (IntKind.u64.wrap (-(n.val : Int))) &&& BitVec.ofInt IntKind.u64.bits 31).toNat) = ((32 - n.val : Nat) : Int) := by decide +kernel
def CP (v : Value) (l : List Nat) (w : World) : Prop := jW v (l.map fun (n : Nat) => Value.int .i64 (n : Int)) w
theorem CP.rd {v : Value} {l : List Nat} {w : World} (h : CP v l w) (i : Nat) (hi : i < l.length) : cX w (jF v (i * 1)) [.int .i64 (l[i] : Int)] := by
 have := jW.rd h i (by simpa using hi)
 simpa using this
theorem CP.sl {v : Value} {l : List Nat} {w : World} (h : CP v l w) : cR w v 1 l.length (l.map fun (n : Nat) => Value.int .i64 (n : Int)) := by
 have : cR w v 1 (l.map fun (n : Nat) => Value.int .i64 (n : Int)).length (l.map fun (n : Nat) => Value.int .i64 (n : Int)) := h
 simpa using this
def nL (n : Int) : Int := if n < 0 ∨ 1152921504606846976 < n then 0 else (n + 72) / 64
theorem aGV {X : Nat → Prop} {w : World} {x : UInt32} {n : Nat} (hX : cU X w) (hn0 : 0 < n) (hn : n < 32) :
  bF prog 158 [.int .u32 (x.toNat : Int), .int .u64 (n : Int)].toArray w fun v w' => v = .int .u32 ((nZ x n).toNat : Int) ∧ Out Nil w w' := by
 refine bF.aI (N := 13) func158 rfl rfl (by simp) ?_
 have H := St.begin hX
 refine WE.aA (WL.as rfl rfl (WL.nil (WE.aA (WL.mv rfl rfl (WL.mv rfl rfl (WL.pv (PV.C6 (n := n) rfl rfl rfl (by omega)) rfl (WL.mv rfl rfl ?_)))))))
 refine WL.mv rfl rfl ?_
 refine WL.pv (PV.eq (v' := .int .u64 ((32 - n : Nat) : Int)) (PV.aAL rfl rfl rfl) (by rw [nR]; congr 1; omega)) rfl ?_
 refine WL.pv (PV.OD (n := 32 - n) rfl rfl rfl (by omega)) rfl (WL.pv (PV.PC rfl rfl rfl) rfl (WL.as rfl rfl (WL.nil (WE.ret ⟨[_], _, .nil _, ⟨rfl, trivial⟩, ?_⟩))))
 exact ⟨rfl, H.aL⟩
theorem xY {X : Nat → Prop} {w : World} {x : UInt32} {n : Nat} (hX : cU X w) (hn0 : 0 < n) (hn : n < 32) :
  bF prog 205 [.int .u32 (x.toNat : Int), .int .i64 (-(n : Int))].toArray w fun v w' => v = .int .u32 ((nZ x n).toNat : Int) ∧ Out Nil w w' := by
 refine bF.aI (N := 17) func205 rfl rfl (by simp) ?_
 have H := St.begin hX
 refine WE.aA (WL.as rfl rfl (WL.nil (WE.aA (WL.mv rfl rfl (WL.pv (PV.conv rfl yD DY rfl) rfl ?_)))))
 refine WL.pv (PV.eq (v' := .int .u64 ((32 - n : Nat) : Int)) (PV.HP rfl rfl rfl) (congrArg (Value.int .u64) (aGj ⟨n, hn⟩ hn0))) rfl ?_
 refine WL.as rfl rfl (WL.nil (WE.aA (WL.mv rfl rfl (WL.mv rfl rfl (WL.pv (PV.OD (n := 32 - n) rfl rfl rfl (by omega)) rfl (WL.mv rfl rfl (WL.mv rfl rfl ?_)))))))
 refine WL.pv (PV.eq (v' := .int .u64 ((n : Nat) : Int)) (PV.aAL rfl rfl rfl) (by rw [nR]; congr 1; omega)) rfl ?_
 refine WL.pv (PV.C6 (n := n) rfl rfl rfl (by omega)) rfl (WL.pv (PV.PC rfl rfl rfl) rfl (WL.as rfl rfl (WL.nil (WE.ret ⟨[_], _, .nil _, ⟨rfl, trivial⟩, ?_⟩))))
 refine ⟨?_, H.aL⟩
 show Value.int .u32 _ = _
 rw [UInt32.or_comm]; rfl
theorem l9 {X : Nat → Prop} {w : World} {x : UInt32} {s : Value} {l : List Nat} (hX : cU X w) (bT : aH X (CP s l) w) (hl : ∀ n ∈ l, 0 < n ∧ n < 32) (NH : l.length ≤ 1000) :
  bF prog 192 [.int .u32 (x.toNat : Int), s].toArray w fun v w' => v = .int .u32 ((j7 x l).toNat : Int) ∧ Out Nil w w' := by
 refine bF.aI (N := 22) func192 rfl rfl (by simp) ?_
 have H := (St.begin hX).add (cE bT)
 refine WE.aA (WL.as rfl rfl (WL.nil (WE.aA (WL.as rfl rfl (WL.nil (WE.seq (WE.aA ?_)))))))
 refine WL.mv rfl rfl (WL.pv (PV.dO (CP.sl (H.p 0 rfl)) C4 rfl) rfl (WL.mv rfl rfl (WL.nil (WE.block ?_))))
 refine WE.loop (α := Nat) (rg [(5, 1), (7, 1), (10, 11)]) (fun k => [(10, .int .i64 k), (5, .int .u32 ((j7 x (l.take k)).toNat : Int))]) (fun k wl => k ≤ l.length ∧ St X w wl [] [] [CP s l]) (fun k => l.length - k) 0 ⟨rfl, rfl, trivial⟩ ⟨Nat.zero_le _, H⟩ ?_
 intro k γ0 w1 hI
 try dsimp only at hI
 obtain ⟨hk, H⟩ := hI
 refine WE.aA (WL.pv (PV.lss rfl rfl rfl) rfl (WL.nil (WE.seq ?_)))
 refine WE.cond rfl (fun kD => ?_) (fun kD => ?_)
 ·
  try simp only [bU] at kD
  have hlt : k < l.length := by omega
  have hR := DC x l k hlt
  refine WE.skip (WE.seq (WE.block (WE.aA (WL.pv (PV.eO rfl (CP.sl (H.p 0 rfl)) C4 sz3 rfl rfl (by omega) (by omega)) rfl (WL.aY rfl oZ rfl rfl (CP.rd (H.p 0 rfl) k hlt) (WL.as rfl rfl (WL.nil ?_)))))))
  refine WE.eH (WL.mv rfl rfl (WL.mv rfl rfl (WL.mv rfl rfl ?_)))
  refine WL.pv (PV.eq (v' := .int .i64 (-(l[k] : Int))) (PV.aG9 rfl rfl) (by have := hl _ (List.getElem_mem hlt); rw [wrap64_in (by omega) (by omega)]; congr 1; omega)) rfl ?_
  refine WL.call aE6 rfl (xY (x := x) (n := l[k]) H.aS (hl _ (List.getElem_mem hlt)).1 (hl _ (List.getElem_mem hlt)).2) ?_
  rintro _ w2 ⟨rfl, hO⟩
  replace H := H.out hO
  refine WL.pv (PV.rN rfl rfl rfl) rfl (WL.as rfl rfl (WL.nil (WE.eH (WL.pv (PV.bY rfl rfl rfl (by omega) (by omega)) rfl (WL.mv rfl rfl (WL.nil ?_))))))
  exact ⟨k + 1, (by repeat (first | with_reducible exact bQ.refl _ _ | refine bQ.dG rfl ?_ | refine bQ.cC rfl ?_ | refine bQ.cB rfl ?_)), ⟨rfl, by rw [hR]; rfl, trivial⟩, rfl, ⟨by omega, H⟩, (by omega)⟩
 ·
  try simp only [bU] at kD
  have hge : k = l.length := by omega
  refine WE.exit (WE.aA (WL.mv rfl rfl (WL.as rfl rfl (WL.nil (WE.ret ⟨[_], _, .nil _, ⟨rfl, trivial⟩, ?_⟩)))))
  refine ⟨?_, H.aL⟩
  subst hge
  show Value.int .u32 _ = _
  rw [List.take_length]
theorem TR {X : Nat → Prop} {w : World} {n : Int} (hX : cU X w) (hn : -9223372036854775808 ≤ n ∧ n ≤ 9223372036854775807) :
  bF prog 194 [.int .i64 n].toArray w fun v w' => v = .int .i64 (nL n) ∧ Out Nil w w' := by
 refine bF.aI (N := 13) func194 rfl rfl (by simp) ?_
 have H := St.begin hX
 refine WE.aA (WL.as rfl rfl (WL.nil (WE.seq (WE.aA (WL.mv rfl rfl (WL.pv (PV.lss rfl rfl rfl) rfl (WL.mv rfl rfl ?_)))))))
 refine WL.split (t := 5) rfl (fun QI => ?_) (fun QI => ?_)
 ·
  refine WL.known (t := 4) (c := true) rfl QI ?_
  try simp only [bU] at QI
  refine WL.off rfl (WL.off rfl (WL.pv (PV.dB rfl rfl rfl) rfl (WL.nil (WE.kG rfl (WE.aA (WL.as rfl rfl (WL.nil ?_)))))))
  refine WE.ret ⟨[_], _, .nil _, ⟨rfl, trivial⟩, ?_⟩
  refine ⟨?_, H.aL⟩
  rw [nL, if_pos (by omega)]; rfl
 ·
  refine WL.known (t := 4) (c := false) rfl QI ?_
  try simp only [bU] at QI
  refine WL.mv rfl rfl (WL.pv (PV.gtr rfl rfl rfl) rfl (WL.pv (PV.cZ rfl rfl rfl) rfl (WL.nil ?_)))
  refine WE.cond rfl (fun mP => ?_) (fun mP => ?_)
  ·
   try simp only [bU] at mP
   refine WE.aA (WL.as rfl rfl (WL.nil (WE.ret ⟨[_], _, .nil _, ⟨rfl, trivial⟩, ?_⟩)))
   refine ⟨?_, H.aL⟩
   rw [nL, if_pos (by omega)]; rfl
  ·
   try simp only [bU] at mP
   refine WE.skip (WE.aA (WL.mv rfl rfl (WL.pv (PV.bY rfl rfl rfl (by omega) (by omega)) rfl (WL.pv (PV.bY rfl rfl rfl (by omega) (by omega)) rfl (WL.pv (PV.zD rfl rfl rfl (by omega) (by omega) (by omega)) rfl (WL.as rfl rfl (WL.nil ?_)))))))
   refine WE.ret ⟨[_], _, .nil _, ⟨rfl, trivial⟩, ?_⟩
   refine ⟨?_, H.aL⟩
   rw [nL, if_neg (by omega)]
   show Value.int .i64 _ = _
   congr 1; omega
theorem US {X : Nat → Prop} {w : World}  (hX : cU X w) :
  bF prog 159 [].toArray w fun v w' => v = .agg (kw [1779033703, 3144134277, 1013904242, 2773480762, 1359893119, 2600822924, 528734635, 1541459225]).toArray ∧ Out Nil w w' := by
 refine bF.aI (N := 2) func159 rfl rfl (by decide +revert) ?_
 have H := St.begin hX
 refine WE.aA ?_
 refine WL.alloc H rfl NN rfl ?_
 intro b0 w1 H
 refine WL.nil (WE.aA ?_)
 refine WL.pv (PV.mM rfl oT fS NN (Fl.cons rfl rfl rfl (Laid.iV (x := 1779033703) 0 (by simp)) (Fl.cons rfl rfl rfl (Laid.iV (x := 3144134277) 1 (by simp)) (Fl.cons rfl rfl rfl (Laid.iV (x := 1013904242) 2 (by simp)) (Fl.cons rfl rfl rfl (Laid.iV (x := 2773480762) 3 (by simp)) (Fl.cons rfl rfl rfl (Laid.iV (x := 1359893119) 4 (by simp)) (Fl.cons rfl rfl rfl (Laid.iV (x := 2600822924) 5 (by simp)) (Fl.cons rfl rfl rfl (Laid.iV (x := 528734635) 6 (by simp)) (Fl.cons rfl rfl rfl (Laid.iV (x := 1541459225) 7 (by simp)) Fl.nil))))))))) rfl ?_
 refine WL.aT H 0 rfl rfl rfl (new := _) rfl (by exact N7) (PX _) (Laid.at (Laid.all (by simp [aO, bA, *])) rfl) rfl ?_
 intro w2 H
 refine WL.nil (WE.ret ⟨[_], _, .nil _, ⟨⟨_, rfl, aW aGn (aM.aF (H.l 0 rfl) (aJ.all _) rfl) (by exact N7)⟩, trivial⟩, ?_⟩)
 exact ⟨rfl, H.aL⟩
theorem aCK {x y : UInt8} : ((x.toNat : Int) = (y.toNat : Int)) ↔ x = y := ⟨fun h => UInt8.toNat_inj.1 (by omega), fun h => by rw [h]⟩
theorem S8 {X : Nat → Prop} {w : World} {a b : Value} {la lb : List UInt8} (hX : cU X w) (bT : aH X (bI a la) w) (dA : aH X (bI b lb) w) (wV : la.length ≤ 9223372036854775807) :
  bF prog 46 [a, b].toArray w fun v w' => v = .bool (decide (la = lb)) ∧ Out Nil w w' := by
 refine bF.aI (N := 26) func46 rfl rfl (by simp) ?_
 have H := ((St.begin hX).add (cE dA)).add (cE bT)
 refine WE.aA (WL.as rfl rfl (WL.nil (WE.seq (WE.aA (WL.mv rfl rfl (WL.pv (PV.dO (H.p 0 rfl) eW rfl) rfl (WL.mv rfl rfl ?_)))))))
 refine WL.pv (PV.dO (H.p 1 rfl) eW rfl) rfl (WL.pv (PV.neq rfl rfl rfl) rfl (WL.nil ?_))
 refine WE.cond rfl (fun kW => ?_) (fun kW => ?_)
 ·
  try simp only [bU] at kW
  have hne : la ≠ lb := fun e => kW (by rw [e])
  refine WE.aA (WL.as rfl rfl (WL.nil (WE.ret ⟨[_], _, .nil _, ⟨rfl, trivial⟩, ?_⟩)))
  exact ⟨by simp [A4, hne]; rfl, H.aL⟩
 ·
  try simp only [bU] at kW
  have hlen : la.length = lb.length := by omega
  refine WE.skip (WE.seq (WE.aA (WL.as rfl rfl (WL.nil (WE.block ?_)))))
  refine WE.loop (α := Nat) (rg [(4, 2), (11, 15)]) (fun k => [(5, .int .i64 k)]) (fun k wl => k ≤ la.length ∧ (∀ j (h : j < la.length) (h' : j < lb.length), j < k → la[j] = lb[j]) ∧ St X w wl [] [] [bI a la, bI b lb]) (fun k => la.length - k) 0 ⟨rfl, trivial⟩ ⟨Nat.zero_le _, fun j _ _ h => by omega, H⟩ ?_
  intro k γ0 w1 hI
  try dsimp only at hI
  obtain ⟨hk, hpre, H⟩ := hI
  refine WE.seq (WE.aA (WL.mv rfl rfl (WL.mv rfl rfl (WL.pv (PV.dO (H.p 0 rfl) eW rfl) rfl (WL.pv (PV.lss rfl rfl rfl) rfl (WL.nil ?_))))))
  refine WE.cond rfl (fun q5 => ?_) (fun q5 => ?_)
  ·
   try simp only [bU] at q5
   have hlt : k < la.length := by omega
   refine WE.skip (WE.seq (WE.block ?_))
   refine WE.bG (.take 0 (.take 1 (.take 2 (.take 3 (.take 4 (.take 5 (.take 6 (.take 7 (.take 8 .done))))))))) mixed (by kernel_rfl) ?_
   replace H := H.out (Out.drew _)
   refine WP.mv rfl rfl rfl (WP.mv rfl rfl rfl (WP.aC rfl rfl (PV.eO rfl (H.p 0 rfl) eW gY rfl rfl (by omega) (by omega)) (WP.aQ rfl rfl (RV.aZ rfl CE rfl) (bI.rd (H.p 0 rfl) k hlt) (WP.mv rfl rfl rfl (WP.mv rfl rfl rfl (WP.aC rfl rfl (PV.eO rfl (H.p 1 rfl) eW gY rfl rfl (by omega) (by omega)) (WP.aQ rfl rfl (RV.aZ rfl CE rfl) (bI.rd (H.p 1 rfl) k (by omega)) ?_)))))))
   refine WP.aC rfl rfl (PV.neq rfl rfl rfl) (WP.done ?_)
   refine WE.cond rfl (fun q3 => ?_) (fun q3 => ?_)
   ·
    try simp only [bU] at q3
    have hne : la ≠ lb := fun e => by subst e; exact q3 rfl
    refine WE.aA (WL.as rfl rfl (WL.nil (WE.ret ⟨[_], _, .nil _, ⟨rfl, trivial⟩, ?_⟩)))
    exact ⟨by simp [A4, hne]; rfl, H.aL⟩
   ·
    try simp only [bU] at q3
    have heq : la[k] = lb[k] := aCK.1 q3
    refine WE.skip (WE.eH (WL.mv rfl rfl (WL.pv (PV.bY rfl rfl rfl (by omega) (by omega)) rfl (WL.as rfl rfl (WL.nil ?_)))))
    exact ⟨k + 1, (by repeat (first | with_reducible exact bQ.refl _ _ | refine bQ.dG rfl ?_ | refine bQ.cC rfl ?_ | refine bQ.cB rfl ?_)), ⟨rfl, trivial⟩, rfl, ⟨by omega, fun j h h' hj => by (by_cases e : j = k; (subst e; exact heq); exact hpre j h h' (by omega)), H⟩, (by omega)⟩
  ·
   try simp only [bU] at q5
   have hge : ¬ k < la.length := by omega
   refine WE.exit (WE.aA (WL.as rfl rfl (WL.nil (WE.ret ⟨[_], _, .nil _, ⟨rfl, trivial⟩, ?_⟩))))
   have e : la = lb := List.ext_getElem hlen fun i h h' => hpre i h h' (by omega)
   exact ⟨by simp [A4, e]; rfl, H.aL⟩
theorem TK {X : Nat → Prop} {w : World} {n : Nat} (hX : cU X w) (hn : n ≤ 70368744177664) :
  bF prog 78 [.slice none 0 0, .int .i64 n].toArray w fun v w' => Out Nil w w' ∧ w'.ownsRow w.heap.size 5 1 v 0 [] := by
 refine bF.aI (N := 27) func78 rfl rfl (by simp) ?_
 have H := St.begin hX
 refine WE.aA (WL.as rfl rfl (WL.nil (WE.seq (WE.aA (WL.mv rfl rfl (WL.pv (PV.lss rfl rfl rfl) rfl (WL.nil ?_)))))))
 refine WE.bB rfl (by simp) ?_
 refine WE.skip (WE.seq (WE.aA (WL.mv rfl rfl (WL.mv rfl rfl (WL.pv (PV.J8 eW rfl) rfl (WL.mv rfl rfl (WL.pv (PV.zO eW rfl) rfl ?_)))))))
 refine WL.pv (PV.iS rfl rfl rfl (by omega) (by omega)) rfl (WL.pv (PV.iS rfl rfl rfl (by omega) (by omega)) rfl (WL.as rfl rfl (WL.nil (WE.aA (WL.mv rfl rfl (WL.pv (PV.gtr rfl rfl rfl) rfl (WL.nil ?_)))))))
 refine WE.cond rfl (fun tN => ?_) (fun tN => ?_)
 ·
  try simp only [bU] at tN
  have hpos : 0 < n := by omega
  refine WE.eH (WL.mv rfl rfl (WL.mv rfl rfl (WL.pv (PV.J8 eW rfl) rfl (WL.pv (PV.UL rfl (cR.nil w 1) eW gY rfl rfl (by omega) (by omega)) rfl (WL.mv rfl rfl ?_)))))
  refine WL.E7 (n := n) H j0 yD (by decide) rfl (by simp [ev]; rfl) hpos (by omega) (by decide) rfl ?_
  intro g cap cs w2 H
  refine WL.mv rfl rfl (WL.pv (PV.zO eW rfl) rfl ?_)
  refine WL.aG8 H 0 rfl eW rfl rfl rfl rfl rfl ?_
  intro H
  refine WL.as rfl rfl (WL.nil (WE.aA (WL.mv rfl rfl (WL.as rfl rfl (WL.nil (WE.ret ⟨[_], _, .nil _, ⟨rfl, trivial⟩, ?_⟩))))))
  exact ⟨H.aL, H.l 0 rfl⟩
 ·
  try simp only [bU] at tN
  have hz : n = 0 := by omega
  refine WE.skip (WE.aA (WL.mv rfl rfl (WL.as rfl rfl (WL.nil (WE.ret ⟨[_], _, .nil _, ⟨rfl, trivial⟩, ?_⟩)))))
  exact ⟨H.aL, World.ownsRow_nil _ _ _ _⟩
theorem gD (ls : List (List UInt8)) (k : Nat) (h : k < ls.length) : (ls.take (k + 1)).flatten = (ls.take k).flatten ++ ls[k] := by
 rw [List.take_succ_eq_append_getElem h, List.flatten_append]; simp
theorem fX (ls : List (List UInt8)) (k : Nat) : (ls.take k).flatten.length ≤ ls.flatten.length := by
 have h : ls.flatten = (ls.take k).flatten ++ (ls.drop k).flatten := by rw [← List.flatten_append, List.take_append_drop]
 rw [h, List.length_append]; omega
theorem TQ {X : Nat → Prop} {w : World} {s : Value} {vs : List Value} {ls : List (List UInt8)} (hX : cU X w) (bT : aH X (jW s vs) w) (dA : aH X (pP vs ls) w) (hvs : vs.length ≤ 1000000) (aDB : ls.flatten.length ≤ 70368744177664) :
  bF prog 37 [s].toArray w fun v w' => Out Nil w w' ∧ aH X (bI v ls.flatten) w' := by
 refine bF.aI (N := 36) func37 rfl rfl (by simp) ?_
 have H := ((St.begin hX).add (cE dA)).add (cE bT)
 have hlen : vs.length = ls.length := (H.p 1 rfl : pP vs ls w).1
 refine WE.aA (WL.as rfl rfl (WL.nil (WE.aA (WL.as rfl rfl (WL.nil (WE.seq (WE.aA ?_)))))))
 refine WL.mv rfl rfl (WL.pv (PV.dO (H.p 0 rfl) rS rfl) rfl (WL.mv rfl rfl (WL.nil (WE.block ?_))))
 refine WE.loop (α := Nat) (rg [(3, 1), (5, 1), (11, 12)]) (fun k => [(11, .int .i64 k), (3, .int .i64 ((ls.take k).flatten.length : Int))]) (fun k wl => k ≤ vs.length ∧ St X w wl [] [] [jW s vs, pP vs ls]) (fun k => vs.length - k) 0 ⟨rfl, rfl, trivial⟩ ⟨Nat.zero_le _, H⟩ ?_
 intro k γ0 w1 hI
 try dsimp only at hI
 obtain ⟨hk, H⟩ := hI
 refine WE.aA (WL.pv (PV.lss rfl rfl rfl) rfl (WL.nil (WE.seq ?_)))
 refine WE.cond rfl (fun k3 => ?_) (fun k3 => ?_)
 ·
  try simp only [bU] at k3
  have hlt : k < vs.length := by omega
  have hF := gD ls k (by omega)
  have hG := fX ls (k + 1)
  rw [hF, List.length_append] at hG
  refine WE.skip (WE.seq (WE.block (WE.aA (WL.pv (PV.eO rfl (H.p 0 rfl) rS AW rfl rfl (by omega) (by omega)) rfl (WL.aY rfl eN rfl rfl (jW.rd (H.p 0 rfl) k hlt) (WL.as rfl rfl (WL.nil ?_)))))))
  refine WE.aA (WL.mv rfl rfl (WL.mv rfl rfl (WL.pv (PV.dO ((H.p 1 rfl : pP vs ls _).2 k hlt (by omega)) eW rfl) rfl (WL.pv (PV.bY rfl rfl rfl (by omega) (by omega)) rfl (WL.as rfl rfl (WL.nil (WE.aA ?_)))))))
  refine WL.mv rfl rfl (WL.pv (PV.lss rfl rfl rfl) rfl (WL.nil ?_))
  refine WE.bB rfl (by simp; omega) ?_
  refine WE.skip (WE.eH (WL.pv (PV.bY rfl rfl rfl (by omega) (by omega)) rfl (WL.mv rfl rfl (WL.nil ?_))))
  exact ⟨k + 1, (by repeat (first | with_reducible exact bQ.refl _ _ | refine bQ.dG rfl ?_ | refine bQ.cC rfl ?_ | refine bQ.cB rfl ?_)), ⟨rfl, by rw [hF, List.length_append]; rfl, trivial⟩, rfl, ⟨by omega, H⟩, (by omega)⟩
 ·
  try simp only [bU] at k3
  have hge : k = vs.length := by omega
  refine WE.exit (WE.aA (WL.mv rfl rfl ?_))
  refine WL.call aEH rfl (TK (n := (ls.take k).flatten.length) H.aS (by have := fX ls k; omega)) ?_
  rintro v24 w2 ⟨hO, gP⟩
  replace H := H.push hO (aN.iA w.heap.size v24 5 1 0 []) (gC gP H.size) (fun b hb => (gP.lt b hb).1)
  refine WL.as rfl rfl (WL.nil (WE.seq (WE.aA (WL.mv rfl rfl (WL.pv (PV.dO (H.p 0 rfl) rS rfl) rfl (WL.mv rfl rfl (WL.nil ?_)))))))
  refine WE.block ?_
  refine WE.loop (α := Nat × Value) (rg [(6, 1), (8, 1), (27, 8)]) (fun p => [(27, .int .i64 p.1), (6, p.2)]) (fun p wl => p.1 ≤ vs.length ∧ St X w wl [] [aN.iA w.heap.size p.2 5 1 (ls.take p.1).flatten.length (kc (ls.take p.1).flatten)] [jW s vs, pP vs ls]) (fun p => vs.length - p.1) (0, v24) ⟨rfl, rfl, trivial⟩ ⟨Nat.zero_le _, H⟩ ?_
  intro ⟨k, v⟩ γ1 w3 hI
  try dsimp only at hI
  obtain ⟨hk, H⟩ := hI
  refine WE.aA (WL.pv (PV.lss rfl rfl rfl) rfl (WL.nil (WE.seq ?_)))
  refine WE.cond rfl (fun GY => ?_) (fun GY => ?_)
  ·
   try simp only [bU] at GY
   have hlt : k < vs.length := by omega
   have hF := gD ls k (by omega)
   have hG := fX ls (k + 1)
   rw [hF, List.length_append] at hG
   refine WE.skip (WE.seq (WE.block (WE.aA (WL.pv (PV.eO rfl (H.p 0 rfl) rS AW rfl rfl (by omega) (by omega)) rfl (WL.aY rfl eN rfl rfl (jW.rd (H.p 0 rfl) k hlt) (WL.as rfl rfl (WL.nil ?_)))))))
   refine WE.eH (WL.mv rfl rfl (WL.mv rfl rfl ?_))
   refine WL.append (m := (ls[k]'(by omega)).length) H 0 j0 (by decide) rfl rfl rfl ((H.p 1 rfl : pP vs ls _).2 k hlt (by omega)) (bJ _) (by omega) (by decide) rfl ?_
   intro v33 w4 H
   refine WL.as rfl rfl (WL.nil (WE.eH (WL.pv (PV.bY rfl rfl rfl (by omega) (by omega)) rfl (WL.mv rfl rfl (WL.nil ?_)))))
   replace H : St X w w4 [] [aN.iA w.heap.size v33 5 1 (ls.take (k+1)).flatten.length (kc (ls.take (k+1)).flatten)] [jW s vs, pP vs ls] := by rw [hF, List.length_append, j8]; exact H
   exact ⟨(k + 1, v33), (by repeat (first | with_reducible exact bQ.refl _ _ | refine bQ.dG rfl ?_ | refine bQ.cC rfl ?_ | refine bQ.cB rfl ?_)), ⟨rfl, rfl, trivial⟩, rfl, ⟨by dsimp only; omega, H⟩, (by dsimp only; omega)⟩
  ·
   try simp only [bU] at GY
   have hge : k = vs.length := by omega
   refine WE.exit (WE.aA (WL.mv rfl rfl (WL.as rfl rfl (WL.nil (WE.ret ⟨[_], _, .nil _, ⟨rfl, trivial⟩, ?_⟩)))))
   replace H := H.freeze (i := 0) rfl
   have hall : ls.take k = ls := List.take_of_length_le (by omega)
   exact ⟨H.aL, H.gQ ((H.bK 0 rfl).imp fun _ h => by have := bI.eM h; rwa [hall] at this)⟩
def zc (n : Nat) : Nat := (119 - n % 64) % 64
def T6 (N : Nat) : List UInt8 := (List.range 8).map fun i => UInt8.ofNat (N / 2 ^ (56 - 8 * i))
def gG (l : List UInt8) : List UInt8 := l ++ 128 :: (List.replicate (zc l.length) 0 ++ T6 (8 * l.length))
theorem oM (N : Nat) : (T6 N).length = 8 := by simp [T6]
theorem XM (N i : Nat) (h : i < (T6 N).length) : (T6 N)[i] = UInt8.ofNat (N / 2 ^ (56 - 8 * i)) := by simp [T6]
theorem oA (l : List UInt8) : (gG l).length = l.length + 9 + zc l.length := by
 simp [gG, oM]; omega
def k8 : List UInt32 := [1116352408, 1899447441, 3049323471, 3921009573, 961987163, 1508970993, 2453635748, 2870763221, 3624381080, 310598401, 607225278, 1426881987, 1925078388, 2162078206, 2614888103, 3248222580, 3835390401, 4022224774, 264347078, 604807628, 770255983, 1249150122, 1555081692, 1996064986, 2554220882, 2821834349, 2952996808, 3210313671, 3336571891, 3584528711, 113926993, 338241895, 666307205, 773529912, 1294757372, 1396182291, 1695183700, 1986661051, 2177026350, 2456956037, 2730485921, 2820302411, 3259730800, 3345764771, 3516065817, 3600352804, 4094571909, 275423344, 430227734, 506948616, 659060556, 883997877, 958139571, 1322822218, 1537002063, 1747873779, 1955562222, 2024104815, 2227730452, 2361852424, 2428436474, 2756734187, 3204031479, 3329325298]
def sg0 (x : UInt32) : UInt32 := (nZ x 7 ^^^ nZ x 18) ^^^ (x >>> UInt32.ofNat 3)
def sg1 (x : UInt32) : UInt32 := (nZ x 17 ^^^ nZ x 19) ^^^ (x >>> UInt32.ofNat 10)
def word (b : List UInt8) (i : Nat) : UInt32 := (((b.getD (4 * i) 0).toUInt32 <<< UInt32.ofNat 24 ||| (b.getD (4 * i + 1) 0).toUInt32 <<< UInt32.ofNat 16) ||| (b.getD (4 * i + 2) 0).toUInt32 <<< UInt32.ofNat 8) ||| (b.getD (4 * i + 3) 0).toUInt32
def ext (w : List UInt32) : List UInt32 := w ++ [((w.getD (w.length - 16) 0 + sg0 (w.getD (w.length - 15) 0)) + w.getD (w.length - 7) 0) + sg1 (w.getD (w.length - 2) 0)]
def sched (b : List UInt8) : Nat → List UInt32
 | 0 => (List.range 16).map (word b)
 | k + 1 => ext (sched b k)
theorem cS (b : List UInt8) (k : Nat) : (sched b k).length = 16 + k := by
 induction k with
 | zero => simp [sched]
 | succ k ih => simp [sched, ext, ih]; omega
theorem jT {α : Type} {l : List α} {d : α} {i : Nat} (h : i < l.length) : l.getD i d = l[i] := by simp [h]
theorem aG7 {n : Nat} (h : n ≤ 1152921504606846976) : 64 * nL (n : Int) = ((n + 9 + zc n : Nat) : Int) := by
 unfold nL zc
 rw [if_neg (by omega)]
 omega
def wL (l : List UInt8) (i : Nat) : List UInt8 := (l ++ 128 :: List.replicate (zc l.length + (8 - i)) 0) ++ (T6 (8 * l.length)).drop (8 - i)
theorem LJ (l : List UInt8) : wL l 0 = l ++ 128 :: List.replicate (zc l.length + 8) 0 := by
 unfold wL
 rw [List.drop_eq_nil_of_le (by rw [oM]; omega), List.append_nil]
theorem GC (l : List UInt8) : wL l 8 = gG l := by simp [wL, gG]
theorem DM (l : List UInt8) (i : Nat) (hi : i ≤ 8) : (wL l i).length = l.length + 9 + zc l.length := by
 simp [wL, oM]; omega
theorem O9 (l : List UInt8) (i : Nat) (hi : i < 8) : (wL l i).set (l.length + 8 + zc l.length - i) (UInt8.ofNat (8 * l.length / 2 ^ (8 * i))) = wL l (i + 1) := by
 have hb := oM (8 * l.length)
 have h7 : 7 - i < (T6 (8 * l.length)).length := by omega
 have hd : (T6 (8 * l.length)).drop (8 - (i + 1)) = UInt8.ofNat (8 * l.length / 2 ^ (8 * i)) :: (T6 (8 * l.length)).drop (8 - i) := by
  rw [show 8 - (i + 1) = 7 - i by omega, List.drop_eq_getElem_cons h7, XM, show 7 - i + 1 = 8 - i by omega, show 56 - 8 * (7 - i) = 8 * i by omega]
 unfold wL
 rw [hd]
 have hr : l ++ 128 :: List.replicate (zc l.length + (8 - i)) 0 = (l ++ 128 :: List.replicate (zc l.length + (8 - (i + 1))) 0) ++ [0] := by
  rw [show zc l.length + (8 - i) = (zc l.length + (8 - (i + 1))) + 1 by omega, List.replicate_succ', ← List.cons_append, ← List.append_assoc]
 have hlen : (l ++ 128 :: List.replicate (zc l.length + (8 - (i + 1))) (0 : UInt8)).length = l.length + 8 + zc l.length - i := by simp; omega
 rw [hr, List.append_assoc, ← hlen, List.set_append_right _ _ (Nat.le_refl _), Nat.sub_self]
 rfl
theorem G8 (l : List UInt8) (m : Nat) : Laid (kc (List.replicate (l.length + m) 0)) 0 ((kc l).take (min l.length (l.length + m))) (kc (l ++ List.replicate m 0)) := by
 have e : (kc l).take (min l.length (l.length + m)) = kc l := by rw [show min l.length (l.length + m) = l.length by omega]; exact List.take_of_length_le (by rw [aO]; omega)
 rw [e, ← List.replicate_append_replicate]
 have : Laid (kc (List.replicate l.length 0)) 0 (kc l) (kc l) := Laid.all (by simp [aO])
 have h2 := Laid.left (b := kc (List.replicate m 0)) this
 rwa [← j8, ← j8] at h2
theorem LB (l : List UInt8) (m : Nat) : (l ++ List.replicate (m + 1) (0 : UInt8)).set l.length 128 = l ++ 128 :: List.replicate m 0 := by
 rw [List.set_append_right _ _ (Nat.le_refl _), Nat.sub_self]; rfl
theorem aCd {X : Nat → Prop} {w : World} {a : Value} {la : List UInt8} (hX : cU X w) (bT : aH X (bI a la) w) (wV : la.length ≤ 1000000000) :
  bF prog 162 [a].toArray w fun v w' => Out Nil w w' ∧ ∃ b, v = .slice (some ⟨b, 0, none⟩) (gG la).length (gG la).length ∧ w.heap.size ≤ b ∧ aM w' b 5 (kc (gG la)) := by
 refine bF.aI (N := 39) func162 rfl rfl (by simp) ?_
 have H := (St.begin hX).add (cE bT)
 have aHg : zc la.length < 64 := by unfold zc; omega
 have hT := aG7 (n := la.length) (by omega)
 refine WE.aA (WL.as rfl rfl (WL.nil (WE.aA (WL.mv rfl rfl (WL.pv (PV.dO (H.p 0 rfl) eW rfl) rfl ?_)))))
 refine WL.call aE9 rfl (TR (n := (la.length : Int)) H.aS (by omega)) ?_
 rintro _ w1 ⟨rfl, hO⟩
 replace H := H.out hO
 refine WL.pv (PV.eq (v' := .int .i64 (((la.length + 9 + zc la.length) : Nat) : Int)) (PV.sA rfl rfl rfl (by omega) (by omega)) (by congr 1)) rfl ?_
 refine WL.makeSlice (n := (la.length + 9 + zc la.length)) H rfl j0 rfl (by omega) (by omega) rfl ?_
 intro sW w3 H
 replace H := H.conv (L' := [aN.blk sW 5 (kc (List.replicate (la.length + (8 + zc la.length + 1)) 0))]) (by rw [dH, show la.length + (8 + zc la.length + 1) = (la.length + 9 + zc la.length) by omega]; simp [kc])
 refine WL.as rfl rfl (WL.nil (WE.aA (WL.mv rfl rfl (WL.mv rfl rfl ?_))))
 refine WL.copy H 0 eW gY rfl rfl rfl (H.p 0 rfl) (bJ _) (by have := G8 la (8 + zc la.length + 1); rw [show la.length + (8 + zc la.length + 1) = (la.length + 9 + zc la.length) by omega] at this ⊢; exact this) rfl ?_
 intro w5 H
 refine WL.nil (WE.aA (WL.mv rfl rfl (WL.mv rfl rfl (WL.pv (PV.dO (H.p 0 rfl) eW rfl) rfl (WL.pv (PV.vA rfl eW gY rfl rfl (by omega) (by omega)) rfl ?_)))))
 refine WL.aT H 0 rfl rfl rfl (new := _) rfl (by exact gY) (bE _ rfl) (Laid.at (Laid.AH (x := 128) la.length (by simp)) (by simp)) rfl ?_
 intro w6 H
 replace H := H.conv (L' := [aN.blk sW 5 (kc (wL la 0))]) (by rw [LJ, LB, Nat.add_comm 8]; rfl)
 refine WL.nil (WE.aA (WL.mv rfl rfl (WL.pv (PV.dO (H.p 0 rfl) eW rfl) rfl (WL.pv (PV.RZ (n := la.length) rfl yD ZA rfl rfl (by omega)) rfl (WL.pv (PV.LM (m := la.length) (n := 8) (q := 8 * la.length) rfl rfl rfl (by omega) (by omega)) rfl (WL.as rfl rfl (WL.nil ?_)))))))
 refine WE.seq (WE.aA (WL.mv rfl rfl (WL.nil (WE.block ?_))))
 refine WE.loop (α := Nat) (rg [(5, 1), (22, 16)]) (fun i => [(22, .int .i64 i)]) (fun i wl => i ≤ 8 ∧ St X w wl [] [aN.blk sW 5 (kc (wL la i))] [bI a la]) (fun i => 8 - i) 0 ⟨rfl, trivial⟩ ⟨Nat.zero_le _, H⟩ ?_
 intro i γ0 w7 hI
 try dsimp only at hI
 obtain ⟨hi, H⟩ := hI
 refine WE.aA (WL.pv (PV.lss rfl rfl rfl) rfl (WL.nil (WE.seq ?_)))
 refine WE.cond rfl (fun lL => ?_) (fun lL => ?_)
 ·
  try simp only [bU] at lL
  have hi8 : i < 8 := by omega
  refine WE.skip (WE.seq (WE.block (WE.aA (WL.mv rfl rfl (WL.as rfl rfl (WL.nil (WE.eH ?_)))))))
  refine WL.mv rfl rfl (WL.mv rfl rfl (WL.pv (PV.zO eW rfl) rfl ?_))
  refine WL.pv (PV.eq (v' := .int .i64 ((la.length + 8 + zc la.length : Nat) : Int)) (PV.iS rfl rfl rfl (by omega) (by omega)) (by congr 1; omega)) rfl ?_
  refine WL.mv rfl rfl ?_
  refine WL.pv (PV.eq (v' := .int .i64 ((la.length + 8 + zc la.length - i : Nat) : Int)) (PV.iS rfl rfl rfl (by omega) (by omega)) (by congr 1; omega)) rfl ?_
  refine WL.mv rfl rfl (WL.mv rfl rfl ?_)
  refine WL.pv (PV.eq (v' := .int .i64 ((8 * i : Nat) : Int)) (PV.sA rfl rfl rfl (by omega) (by omega)) (by congr 1)) rfl ?_
  refine WL.pv (PV.C5 (m := 8 * la.length) (n := 8 * i) rfl rfl rfl (show _ < 64 by omega)) rfl (WL.pv (PV.XG (n := 8 * la.length / 2 ^ (8 * i)) rfl ZA oW rfl) rfl (WL.pv (PV.vA rfl eW gY rfl rfl (by omega) (by omega)) rfl ?_))
  refine WL.aT H 0 rfl rfl rfl (new := _) rfl (by exact gY) (bE _ rfl) (Laid.at (Laid.AH (la.length + 8 + zc la.length - i) (by rw [DM _ _ (by omega)]; omega)) (by simp)) rfl ?_
  intro w8 H
  refine WL.nil (WE.eH (WL.pv (PV.bY rfl rfl rfl (by omega) (by omega)) rfl (WL.mv rfl rfl (WL.nil ?_))))
  have e := O9 la i hi8
  exact ⟨i + 1, (by repeat (first | with_reducible exact bQ.refl _ _ | refine bQ.dG rfl ?_ | refine bQ.cC rfl ?_ | refine bQ.cB rfl ?_)), ⟨rfl, trivial⟩, rfl, ⟨by omega, H.conv (by rw [← e]; rfl)⟩, (by omega)⟩
 ·
  try simp only [bU] at lL
  obtain rfl : i = 8 := by omega
  refine WE.exit (WE.aA (WL.mv rfl rfl (WL.as rfl rfl (WL.nil (WE.ret ⟨[_], _, .nil _, ⟨rfl, trivial⟩, ?_⟩)))))
  rw [GC] at H
  exact ⟨H.aL, sW, by rw [oA]; rfl, H.jU _ (List.mem_of_getElem? (i := 0) rfl) _ rfl, H.l 0 rfl⟩
theorem aGy {X : Nat → Prop} {w : World} {a : Value} {la : List UInt8} (hX : cU X w) (bT : aH X (bI a la) w) (wV : la.length ≤ 1000000000) :
  bF prog 162 [a].toArray w fun v w' => Out Nil w w' ∧ aH X (bI v (gG la)) w' :=
 (aCd hX bT wV).mono fun v w' ⟨hO, b, hv, hb, h⟩ => ⟨hO, by subst hv; exact (UZ hX hb h).imp fun _ h => bI.bZ h rfl⟩
def h0L : List UInt32 := [1779033703, 3144134277, 1013904242, 2773480762, 1359893119, 2600822924, 528734635, 1541459225]
def t1f (s : List UInt32) (k w : UInt32) : UInt32 := (((s.getD 7 0 + ((nZ (s.getD 4 0) 6 ^^^ nZ (s.getD 4 0) 11) ^^^ nZ (s.getD 4 0) 25)) + ((s.getD 4 0 &&& s.getD 5 0) ^^^ (~~~(s.getD 4 0) &&& s.getD 6 0))) + k) + w
def t2f (s : List UInt32) : UInt32 := ((nZ (s.getD 0 0) 2 ^^^ nZ (s.getD 0 0) 13) ^^^ nZ (s.getD 0 0) 22) + (((s.getD 0 0 &&& s.getD 1 0) ^^^ (s.getD 0 0 &&& s.getD 2 0)) ^^^ (s.getD 1 0 &&& s.getD 2 0))
def stp (s : List UInt32) (k w : UInt32) : List UInt32 := [t1f s k w + t2f s, s.getD 0 0, s.getD 1 0, s.getD 2 0, s.getD 3 0 + t1f s k w, s.getD 4 0, s.getD 5 0, s.getD 6 0]
def j6 (W s : List UInt32) : Nat → List UInt32
 | 0 => s
 | i + 1 => stp (j6 W s i) (k8.getD i 0) (W.getD i 0)
def lT (s t : List UInt32) (i : Nat) : List UInt32 := (List.range 8).map fun j => if j < i then s.getD j 0 + t.getD j 0 else s.getD j 0
def comp (s : List UInt32) (b : List UInt8) : List UInt32 := lT s (j6 (sched b 48) s 64) 8
def qC (p : List UInt8) : Nat → List UInt32
 | 0 => h0L
 | n + 1 => comp (qC p n) ((p.drop (64 * n)).take 64)
def qF (s : List UInt32) : List UInt8 := (List.range 32).map fun i => (s.getD (i / 4) 0 >>> UInt32.ofNat (24 - 8 * (i % 4))).toUInt8
def cN (l : List UInt8) : List UInt8 := qF (qC (gG l) ((gG l).length / 64))
theorem pE (W s : List UInt32) (h : s.length = 8) (i : Nat) : (j6 W s i).length = 8 := by
 cases i with
 | zero => exact h
 | succ i => rfl
theorem gU (s t : List UInt32) (i : Nat) : (lT s t i).length = 8 := by simp [lT]
theorem rU (p : List UInt8) (n : Nat) : (qC p n).length = 8 := by
 cases n with
 | zero => rfl
 | succ n => exact gU _ _ _
theorem iL (l : List UInt8) : (cN l).length = 32 := by simp [cN, qF]
theorem O8 (l : List UInt8) : (gG l).length % 64 = 0 := by rw [oA]; unfold zc; omega
theorem HU (s t : List UInt32) (h : s.length = 8) : lT s t 0 = s := by
 apply List.ext_getElem
 ·
  rw [gU, h]
 ·
  intro i h1 h2
  simp [lT, h2]
theorem M1 (s t : List UInt32) (i : Nat) (h : s.length = 8) (hi : i < (lT s t i).length) (hs : i < s.length) : (lT s t i)[i] = s[i] := by
 simp [lT, hs]
theorem M0 (s t : List UInt32) (i : Nat) (h : s.length = 8) (ht : t.length = 8) (hi : i < 8) : (lT s t i).set i ((lT s t i)[i]'(by rw [gU]; exact hi) + t[i]'(by omega)) = lT s t (i + 1) := by
 rw [M1 s t i h (by rw [gU]; exact hi) (by omega)]
 apply List.ext_getElem
 ·
  simp [lT]
 ·
  intro j h1 h2
  rw [gU] at h2
  rw [List.getElem_set]
  by_cases hij : i = j
  ·
   subst hij
   simp [lT, h, ht, hi]
  ·
   simp only [hij, if_false]
   simp only [lT, List.getElem_map, List.getElem_range]
   by_cases h3 : j < i
   ·
    rw [if_pos h3, if_pos (by omega)]
   ·
    rw [if_neg h3, if_neg (by omega)]
theorem LK (s : List UInt32) (i : Nat) (hi : i < (qF s).length) (hs : i / 4 < s.length) : (qF s)[i] = (s[i / 4] >>> UInt32.ofNat (24 - 8 * (i % 4))).toUInt8 := by
 simp [qF, hs]
theorem oB (s : List UInt32) : (qF s).length = 32 := by simp [qF]
theorem aF2 (e f g : UInt32) : g ^^^ (e &&& (f ^^^ g)) = (e &&& f) ^^^ (~~~e &&& g) := by
 apply UInt32.toBitVec_inj.1
 apply BitVec.eq_of_getLsbD_eq
 intro i hi
 simp [hi]
 generalize e.toBitVec[i] = p
 generalize f.toBitVec[i] = q
 generalize g.toBitVec[i] = r
 revert p q r; decide
theorem aA4 (a b c : UInt32) : (a &&& b) ||| (c &&& (a ||| b)) = ((a &&& b) ^^^ (a &&& c)) ^^^ (b &&& c) := by
 apply UInt32.toBitVec_inj.1
 apply BitVec.eq_of_getLsbD_eq
 intro i hi
 simp [hi]
 generalize a.toBitVec[i] = p
 generalize b.toBitVec[i] = q
 generalize c.toBitVec[i] = r
 revert p q r; decide
theorem I4 (x : UInt32) (m n : Nat) : j7 x [m, n] = nZ x m ^^^ nZ x n := by simp [j7]
theorem I3 (x : UInt32) (l m n : Nat) : j7 x [l, m, n] = (nZ x l ^^^ nZ x m) ^^^ nZ x n := by simp [j7]
def iD (i j : Nat) : Nat := max i 16 - 1 - ((max i 16 - 1 - j) % 16)
def win (W : List UInt32) (i : Nat) : List UInt32 := (List.range 16).map fun j => W.getD (iD i j) 0
theorem jD (W : List UInt32) (i : Nat) : (win W i).length = 16 := by simp [win]
theorem IM (W : List UInt32) (i j m : Nat) (hj : j < (win W i).length) (hm : iD i j = m) (h : m < W.length) : (win W i)[j] = W[m] := by
 subst hm
 simp [win, h]
theorem UB (W : List UInt32) (i : Nat) (hi : 16 ≤ i) (h : i < W.length) : (win W i).set (i % 16) W[i] = win W (i + 1) := by
 apply List.ext_getElem
 ·
  simp [win]
 ·
  intro j h1 h2
  rw [jD] at h2
  rw [List.getElem_set]
  by_cases hj : i % 16 = j
  ·
   rw [if_pos hj]
   rw [IM W (i + 1) j i _ (by unfold iD; omega) h]
  ·
   rw [if_neg hj]
   simp only [win, List.getElem_map, List.getElem_range]
   congr 1
   unfold iD
   omega
theorem KX (W : List UInt32) (i : Nat) (hi : i < 16) : win W (i + 1) = win W i := by
 unfold win
 apply List.map_congr_left
 intro j _
 congr 1
 unfold iD
 omega
theorem SU (a b c d : UInt32) : ((((0 <<< UInt32.ofNat 8 ||| a) <<< UInt32.ofNat 8 ||| b) <<< UInt32.ofNat 8 ||| c) <<< UInt32.ofNat 8 ||| d) =
  ((a <<< UInt32.ofNat 24 ||| b <<< UInt32.ofNat 16) ||| c <<< UInt32.ofNat 8) ||| d := by
 have h : ∀ x : UInt32, ∀ m n : Nat, m + n < 32 → (x <<< UInt32.ofNat m) <<< UInt32.ofNat n = x <<< UInt32.ofNat (m + n) := by
  intro x m n hmn
  apply UInt32.toNat_inj.1
  rw [UInt32.toNat_shiftLeft, UInt32.toNat_shiftLeft, UInt32.toNat_shiftLeft, toNat_ofNat32 (by omega), toNat_ofNat32 (by omega), toNat_ofNat32 hmn]
  rw [Nat.shiftLeft_add]
  simp only [Nat.shiftLeft_eq]
  rw [Nat.mod_mul_mod]
 have ho : ∀ x y : UInt32, (x ||| y) <<< UInt32.ofNat 8 = x <<< UInt32.ofNat 8 ||| y <<< UInt32.ofNat 8 := by
  intro x y
  apply UInt32.toNat_inj.1
  simp only [UInt32.toNat_shiftLeft, UInt32.toNat_or, toNat_ofNat32 (show 8 < 32 by omega)]
  rw [Nat.shiftLeft_or_distrib, Nat.or_mod_two_pow]
 have h0 : (0 : UInt32) <<< UInt32.ofNat 8 = 0 := by decide
 simp only [h0, ho, h _ 8 8 (by omega), h _ 16 8 (by omega), UInt32.zero_or]
def nS (b : List UInt8) (i : Nat) : List UInt32 := (List.range 16).map fun j => if j < i then word b j else 0
def M4 (b : List UInt8) (i : Nat) : Nat → UInt32
 | 0 => 0
 | j + 1 => M4 b i j <<< UInt32.ofNat 8 ||| (b.getD (4 * i + j) 0).toUInt32
theorem M3 (b : List UInt8) (i : Nat) : M4 b i 4 = word b i := by
 simp only [M4, word, Nat.add_zero]
 exact SU _ _ _ _
theorem kP (b : List UInt8) (i : Nat) : (nS b i).length = 16 := by simp [nS]
theorem KY (b : List UInt8) : nS b 0 = List.replicate 16 0 := by simp [nS]; rfl
theorem KZ (b : List UInt8) (i : Nat) (hi : i < 16) : (nS b i).set i 0 = nS b i := by
 apply List.ext_getElem
 ·
  simp
 ·
  intro j h1 h2
  rw [List.getElem_set]
  split
  ·
   rename_i h; subst h; simp [nS]
  ·
   rfl
theorem NX (b : List UInt8) (i : Nat) (hi : i < 16) : (nS b i).set i (word b i) = nS b (i + 1) := by
 apply List.ext_getElem
 ·
  simp [nS]
 ·
  intro j h1 h2
  rw [kP] at h2
  rw [List.getElem_set]
  split
  ·
   rename_i h; subst h; simp [nS]
  ·
   rename_i h
   simp only [nS, List.getElem_map, List.getElem_range]
   by_cases h3 : j < i
   ·
    rw [if_pos h3, if_pos (by omega)]
   ·
    rw [if_neg h3, if_neg (by omega)]
theorem RB {α : Type} {l m : List α} {d : α} {i : Nat} (h : i < l.length) : (l ++ m).getD i d = l.getD i d := by simp [List.getD, List.getElem?_append_left h]
theorem RA {α : Type} (l : List α) (x d : α) : (l ++ [x]).getD l.length d = x := by simp [List.getD]
theorem iM (b : List UInt8) (k i : Nat) (hi : i < 16 + k) : ∀ m, k ≤ m → (sched b m).getD i 0 = (sched b k).getD i 0 := by
  intro m hm
  induction m with
  | zero => obtain rfl : k = 0 := by omega
            rfl
  | succ m ih =>
    by_cases h : k = m + 1
    · subst h; rfl
    · rw [← ih (by omega)]
      have hl := cS b m
      show (ext (sched b m)).getD i 0 = _
      unfold ext
      rw [RB (by omega)]
theorem A1 (b : List UInt8) (i : Nat) (h : 16 ≤ i) (h2 : i < 64) : (sched b 48).getD i 0 =
  (((sched b 48).getD (i - 16) 0 + sg0 ((sched b 48).getD (i - 15) 0)) + (sched b 48).getD (i - 7) 0) + sg1 ((sched b 48).getD (i - 2) 0) := by
 have hl := cS b (i - 16)
 rw [iM b (i - 16 + 1) i (by omega) 48 (by omega), iM b (i - 16) (i - 16) (by omega) 48 (by omega), iM b (i - 16) (i - 15) (by omega) 48 (by omega),
  iM b (i - 16) (i - 7) (by omega) 48 (by omega), iM b (i - 16) (i - 2) (by omega) 48 (by omega)]
 show (ext (sched b (i - 16))).getD i 0 = _
 unfold ext
 rw [hl, show 16 + (i - 16) - 16 = i - 16 by omega, show 16 + (i - 16) - 15 = i - 15 by omega, show 16 + (i - 16) - 7 = i - 7 by omega, show 16 + (i - 16) - 2 = i - 2 by omega]
 have e : ∀ x : UInt32, (sched b (i - 16) ++ [x]).getD i 0 = x := fun x => by
  have h3 := RA (sched b (i - 16)) x 0
  rwa [show (sched b (i - 16)).length = i by omega] at h3
 exact e _
theorem aAF (R : List UInt32) (k w : UInt32) : (((R.getD 7 0 + j7 (R.getD 4 0) [6, 11, 25]) + (R.getD 6 0 ^^^ (R.getD 4 0 &&& (R.getD 5 0 ^^^ R.getD 6 0)))) + k) + w = t1f R k w := by
 rw [t1f, I3, aF2]
theorem aAH (R : List UInt32) (t : UInt32) : (t + j7 (R.getD 0 0) [2, 13, 22]) + ((R.getD 0 0 &&& R.getD 1 0) ||| (R.getD 2 0 &&& (R.getD 0 0 ||| R.getD 1 0))) = t + t2f R := by
 rw [t2f, I3, aA4, UInt32.add_assoc]
theorem F2 (a x y z : UInt32) : a + (((j7 x [7, 18] ^^^ (x >>> UInt32.ofNat 3)) + z) + (j7 y [17, 19] ^^^ (y >>> UInt32.ofNat 10))) = ((a + sg0 x) + z) + sg1 y := by
 rw [sg0, sg1, I4, I4, UInt32.add_assoc, UInt32.add_assoc]
 simp only [UInt32.add_assoc]
theorem kw8 (R : List UInt32) (h : R.length = 8) : [Value.int .u32 ((R.getD 0 0).toNat : Int), .int .u32 ((R.getD 1 0).toNat : Int), .int .u32 ((R.getD 2 0).toNat : Int), .int .u32 ((R.getD 3 0).toNat : Int),
  .int .u32 ((R.getD 4 0).toNat : Int), .int .u32 ((R.getD 5 0).toNat : Int), .int .u32 ((R.getD 6 0).toNat : Int), .int .u32 ((R.getD 7 0).toNat : Int)] = kw R := by
 match R, h with
 | [a, b, c, d, e, f, g, i], _ => rfl
theorem VM (l : List UInt32) (i : Nat) (h : i < l.length) : (kw l)[i]? = some (.int .u32 ((l.getD i 0).toNat : Int)) := by
 simp [kw, h]
theorem CT (W : List UInt32) (i j m : Nat) (hj : j < 16) (hm : iD i j = m) (h : m < W.length) : (win W i)[j]'(by rw [jD]; exact hj) = W.getD m 0 := by
 rw [IM W i j m _ hm h, jT h]
theorem CP.bZ {w : World} {b n : Nat} {e : TypeId} {l : List Nat} (h : aM w b e (l.map fun (n : Nat) => Value.int .i64 (n : Int))) (hn : l.length = n) : CP (.slice (some ⟨b, 0, none⟩) n n) l w :=
 jW.bZ h (by simpa using hn)
theorem NW (b : List UInt8) : nS b 16 = win (sched b 48) 0 := by
 apply List.ext_getElem
 ·
  rw [kP, jD]
 ·
  intro j h1 h2
  rw [kP] at h1
  rw [CT (sched b 48) 0 j j h1 (by unfold iD; omega) (by rw [cS]; omega), iM b 0 j (by omega) 48 (by omega)]
  simp [nS, sched, h1]
theorem aM.k5 {w : World} {b o : Nat} {t : TypeId} {W : List UInt32} {i : Nat} (h : aM w b t (kw (win W i))) (j m : Nat) (hj : j < 16) (ho : o = j) (hm : iD i j = m) (hW : m < W.length) : cX w ⟨b, o, none⟩ [.int .u32 ((W.getD m 0).toNat : Int)] := by
 have h1 := aM.aF h (aJ.word j (by rw [jD]; exact hj)) ho
 rwa [CT W i j m hj hm hW] at h1
theorem vP (W : List UInt32) (i : Nat) (hi : 16 ≤ i) (h : i < W.length) : (win W i).set (i % 16) (W.getD i 0) = win W (i + 1) := by
 rw [jT h]; exact UB W i hi h
theorem aA5 (l : List UInt32) (i : Nat) (h : i < l.length) : (kw l)[i]? = some (.int .u32 (l[i].toNat : Int)) := by simp [kw, h]
theorem bI.aDd {w : World} {v : Value} {l : List UInt8} {lo hi : Nat} (h : bI (iR v 1 lo hi) ((l.drop lo).take (hi - lo)) w) (j : Nat) (hj : j < hi - lo) (hl : hi ≤ l.length) : cX w (jF (iR v 1 lo hi) (j * 1)) [.int .u8 ((l.getD (lo + j) 0).toNat : Int)] := by
 have h1 := bI.rd h j (by simp; omega)
 have e : ((l.drop lo).take (hi - lo))[j]'(by simp; omega) = l.getD (lo + j) 0 := by
  rw [jT (by omega)]; simp
 rwa [e] at h1
theorem aM.Y0 {w : World} {b o : Nat} {t : TypeId} {l : List UInt32} (h : aM w b t (kw l)) (i : Nat) (hi : i < l.length) (ho : o = i) : cX w ⟨b, o, none⟩ [.int .u32 ((l.getD i 0).toNat : Int)] := by
 have h1 := aM.aF h (aJ.word i hi) ho
 rwa [← jT (d := 0)] at h1
def aX (w : World) : Prop := cX w ⟨1, 0, none⟩ (kw k8)
theorem aAG {X : Nat → Prop} {w : World} {b : Nat} {s : List UInt32} {a : Value} {la : List UInt8} (hX : cU X w) (eT : aM w b 266 (kw s)) (bT : aH (fun c_ => X c_ ∨ c_ = b) (bI a la) w) (dA : aH (fun c_ => X c_ ∨ c_ = b) (aX) w) (wV : la.length = 64) (hs : s.length = 8) :
  bF prog 160 [.pointer (some ⟨b, 0, none⟩), a].toArray w fun v w' => v = .tuple #[] ∧ Out (· = b) w w' ∧ aM w' b 266 (kw (comp s la)) := by
 refine bF.aI (N := 192) func160 rfl rfl (by simp) ?_
 have H := ((St.c7 (b := b) (t := 266) (l := kw s) hX eT).add (bX dA)).add (bX bT)
 have hWl : (sched la 48).length = 64 := cS _ _
 refine WE.aA ?_
 refine WL.alloc H rfl aCw rfl ?_
 intro b4 w1 H
 refine WL.nil (WE.seq (WE.aA (WL.mv rfl rfl ?_)))
 replace H := H.conv (L' := [aN.blk b4 301 (kw (nS la 0))]) (by rw [KY])
 refine WL.nil (WE.block ?_)
 refine WE.loop (α := Nat) (rg [(5, 1), (7, 1), (24, 26)]) (fun i => [(24, .int .i64 i)]) (fun i wl => i ≤ 16 ∧ St X w wl [aN.blk b 266 (kw s)] [aN.blk b4 301 (kw (nS la i))] [bI a la, aX]) (fun i => 16 - i) 0 ⟨rfl, trivial⟩ ⟨Nat.zero_le _, H⟩ ?_
 intro i γ0 w2 hI
 try dsimp only at hI
 obtain ⟨hi, H⟩ := hI
 refine WE.aA (WL.pv (PV.lss rfl rfl rfl) rfl (WL.nil (WE.seq ?_)))
 refine WE.cond rfl (fun q3 => ?_) (fun q3 => ?_)
 ·
  try simp only [bU] at q3
  have hlt : i < 16 := by omega
  refine WE.skip (WE.seq (WE.block (WE.aA (WL.mv rfl rfl (WL.as rfl rfl (WL.nil (WE.aA ?_)))))))
  refine WL.mv rfl rfl (WL.mv rfl rfl (WL.pv (PV.sA rfl rfl rfl (by omega) (by omega)) rfl (WL.mv rfl rfl (WL.pv (PV.sA rfl rfl rfl (by omega) (by omega)) rfl (WL.pv (PV.bY rfl rfl rfl (by omega) (by omega)) rfl ?_)))))
  refine WL.pv (PV.eq (v' := iR a 1 (4 * i) (4 * i + 4)) (PV.aCQ rfl (H.p 0 rfl) eW gY rfl rfl rfl (by omega) (by omega)) (by congr 1 <;> omega)) rfl ?_
  replace H := H.add ((H.bK 0 rfl).imp fun _ h => bI.sub (lo := 4 * i) (hi := 4 * i + 4) h (by omega) (by omega))
  refine WL.pv (PV.eq (v' := .int .i64 4) (PV.dO (H.p 0 rfl) eW rfl) (by simp; omega)) rfl ?_
  refine WL.mv rfl rfl (WL.nil (WE.block ?_))
  refine WE.loop (α := Nat) (rg [(7, 1), (35, 14)]) (fun j => [(35, .int .i64 j)]) (fun j wl => j ≤ 4 ∧ St X w wl [aN.blk b 266 (kw s)] [aN.blk b4 301 (kw ((nS la i).set i (M4 la i j)))] [bI (iR a 1 (4 * i) (4 * i + 4)) ((la.drop (4 * i)).take (4 * i + 4 - 4 * i)), bI a la, aX]) (fun j => 4 - j) 0 ⟨rfl, trivial⟩ ⟨Nat.zero_le _, H.conv (by rw [show M4 la i 0 = 0 from rfl, KZ _ _ hlt])⟩ ?_
  intro j γ1 w3 hI
  try dsimp only at hI
  obtain ⟨hj, H⟩ := hI
  refine WE.aA (WL.pv (PV.lss rfl rfl rfl) rfl (WL.nil (WE.seq ?_)))
  refine WE.cond rfl (fun oE => ?_) (fun oE => ?_)
  ·
   try simp only [bU] at oE
   have hj4 : j < 4 := by omega
   refine WE.skip (WE.seq (WE.block (WE.aA ?_)))
   refine WL.pv (PV.eO rfl (H.p 0 rfl) eW gY rfl rfl (by omega) (by simp; omega)) rfl ?_
   refine WL.aY rfl CE rfl rfl (bI.aDd (H.p 0 rfl) j (by omega) (by omega)) (WL.as rfl rfl (WL.nil (WE.eH (WL.mv rfl rfl (WL.mv rfl rfl (WL.pv (PV.cF rfl qO fS rfl rfl (by omega) (by omega)) rfl ?_))))))
   refine WL.aY rfl jY rfl rfl (by have h1 := aM.aF (o' := 0 + (i : Int).toNat * 1) (H.l 0 rfl) (aJ.word i (by simp [kP]; omega)) (by omega); rw [List.getElem_set_self] at h1; exact h1) ?_
   refine WL.pv (PV.OD (n := 8) rfl rfl rfl (by omega)) rfl (WL.mv rfl rfl (WL.pv (PV.aF4 rfl oW P5 rfl) rfl (WL.pv (PV.PC rfl rfl rfl) rfl (WL.pv (PV.cF rfl qO fS rfl rfl (by omega) (by omega)) rfl ?_))))
   refine WL.aT H 0 rfl rfl rfl (new := _) rfl (by exact fS) (bE _ rfl) (Laid.at (Laid.iV i (by simp [kP]; omega)) (by simp)) rfl ?_
   intro w4 H
   refine WL.nil (WE.eH (WL.pv (PV.bY rfl rfl rfl (by omega) (by omega)) rfl (WL.mv rfl rfl (WL.nil ?_))))
   replace H := H.conv (L' := [aN.blk b4 301 (kw ((nS la i).set i (M4 la i (j + 1))))]) (by rw [List.set_set]; rfl)
   exact ⟨j + 1, (by repeat (first | with_reducible exact bQ.refl _ _ | refine bQ.dG rfl ?_ | refine bQ.cC rfl ?_ | refine bQ.cB rfl ?_)), ⟨rfl, trivial⟩, rfl, ⟨by omega, H⟩, (by omega)⟩
  ·
   try simp only [bU] at oE
   obtain rfl : j = 4 := by omega
   refine WE.exit (WE.eH (WL.pv (PV.bY rfl rfl rfl (by omega) (by omega)) rfl (WL.mv rfl rfl (WL.nil ?_))))
   replace H := H.conv (L' := [aN.blk b4 301 (kw (nS la (i + 1)))]) (by rw [M3, NX _ _ hlt])
   replace H := H.drop (fun p hp => List.mem_cons_of_mem _ hp)
   exact ⟨i + 1, (by repeat (first | with_reducible exact bQ.refl _ _ | refine bQ.dG rfl ?_ | refine bQ.cC rfl ?_ | refine bQ.cB rfl ?_)), ⟨rfl, trivial⟩, rfl, ⟨by omega, H⟩, (by omega)⟩
 ·
  try simp only [bU] at q3
  obtain rfl : i = 16 := by omega
  refine WE.exit ?_
  refine WE.bG (.take 0 (.take 1 (.take 2 (.take 3 (.take 4 (.take 5 (.take 6 (.take 7 (.take 8 (.take 9 (.take 10 (.take 11 (.take 12 (.take 13 (.take 14 (.take 15 (.take 16 (.take 17 (.take 18 (.take 19 (.take 20 (.take 21 (.take 22 (.take 23 (.take 24 (.take 25 (.take 26 (.take 27 (.take 28 (.take 29 (.take 30 (.take 31 (.take 32 (.take 33 (.take 34 (.take 35 (.take 36 (.take 37 (.take 38 (.take 39 .done)))))))))))))))))))))))))))))))))))))))) mixed (by kernel_rfl) ?_
  replace H := H.out (Out.drew _)
  refine WP.mv rfl rfl rfl (WP.aC rfl rfl (PV.nilCheck rfl rfl) (WP.aC rfl rfl (PV.cF rfl oT fS rfl rfl (by omega) (by omega)) (WP.aQ rfl rfl (RV.aZ rfl jY rfl) (aM.Y0 (H.o 0 rfl) 0 (by omega) rfl) (WP.mv rfl rfl rfl (WP.aC rfl rfl (PV.nilCheck rfl rfl) (WP.aC rfl rfl (PV.cF rfl oT fS rfl rfl (by omega) (by omega)) (WP.aQ rfl rfl (RV.aZ rfl jY rfl) (aM.Y0 (H.o 0 rfl) 1 (by omega) rfl) ?_)))))))
  refine WP.mv rfl rfl rfl (WP.aC rfl rfl (PV.nilCheck rfl rfl) (WP.aC rfl rfl (PV.cF rfl oT fS rfl rfl (by omega) (by omega)) (WP.aQ rfl rfl (RV.aZ rfl jY rfl) (aM.Y0 (H.o 0 rfl) 2 (by omega) rfl) (WP.mv rfl rfl rfl (WP.aC rfl rfl (PV.nilCheck rfl rfl) (WP.aC rfl rfl (PV.cF rfl oT fS rfl rfl (by omega) (by omega)) (WP.aQ rfl rfl (RV.aZ rfl jY rfl) (aM.Y0 (H.o 0 rfl) 3 (by omega) rfl) ?_)))))))
  refine WP.mv rfl rfl rfl (WP.aC rfl rfl (PV.nilCheck rfl rfl) (WP.aC rfl rfl (PV.cF rfl oT fS rfl rfl (by omega) (by omega)) (WP.aQ rfl rfl (RV.aZ rfl jY rfl) (aM.Y0 (H.o 0 rfl) 4 (by omega) rfl) (WP.mv rfl rfl rfl (WP.aC rfl rfl (PV.nilCheck rfl rfl) (WP.aC rfl rfl (PV.cF rfl oT fS rfl rfl (by omega) (by omega)) (WP.aQ rfl rfl (RV.aZ rfl jY rfl) (aM.Y0 (H.o 0 rfl) 5 (by omega) rfl) ?_)))))))
  refine WP.mv rfl rfl rfl (WP.aC rfl rfl (PV.nilCheck rfl rfl) (WP.aC rfl rfl (PV.cF rfl oT fS rfl rfl (by omega) (by omega)) (WP.aQ rfl rfl (RV.aZ rfl jY rfl) (aM.Y0 (H.o 0 rfl) 6 (by omega) rfl) (WP.mv rfl rfl rfl (WP.aC rfl rfl (PV.nilCheck rfl rfl) (WP.aC rfl rfl (PV.cF rfl oT fS rfl rfl (by omega) (by omega)) (WP.aQ rfl rfl (RV.aZ rfl jY rfl) (aM.Y0 (H.o 0 rfl) 7 (by omega) rfl) ?_)))))))
  refine WP.as rfl rfl rfl (WP.as rfl rfl rfl (WP.as rfl rfl rfl (WP.as rfl rfl rfl (WP.as rfl rfl rfl (WP.as rfl rfl rfl (WP.as rfl rfl rfl (WP.as rfl rfl rfl ?_)))))))
  refine WP.done (WE.seq (WE.aA ?_))
  refine WL.bC rfl aGl rfl rfl (H.p 1 rfl) (by exact aCM) ?_
  refine WL.mv rfl rfl (WL.nil (WE.block ?_))
  refine WE.loop (α := Nat) (rg [(8, 14), (83, 86)]) (fun i => [(83, .int .i64 i), (8, .int .u32 (((j6 (sched la 48) s i).getD 0 0).toNat : Int)), (9, .int .u32 (((j6 (sched la 48) s i).getD 1 0).toNat : Int)), (10, .int .u32 (((j6 (sched la 48) s i).getD 2 0).toNat : Int)), (11, .int .u32 (((j6 (sched la 48) s i).getD 3 0).toNat : Int)), (12, .int .u32 (((j6 (sched la 48) s i).getD 4 0).toNat : Int)), (13, .int .u32 (((j6 (sched la 48) s i).getD 5 0).toNat : Int)), (14, .int .u32 (((j6 (sched la 48) s i).getD 6 0).toNat : Int)), (15, .int .u32 (((j6 (sched la 48) s i).getD 7 0).toNat : Int))]) (fun i wl => i ≤ 64 ∧ St X w wl [aN.blk b 266 (kw s)] [aN.blk b4 301 (kw (win (sched la 48) (i)))] [bI a la, aX]) (fun i => 64 - i) 0 ⟨rfl, rfl, rfl, rfl, rfl, rfl, rfl, rfl, rfl, trivial⟩ ⟨Nat.zero_le _, H.conv (by rw [NW])⟩ ?_
  intro i γ2 w5 hI
  try dsimp only at hI
  obtain ⟨hi, H⟩ := hI
  refine WE.aA (WL.pv (PV.lss rfl rfl rfl) rfl (WL.nil (WE.seq ?_)))
  refine WE.cond rfl (fun aBt => ?_) (fun aBt => ?_)
  ·
   try simp only [bU] at aBt
   have hlt : i < 64 := by omega
   refine WE.skip (WE.seq (WE.block (WE.aA (WL.mv rfl rfl (WL.pv (PV.GO (l := kw k8) rfl aAj fS jY rfl rfl (by omega) (VM k8 i hlt)) rfl (WL.as rfl rfl (WL.as rfl rfl ?_)))))))
   refine WL.nil (WE.aA (WL.mv rfl rfl (WL.pv (PV.uJ rfl rfl rfl (by omega) (by omega)) rfl (WL.as rfl rfl (WL.nil ?_)))))
   refine WE.cut (α := Unit) (rg [(19, 2), (89, 36)]) (fun _ => []) (fun _ wl => St X w wl [aN.blk b 266 (kw s)] [aN.blk b4 301 (kw (win (sched la 48) (i + 1)))] [bI a la, aX]) ?_ ?_
   ·
    refine WE.aA (WL.mv rfl rfl (WL.pv (PV.geq rfl rfl rfl) rfl (WL.nil ?_)))
    refine WE.cond rfl (fun aBs => ?_) (fun aBs => ?_)
    ·
     try simp only [bU] at aBs
     have T5 : 16 ≤ i := by omega
     refine WE.bG (.take 0 (.take 1 (.take 2 (.take 3 (.take 4 (.take 5 (.take 6 (.take 7 (.take 8 (.take 9 (.take 10 (.take 11 .done)))))))))))) mixed (by kernel_rfl) ?_
     replace H := H.out (Out.drew _)
     refine WP.mv rfl rfl rfl (WP.aC rfl rfl (PV.bY rfl rfl rfl (by omega) (by omega)) (WP.aC rfl rfl (PV.uJ rfl rfl rfl (by omega) (by omega)) (WP.aC rfl rfl (PV.cF rfl qO fS rfl rfl (by omega) (by omega)) ?_)))
     refine WP.aQ rfl rfl (RV.aZ rfl jY rfl) (aM.k5 (H.l 0 rfl) ((i + 1) % 16) (i - 15) (by omega) (by omega) (by unfold iD; omega) (by rw [cS]; omega)) ?_
     refine WP.mv rfl rfl rfl (WP.aC rfl rfl (PV.bY rfl rfl rfl (by omega) (by omega)) (WP.aC rfl rfl (PV.uJ rfl rfl rfl (by omega) (by omega)) (WP.aC rfl rfl (PV.cF rfl qO fS rfl rfl (by omega) (by omega)) ?_)))
     refine WP.aQ rfl rfl (RV.aZ rfl jY rfl) (aM.k5 (H.l 0 rfl) ((i + 14) % 16) (i - 2) (by omega) (by omega) (by unfold iD; omega) (by rw [cS]; omega)) ?_
     refine WP.as rfl rfl rfl (WP.as rfl rfl rfl (WP.done ?_))
     refine WE.draw (.take 0 (.take 1 (.take 2 (.take 3 (.take 6 (.take 7 (.take 9 (.take 10 (.take 11 (.take 12 (.take 13 (.take 15 (.take 18 (.take 19 (.iW 4 (.iW 5 (.take 8 (.take 14 (.aG 16 (.aG 17 (.take 20 (.take 21 (.take 22 (.take 23 (.aG 24 .done))))))))) 16 (.aG 5 (.take 8 (.take 14 (.aG 17 (.take 20 (.take 21 (.take 22 (.take 23 (.aG 24 .done)))))))))) 16 (.aG 4 (.aG 5 (.take 8 (.take 14 (.aG 17 (.take 20 (.take 21 (.take 22 (.take 23 (.aG 24 .done))))))))))))))))))))))))) mixed (by kernel_rfl) ?_
     replace H := H.out (Out.drew _)
     refine WP.mv rfl rfl rfl (WP.aC rfl rfl (PV.cF rfl qO fS rfl rfl (by omega) (by omega)) ?_)
     refine WP.aQ rfl rfl (RV.aZ rfl jY rfl) (aM.k5 (H.l 0 rfl) (i % 16) (i - 16) (by omega) (by omega) (by unfold iD; omega) (by rw [cS]; omega)) ?_
     refine WP.mv rfl rfl rfl (WP.mv rfl rfl rfl (WP.aC rfl rfl (PV.C6 (n := 3) rfl rfl rfl (by omega)) (WP.mv rfl rfl rfl (WP.aC rfl rfl (PV.bY rfl rfl rfl (by omega) (by omega)) (WP.aC rfl rfl (PV.uJ rfl rfl rfl (by omega) (by omega)) (WP.aC rfl rfl (PV.cF rfl qO fS rfl rfl (by omega) (by omega)) ?_))))))
     refine WP.aQ rfl rfl (RV.aZ rfl jY rfl) (aM.k5 (H.l 0 rfl) ((i + 9) % 16) (i - 7) (by omega) (by omega) (by unfold iD; omega) (by rw [cS]; omega)) ?_
     refine WP.mv rfl rfl rfl (WP.mv rfl rfl rfl (WP.aC rfl rfl (PV.C6 (n := 10) rfl rfl rfl (by omega)) ?_))
     refine WP.iW rfl rfl ?_ ?_ 
     ·
      refine WL.bL (l0 := [.int .i64 (0), .int .i64 (0)]) H rfl rR (by decide) (dH _ _) (Fl.cons rfl rfl (by simp only [aR]) Laid.head (Fl.cons rfl rfl (by simp only [aR]) (Laid.tail Laid.head rfl) Fl.nil)) rfl ?_
      intro aIC w6 H
      replace H := H.freeze (i := 0) rfl
      replace H := H.add ((H.bK 0 rfl).imp fun _ h => CP.bZ (l := [7, 18]) h rfl)
      refine WL.nil ⟨(fa (fun _ _ => (aM.k5 (H.l 0 rfl) ((i + 9) % 16) (i - 7) (by omega) (by omega) (by unfold iD; omega) (by rw [cS]; omega))) (fa (fun _ _ => (aM.k5 (H.l 0 rfl) (i % 16) (i - 16) (by omega) (by omega) (by unfold iD; omega) (by rw [cS]; omega))) c5)), ?_⟩
      refine WP.iW rfl rfl ?_ ?_ 
      ·
       refine WL.call uO rfl (l9 (x := (sched la 48).getD (i - 15) 0) (l := [7, 18]) H.aS (by exact H.bK 0 rfl) (by decide) (by decide)) ?_
       rintro _ w7 ⟨rfl, hO⟩
       replace H := H.out hO
       refine WL.nil ⟨(fa (rk hO) (fa (rk hO) c5)), ?_⟩
       refine WP.aC rfl rfl (PV.rN rfl rfl rfl) (WP.aC rfl rfl (PV.kX rfl rfl rfl) (WP.aG rfl ?_))
       refine WL.bL (l0 := [.int .i64 (0), .int .i64 (0)]) H rfl rR (by decide) (dH _ _) (Fl.cons rfl rfl (by simp only [aR]) Laid.head (Fl.cons rfl rfl (by simp only [aR]) (Laid.tail Laid.head rfl) Fl.nil)) rfl ?_
       intro aGd w8 H
       replace H := H.freeze (i := 0) rfl
       replace H := H.add ((H.bK 0 rfl).imp fun _ h => CP.bZ (l := [17, 19]) h rfl)
       refine WL.nil ⟨(fa (fun _ _ => (aM.k5 (H.l 0 rfl) ((i + 9) % 16) (i - 7) (by omega) (by omega) (by unfold iD; omega) (by rw [cS]; omega))) (fa (fun _ _ => (aM.k5 (H.l 0 rfl) (i % 16) (i - 16) (by omega) (by omega) (by unfold iD; omega) (by rw [cS]; omega))) c5)), ?_⟩
       refine WP.aG rfl ?_
       refine WL.call uO rfl (l9 (x := (sched la 48).getD (i - 2) 0) (l := [17, 19]) H.aS (by exact H.bK 0 rfl) (by decide) (by decide)) ?_
       rintro _ w9 ⟨rfl, hO⟩
       replace H := H.out hO
       refine WL.nil ⟨(fa (rk hO) (fa (rk hO) c5)), ?_⟩
       refine WP.aC rfl rfl (PV.rN rfl rfl rfl) (WP.aC rfl rfl (PV.kX rfl rfl rfl) (WP.aC rfl rfl (PV.kX rfl rfl rfl) (WP.aC rfl rfl (PV.cF rfl qO fS rfl rfl (by omega) (by omega)) (WP.aG rfl ?_))))
       refine WL.aT H 0 rfl rfl rfl (new := _) rfl (by exact fS) (bE _ rfl) (Laid.at (Laid.iV (i % 16) (by rw [jD]; omega)) (by omega)) rfl ?_
       intro vR H
       replace H := H.conv (L' := [aN.blk b4 301 (kw (win (sched la 48) (i + 1)))]) (by rw [F2, ← A1 la i T5 hlt, vP _ _ T5 (by omega)]; rfl)
       refine WL.nil ⟨(fa (nw 24 13) (fa (nw 24 2) c5)), ?_⟩
       refine WP.done ?_
       replace H := H.drop (IA := [bI a la, aX]) (by intro p hp; simp at hp ⊢; rcases hp with h | h <;> simp [h])
       exact ⟨(), (by repeat (first | with_reducible exact bQ.refl _ _ | refine bQ.dG rfl ?_)), trivial, rfl, H⟩
      ·
       refine WL.bL (l0 := [.int .i64 (0), .int .i64 (0)]) H rfl rR (by decide) (dH _ _) (Fl.cons rfl rfl (by simp only [aR]) Laid.head (Fl.cons rfl rfl (by simp only [aR]) (Laid.tail Laid.head rfl) Fl.nil)) rfl ?_
       intro aGd y8 H
       replace H := H.freeze (i := 0) rfl
       replace H := H.add ((H.bK 0 rfl).imp fun _ h => CP.bZ (l := [17, 19]) h rfl)
       refine WL.nil ⟨(fa (fun _ _ => (aM.k5 (H.l 0 rfl) ((i + 9) % 16) (i - 7) (by omega) (by omega) (by unfold iD; omega) (by rw [cS]; omega))) (fa (fun _ _ => (aM.k5 (H.l 0 rfl) (i % 16) (i - 16) (by omega) (by omega) (by unfold iD; omega) (by rw [cS]; omega))) c5)), ?_⟩
       refine WP.aG rfl ?_
       refine WL.call uO rfl (l9 (x := (sched la 48).getD (i - 15) 0) (l := [7, 18]) H.aS (by exact H.bK 2 rfl) (by decide) (by decide)) ?_
       rintro _ IQ ⟨rfl, hO⟩
       replace H := H.out hO
       refine WL.nil ⟨(fa (rk hO) (fa (rk hO) c5)), ?_⟩
       refine WP.aC rfl rfl (PV.rN rfl rfl rfl) (WP.aC rfl rfl (PV.kX rfl rfl rfl) (WP.aG rfl ?_))
       refine WL.call uO rfl (l9 (x := (sched la 48).getD (i - 2) 0) (l := [17, 19]) H.aS (by exact H.bK 0 rfl) (by decide) (by decide)) ?_
       rintro _ FP ⟨rfl, hO⟩
       replace H := H.out hO
       refine WL.nil ⟨(fa (rk hO) (fa (rk hO) c5)), ?_⟩
       refine WP.aC rfl rfl (PV.rN rfl rfl rfl) (WP.aC rfl rfl (PV.kX rfl rfl rfl) (WP.aC rfl rfl (PV.kX rfl rfl rfl) (WP.aC rfl rfl (PV.cF rfl qO fS rfl rfl (by omega) (by omega)) (WP.aG rfl ?_))))
       refine WL.aT H 0 rfl rfl rfl (new := _) rfl (by exact fS) (bE _ rfl) (Laid.at (Laid.iV (i % 16) (by rw [jD]; omega)) (by omega)) rfl ?_
       intro K2 H
       replace H := H.conv (L' := [aN.blk b4 301 (kw (win (sched la 48) (i + 1)))]) (by rw [F2, ← A1 la i T5 hlt, vP _ _ T5 (by omega)]; rfl)
       refine WL.nil ⟨(fa (nw 24 13) (fa (nw 24 2) c5)), ?_⟩
       refine WP.done ?_
       replace H := H.drop (IA := [bI a la, aX]) (by intro p hp; simp at hp ⊢; rcases hp with h | h <;> simp [h])
       exact ⟨(), (by repeat (first | with_reducible exact bQ.refl _ _ | refine bQ.dG rfl ?_)), trivial, rfl, H⟩
     ·
      refine WL.bL (l0 := [.int .i64 (0), .int .i64 (0)]) H rfl rR (by decide) (dH _ _) (Fl.cons rfl rfl (by simp only [aR]) Laid.head (Fl.cons rfl rfl (by simp only [aR]) (Laid.tail Laid.head rfl) Fl.nil)) rfl ?_
      intro aGd NY H
      replace H := H.freeze (i := 0) rfl
      replace H := H.add ((H.bK 0 rfl).imp fun _ h => CP.bZ (l := [17, 19]) h rfl)
      refine WL.nil ⟨(fa (fun _ _ => (aM.k5 (H.l 0 rfl) ((i + 9) % 16) (i - 7) (by omega) (by omega) (by unfold iD; omega) (by rw [cS]; omega))) (fa (fun _ _ => (aM.k5 (H.l 0 rfl) (i % 16) (i - 16) (by omega) (by omega) (by unfold iD; omega) (by rw [cS]; omega))) c5)), ?_⟩
      refine WP.aG rfl ?_
      refine WL.bL (l0 := [.int .i64 (0), .int .i64 (0)]) H rfl rR (by decide) (dH _ _) (Fl.cons rfl rfl (by simp only [aR]) Laid.head (Fl.cons rfl rfl (by simp only [aR]) (Laid.tail Laid.head rfl) Fl.nil)) rfl ?_
      intro aIC TV H
      replace H := H.freeze (i := 0) rfl
      replace H := H.add ((H.bK 0 rfl).imp fun _ h => CP.bZ (l := [7, 18]) h rfl)
      refine WL.nil ⟨(fa (fun _ _ => (aM.k5 (H.l 0 rfl) ((i + 9) % 16) (i - 7) (by omega) (by omega) (by unfold iD; omega) (by rw [cS]; omega))) (fa (fun _ _ => (aM.k5 (H.l 0 rfl) (i % 16) (i - 16) (by omega) (by omega) (by unfold iD; omega) (by rw [cS]; omega))) c5)), ?_⟩
      refine WP.aG rfl ?_
      refine WL.call uO rfl (l9 (x := (sched la 48).getD (i - 15) 0) (l := [7, 18]) H.aS (by exact H.bK 0 rfl) (by decide) (by decide)) ?_
      rintro _ TU ⟨rfl, hO⟩
      replace H := H.out hO
      refine WL.nil ⟨(fa (rk hO) (fa (rk hO) c5)), ?_⟩
      refine WP.aC rfl rfl (PV.rN rfl rfl rfl) (WP.aC rfl rfl (PV.kX rfl rfl rfl) (WP.aG rfl ?_))
      refine WL.call uO rfl (l9 (x := (sched la 48).getD (i - 2) 0) (l := [17, 19]) H.aS (by exact H.bK 2 rfl) (by decide) (by decide)) ?_
      rintro _ TT ⟨rfl, hO⟩
      replace H := H.out hO
      refine WL.nil ⟨(fa (rk hO) (fa (rk hO) c5)), ?_⟩
      refine WP.aC rfl rfl (PV.rN rfl rfl rfl) (WP.aC rfl rfl (PV.kX rfl rfl rfl) (WP.aC rfl rfl (PV.kX rfl rfl rfl) (WP.aC rfl rfl (PV.cF rfl qO fS rfl rfl (by omega) (by omega)) (WP.aG rfl ?_))))
      refine WL.aT H 0 rfl rfl rfl (new := _) rfl (by exact fS) (bE _ rfl) (Laid.at (Laid.iV (i % 16) (by rw [jD]; omega)) (by omega)) rfl ?_
      intro YQ H
      replace H := H.conv (L' := [aN.blk b4 301 (kw (win (sched la 48) (i + 1)))]) (by rw [F2, ← A1 la i T5 hlt, vP _ _ T5 (by omega)]; rfl)
      refine WL.nil ⟨(fa (nw 24 13) (fa (nw 24 2) c5)), ?_⟩
      refine WP.done ?_
      replace H := H.drop (IA := [bI a la, aX]) (by intro p hp; simp at hp ⊢; rcases hp with h | h <;> simp [h])
      exact ⟨(), (by repeat (first | with_reducible exact bQ.refl _ _ | refine bQ.dG rfl ?_)), trivial, rfl, H⟩
    ·
     try simp only [bU] at aBs
     have T5 : i < 16 := by omega
     replace H := H.conv (L' := [aN.blk b4 301 (kw (win (sched la 48) (i + 1)))]) (by rw [KX _ _ T5])
     refine WE.skip ?_
     replace H := H.drop (IA := [bI a la, aX]) (by intro p hp; simp at hp ⊢; rcases hp with h | h <;> simp [h])
     exact ⟨(), (by repeat (first | with_reducible exact bQ.refl _ _ | refine bQ.dG rfl ?_)), trivial, rfl, H⟩
   ·
    intro _ γ w20 hI
    try dsimp only at hI
    replace H := hI
    refine WE.bG (.take 0 (.take 1 (.take 5 (.take 6 (.take 7 (.take 8 (.take 9 (.take 10 (.take 11 (.take 13 (.take 15 (.take 16 (.take 17 (.aG 2 (.aG 3 (.take 4 (.take 12 (.take 14 (.take 18 (.take 19 .done)))))))))))))))))))) mixed (by kernel_rfl) ?_
    replace H := H.out (Out.drew _)
    refine WP.mv rfl rfl rfl (WP.mv rfl rfl rfl (WP.mv rfl rfl rfl (WP.mv rfl rfl rfl (WP.mv rfl rfl rfl (WP.mv rfl rfl rfl (WP.aC rfl rfl (PV.rN rfl rfl rfl) (WP.aC rfl rfl (PV.E9 rfl rfl rfl) ?_)))))))
    refine WP.aC rfl rfl (PV.rN rfl rfl rfl) (WP.mv rfl rfl rfl (WP.mv rfl rfl rfl (WP.aC rfl rfl (PV.cF rfl qO fS rfl rfl (by omega) (by omega)) ?_)))
    refine WP.aQ rfl rfl (RV.aZ rfl jY rfl) (aM.k5 (H.l 0 rfl) (i % 16) (i) (by omega) (by omega) (by unfold iD; omega) (by rw [cS]; omega)) ?_
    refine WP.aG rfl ?_
    refine WL.bL (l0 := [.int .i64 (0), .int .i64 (0), .int .i64 (0)]) H rfl rR (by decide) (dH _ _) (Fl.cons rfl rfl (by simp only [aR]) Laid.head (Fl.cons rfl rfl (by simp only [aR]) (Laid.tail Laid.head rfl) (Fl.cons rfl rfl (by simp only [aR]) (Laid.tail (Laid.tail Laid.head rfl) rfl) Fl.nil))) rfl ?_
    intro aJM w21 H
    replace H := H.freeze (i := 0) rfl
    replace H := H.add ((H.bK 0 rfl).imp fun _ h => CP.bZ (l := [6, 11, 25]) h rfl)
    refine WL.nil ⟨(fa (fun _ _ => (aM.k5 (H.l 0 rfl) (i % 16) (i) (by omega) (by omega) (by unfold iD; omega) (by rw [cS]; omega))) c5), ?_⟩
    refine WP.aG rfl ?_
    refine WL.call uO rfl (l9 (x := (j6 (sched la 48) s i).getD 4 0) (l := [6, 11, 25]) H.aS (by exact H.bK 0 rfl) (by decide) (by decide)) ?_
    rintro _ w22 ⟨rfl, hO⟩
    replace H := H.out hO
    refine WL.nil ⟨(fa (rk hO) c5), ?_⟩
    refine WP.aC rfl rfl (PV.kX rfl rfl rfl) (WP.aC rfl rfl (PV.kX rfl rfl rfl) (WP.aC rfl rfl (PV.kX rfl rfl rfl) (WP.aC rfl rfl (PV.kX rfl rfl rfl) (WP.as rfl rfl rfl (WP.done ?_)))))
    refine WE.norm [8, 9, 10, 11, 12, 13, 14, 15, 16, 17, 18, 19, 20, 21, 83, 84, 85, 86, 87, 88, 89, 90, 91, 92, 93, 94, 95, 96, 97, 98, 99, 100, 101, 102, 103, 104, 105, 106, 107, 108, 109, 110, 111, 112, 113, 114, 115, 116, 117, 118, 119, 120, 121, 122, 123, 124, 125, 126, 127, 128, 129, 130, 131, 132, 133, 134, 135, 136, 137, 138, 139, 140, 141, 142, 143, 144, 145, 146, 147, 148, 149, 150, 151, 152, 153, 154, 155, 156, 157, 158, 159, 160, 161, 162, 163, 164, 165, 166, 167, 168] [(83, .int .i64 i), (21, .int .u32 ((t1f (j6 (sched la 48) s i) (k8.getD i 0) ((sched la 48).getD i 0)).toNat : Int)), (8, .int .u32 (((j6 (sched la 48) s i).getD 0 0).toNat : Int)), (9, .int .u32 (((j6 (sched la 48) s i).getD 1 0).toNat : Int)), (10, .int .u32 (((j6 (sched la 48) s i).getD 2 0).toNat : Int)), (11, .int .u32 (((j6 (sched la 48) s i).getD 3 0).toNat : Int)), (12, .int .u32 (((j6 (sched la 48) s i).getD 4 0).toNat : Int)), (13, .int .u32 (((j6 (sched la 48) s i).getD 5 0).toNat : Int)), (14, .int .u32 (((j6 (sched la 48) s i).getD 6 0).toNat : Int)), (15, .int .u32 (((j6 (sched la 48) s i).getD 7 0).toNat : Int))] (bQ.refl _ _) ⟨rfl, (by show Value.int .u32 _ = _; rw [aAF]), rfl, rfl, rfl, rfl, rfl, rfl, rfl, rfl, trivial⟩ ?_
    intro γ_
    refine WE.aA (WL.mv rfl rfl (WL.mv rfl rfl (WL.mv rfl rfl (WL.mv rfl rfl (WL.mv rfl rfl (WL.pv (PV.kX rfl rfl rfl) rfl (WL.as rfl rfl ?_)))))))
    refine WL.as rfl rfl (WL.as rfl rfl (WL.as rfl rfl (WL.nil (WE.eH (WL.mv rfl rfl (WL.mv rfl rfl (WL.mv rfl rfl ?_)))))))
    refine WL.mv rfl rfl (WL.mv rfl rfl ?_)
    refine WL.bL (l0 := [.int .i64 (0), .int .i64 (0), .int .i64 (0)]) H rfl rR (by decide) (dH _ _) (Fl.cons rfl rfl (by simp only [aR]) Laid.head (Fl.cons rfl rfl (by simp only [aR]) (Laid.tail Laid.head rfl) (Fl.cons rfl rfl (by simp only [aR]) (Laid.tail (Laid.tail Laid.head rfl) rfl) Fl.nil))) rfl ?_
    intro aJL w23 H
    replace H := H.freeze (i := 0) rfl
    replace H := H.add ((H.bK 0 rfl).imp fun _ h => CP.bZ (l := [2, 13, 22]) h rfl)
    refine WL.call uO rfl (l9 (x := (j6 (sched la 48) s i).getD 0 0) (l := [2, 13, 22]) H.aS (by exact H.bK 0 rfl) (by decide) (by decide)) ?_
    rintro _ w24 ⟨rfl, hO⟩
    replace H := H.out hO
    refine WL.pv (PV.kX rfl rfl rfl) rfl (WL.mv rfl rfl (WL.mv rfl rfl (WL.pv (PV.E9 rfl rfl rfl) rfl (WL.mv rfl rfl (WL.mv rfl rfl (WL.mv rfl rfl (WL.pv (PV.PC rfl rfl rfl) rfl ?_)))))))
    refine WL.pv (PV.E9 rfl rfl rfl) rfl (WL.pv (PV.PC rfl rfl rfl) rfl (WL.pv (PV.kX rfl rfl rfl) rfl (WL.as rfl rfl (WL.as rfl rfl (WL.as rfl rfl (WL.as rfl rfl (WL.nil ?_)))))))
    refine WE.eH (WL.pv (PV.bY rfl rfl rfl (by omega) (by omega)) rfl (WL.mv rfl rfl (WL.nil ?_)))
    replace H := H.drop (IA := [bI a la, aX]) (by intro p hp; simp at hp ⊢; rcases hp with h | h <;> simp [h])
    exact ⟨i + 1, (by repeat (first | with_reducible exact bQ.refl _ _ | refine bQ.dG rfl ?_ | refine bQ.cC rfl ?_ | refine bQ.cB rfl ?_)), ⟨rfl, by show Value.int .u32 _ = _; rw [aAH]; rfl, rfl, rfl, rfl, rfl, rfl, rfl, rfl, trivial⟩, rfl, ⟨by omega, H⟩, (by omega)⟩
  ·
   try simp only [bU] at aBt
   obtain rfl : i = 64 := by omega
   refine WE.exit (WE.aA (WL.mv rfl rfl (WL.mv rfl rfl (WL.mv rfl rfl (WL.mv rfl rfl (WL.mv rfl rfl (WL.mv rfl rfl ?_)))))))
   refine WL.mv rfl rfl (WL.mv rfl rfl ?_)
   refine WL.pv (PV.eq (v' := .agg (kw (j6 (sched la 48) s 64)).toArray) (PV.mM (l := kw (j6 (sched la 48) s 64)) rfl aAk fS aCz (by rw [← kw8 _ (pE _ s hs 64)]; exact (Fl.cons rfl rfl (by simp only [aR]) (Laid.iV 0 (by simp only [aR]; omega)) (Fl.cons rfl rfl (by simp only [aR]) (Laid.iV 1 (by simp [aO, bA, *])) (Fl.cons rfl rfl (by simp only [aR]) (Laid.iV 2 (by simp [aO, bA, *])) (Fl.cons rfl rfl (by simp only [aR]) (Laid.iV 3 (by simp [aO, bA, *])) (Fl.cons rfl rfl (by simp only [aR]) (Laid.iV 4 (by simp [aO, bA, *])) (Fl.cons rfl rfl (by simp only [aR]) (Laid.iV 5 (by simp [aO, bA, *])) (Fl.cons rfl rfl (by simp only [aR]) (Laid.iV 6 (by simp [aO, bA, *])) (Fl.cons rfl rfl (by simp only [aR]) (Laid.iV 7 (by simp [aO, bA, *])) Fl.nil)))))))))) rfl) rfl ?_
   refine WL.mv rfl rfl (WL.nil (WE.block ?_))
   refine WE.loop (α := Nat) (rg [(22, 2), (178, 14)]) (fun i => [(178, .int .i64 i)]) (fun i wl => i ≤ 8 ∧ St X w wl [aN.blk b 266 (kw (lT s (j6 (sched la 48) s 64) i))] [aN.blk b4 301 (kw (win (sched la 48) (64)))] [bI a la, aX]) (fun i => 8 - i) 0 ⟨rfl, trivial⟩ ⟨Nat.zero_le _, by rw [HU _ _ hs]; exact H⟩ ?_
   intro i γ3 w25 hI
   try dsimp only at hI
   obtain ⟨hi, H⟩ := hI
   refine WE.aA (WL.pv (PV.lss rfl rfl rfl) rfl (WL.nil (WE.seq ?_)))
   refine WE.cond rfl (fun Q0 => ?_) (fun Q0 => ?_)
   ·
    try simp only [bU] at Q0
    have hlt : i < 8 := by omega
    refine WE.skip (WE.seq (WE.block (WE.aA (WL.mv rfl rfl ?_))))
    refine WL.pv (PV.GO (l := kw (j6 (sched la 48) s 64)) rfl aAk fS jY rfl rfl (by omega) (aA5 _ i (by rw [pE _ s hs]; exact hlt))) rfl ?_
    refine WL.as rfl rfl (WL.as rfl rfl (WL.nil ?_))
    refine WE.draw (.take 0 (.take 1 (.take 2 (.take 3 (.take 4 (.take 5 (.take 6 (.take 7 (.take 8 (.aG 9 .done)))))))))) mixed (by kernel_rfl) ?_
    replace H := H.out (Out.drew _)
    refine WP.mv rfl rfl rfl (WP.mv rfl rfl rfl (WP.aC rfl rfl (PV.nilCheck rfl rfl) (WP.aC rfl rfl (PV.cF rfl oT fS rfl rfl (by omega) (by omega)) ?_)))
    refine WP.aQ rfl rfl (RV.aZ rfl jY rfl) (aM.aF (H.o 0 rfl) (aJ.word i (by rw [gU]; exact hlt)) (by simp)) ?_
    refine WP.mv rfl rfl rfl (WP.aC rfl rfl (PV.kX rfl rfl rfl) (WP.aC rfl rfl (PV.nilCheck rfl rfl) (WP.aC rfl rfl (PV.cF rfl oT fS rfl rfl (by omega) (by omega)) (WP.aG rfl ?_))))
    refine WL.kZ H 0 rfl rfl rfl (new := _) rfl (by exact fS) (bE _ rfl) (Laid.at (Laid.iV i (by rw [gU]; exact hlt)) (by simp)) rfl ?_
    intro w26 H
    refine WL.nil ⟨(fa (nw 9 4) c5), ?_⟩
    refine WP.done (WE.eH (WL.pv (PV.bY rfl rfl rfl (by omega) (by omega)) rfl (WL.mv rfl rfl (WL.nil ?_))))
    have e := M0 s (j6 (sched la 48) s 64) i hs (pE _ s hs 64) hlt
    exact ⟨i + 1, (by repeat (first | with_reducible exact bQ.refl _ _ | refine bQ.dG rfl ?_ | refine bQ.cC rfl ?_ | refine bQ.cB rfl ?_)), ⟨rfl, trivial⟩, rfl, ⟨by omega, by rw [← e]; exact H⟩, (by omega)⟩
   ·
    try simp only [bU] at Q0
    obtain rfl : i = 8 := by omega
    refine WE.exit ?_
    refine ⟨[], _, .nil _, trivial, ?_⟩
    exact ⟨rfl, H.cL, H.o 0 rfl⟩
def aBS (v : Value) (i : Nat) (xs : List Value) (_ : World) : Prop := xs = [mF v 1 (64 * i) (64 * i + 64)]
theorem IF {C : Nat → Prop} {w : World} {bs bn n : Nat} {v : Value} {l : List UInt8} (hC : ∀ b, C b → b < w.heap.size) (bT : aH C (bI v l) w) (dA : aH C (fun w => cX w ⟨bs, 0, none⟩ [v]) w) (fN : aH C (fun w => cX w ⟨bn, 0, none⟩ [.int .i64 64]) w) (hl : l.length = 64 * n) (hlm : l.length ≤ 2000000000) : XZ prog 193 [] [.pointer (some ⟨bs, 0, none⟩), .pointer (some ⟨bn, 0, none⟩)] (n) (aBS v) Nil C w := by
 intro f J Jx hst pL aBd mG hf
 show bF prog 193 ([f, .pointer (some ⟨bs, 0, none⟩), .pointer (some ⟨bn, 0, none⟩)] : List Value).toArray w _
 refine bF.aI (N := 31) func193 rfl rfl (by simp) ?_
 have H := (((St.begin (X := C) hC).add (cE fN)).add (cE dA)).add (cE bT)
 refine WE.aA (WL.as rfl rfl (WL.nil (WE.block ?_)))
 refine WE.loop (α := Nat) (rg [(4, 27)]) (fun k => [(4, .int .i64 ((64 * k : Nat) : Int))]) (fun k wl => k ≤ n ∧ J Nil k wl ∧ St C wl wl [] [] [bI v l, fun w => cX w ⟨bs, 0, none⟩ [v], fun w => cX w ⟨bn, 0, none⟩ [.int .i64 64]]) (fun k => n - k) 0 ⟨rfl, trivial⟩ ⟨Nat.zero_le _, hst Nil w (Out.refl _ _) (fun _ h => h.elim) (fun _ h => h), H⟩ ?_
 intro k γ0 w1 hI
 try dsimp only at hI
 obtain ⟨NJ, hJ, H⟩ := hI
 have BO : ∃ FY, FY = w1 := ⟨_, rfl⟩
 obtain ⟨FY, BO⟩ := BO
 rw [← BO] at hJ H ⊢
 clear BO
 refine WE.seq (WE.aA (WL.mv rfl rfl (WL.aY rfl eN rfl rfl (H.p 1 rfl) (WL.pv (PV.dO (H.p 0 rfl) eW rfl) rfl (WL.pv (PV.lss rfl rfl rfl) rfl (WL.nil ?_))))))
 refine WE.cond rfl (fun wY => ?_) (fun wY => ?_)
 ·
  try simp only [bU] at wY
  have hlt : k < n := by omega
  refine WE.skip (WE.seq (WE.block ?_))
  refine WE.bG (.take 0 (.take 1 (.take 2 (.take 3 (.take 4 (.take 5 (.take 6 .done))))))) mixed (by kernel_rfl) ?_
  replace H := H.out (Out.drew _)
  refine WP.aQ rfl rfl (RV.aZ rfl oZ rfl) (H.p 2 rfl) (WP.aQ rfl rfl (RV.aZ rfl eN rfl) (H.p 1 rfl) (WP.mv rfl rfl rfl ?_))
  refine WP.aC rfl rfl (PV.eq (v' := iR v 1 (64 * k) l.length) (PV.p9 rfl (H.p 0 rfl) eW gY rfl rfl (by omega) (by omega)) (by congr 1)) ?_
  refine WP.aC rfl rfl (PV.eq (v' := .int .i64 ((l.length - 64 * k : Nat) : Int)) (PV.dO (bI.sub (lo := 64 * k) (hi := l.length) (H.p 0 rfl) (by omega) (Nat.le_refl _)) eW rfl) (by simp)) ?_
  refine WP.aC rfl rfl (PV.eq (v' := .int .i64 64) (PV.aA3 rfl rfl) (by congr 1; omega)) ?_
  refine WP.as rfl rfl rfl (WP.done (WE.aA (WL.mv rfl rfl (WL.aY rfl eN rfl rfl (H.p 1 rfl) (WL.mv rfl rfl (WL.mv rfl rfl (WL.mv rfl rfl ?_)))))))
  refine WL.pv (PV.bY rfl rfl rfl (by omega) (by omega)) rfl (WL.mv rfl rfl (WL.mv rfl rfl (WL.pv (PV.bY rfl rfl rfl (by omega) (by omega)) rfl ?_)))
  refine WL.pv (PV.eq (v' := mF v 1 (64 * k) (64 * k + 64)) (PV.aAM rfl (H.p 0 rfl) eW gY rfl rfl rfl rfl (by omega) (by omega)) (by congr 1)) rfl ?_
  refine WL.iK rfl rfl (mG Nil k _ FY _ (by omega) hJ H.aL (aH.pure rfl)) ?_
  rintro _ w2 ⟨hk, ⟨rfl, hJ⟩ | ⟨rfl, hJ⟩⟩
  ·
   replace H := St.HQ (Ps := [bI v l, fun w => cX w ⟨bs, 0, none⟩ [v], fun w => cX w ⟨bn, 0, none⟩ [.int .i64 64]]) hC hk (fun _ h => h.elim) (by intro p hp; simp at hp; rcases hp with rfl | rfl | rfl <;> assumption)
   refine WL.pv (PV.not rfl rfl) rfl (WL.nil (WE.iJ rfl (WE.skip (WE.eH (WL.mv rfl rfl (WL.aY rfl oZ rfl rfl (H.p 2 rfl) (WL.pv (PV.bY rfl rfl rfl (by omega) (by omega)) rfl ?_)))))))
   refine WL.as rfl rfl (WL.nil ?_)
   exact ⟨k + 1, (by repeat (first | with_reducible exact bQ.refl _ _ | refine bQ.dG rfl ?_ | refine bQ.cC rfl ?_ | refine bQ.cB rfl ?_)), ⟨rfl, trivial⟩, rfl, ⟨by omega, hJ, H⟩, (by omega)⟩
  ·
   refine WL.pv (PV.not rfl rfl) rfl (WL.nil (WE.kG rfl (WE.ret ?_)))
   refine ⟨[], _, .nil _, trivial, ?_⟩
   exact ⟨rfl, Nil, .inr hJ⟩
 ·
  try simp only [bU] at wY
  obtain rfl : k = n := by omega
  refine WE.exit ?_
  refine ⟨[], _, .nil _, trivial, ?_⟩
  exact ⟨rfl, Nil, .inl (pL _ _ _ _ hJ H.aL)⟩
theorem YC {X : Nat → Prop} {w : World} {v : Value} {l : List UInt8} (hX : cU X w) (bT : aH X (bI v l) w) :
  bF prog 161 [v, .int .i64 64].toArray w fun r w' => ∃ bs bn, r = .func (.func 193) [].toArray [.pointer (some ⟨bs, 0, none⟩), .pointer (some ⟨bn, 0, none⟩)].toArray ∧ Out Nil w w' ∧ aH X (fun w => cX w ⟨bs, 0, none⟩ [v]) w' ∧ aH X (fun w => cX w ⟨bn, 0, none⟩ [.int .i64 64]) w' := by
 refine bF.aI (N := 9) func161 rfl rfl (by simp) ?_
 have H := (St.begin hX).add (cE bT)
 refine WE.aA ?_
 refine WL.box (l := [v]) H rfl (by exact cR.cells (H.p 0 rfl)) rfl ?_
 intro b2 w1 H
 refine WL.box (l := _) H rfl rfl rfl ?_
 intro b3 w2 H
 refine WL.as rfl rfl (WL.nil (WE.seq (WE.aA (WL.aY rfl oZ rfl rfl (aM.aF (H.l 0 rfl) (aJ.all _) rfl) (WL.pv (PV.lss rfl rfl rfl) rfl (WL.nil ?_))))))
 refine WE.bB rfl (by decide) ?_
 refine WE.skip (WE.aA (WL.pv (PV.makeFunc rfl) rfl (WL.as rfl rfl (WL.nil (WE.ret ⟨[_], _, .nil _, ⟨rfl, trivial⟩, ?_⟩)))))
 replace H := (H.freeze (i := 0) rfl).freeze (i := 0) rfl
 exact ⟨b2, b3, rfl, H.aL, H.gQ ((H.bK 0 rfl).imp fun _ h => h.rd), H.gQ ((H.bK 1 rfl).imp fun _ h => h.rd)⟩
theorem aGv {X : Nat → Prop} {w : World} {a : Value} {la : List UInt8} (hX : cU X w) (bT : aH X (bI a la) w) (dA : aH X (aX) w) (wV : la.length ≤ 1000000000) :
  bF prog 109 [a].toArray w fun v w' => v = .agg (kc (cN la)).toArray ∧ Out Nil w w' := by
 refine bF.aI (N := 34) func109 rfl rfl (by simp) ?_
 have H := ((St.begin hX).add (cE dA)).add (cE bT)
 have aJw := O8 la
 have vB := oA la
 have aHg : zc la.length < 64 := by unfold zc; omega
 refine WE.aA ?_
 refine WL.alloc H rfl mQ rfl ?_
 intro b2 w1 H
 refine WL.nil (WE.aA ?_)
 refine WL.call aFq rfl (US  H.aS  ) ?_
 rintro _ w2 ⟨rfl, hO⟩
 replace H := H.out hO
 refine WL.alloc H rfl NN rfl ?_
 intro b3 w3 H
 refine WL.aT H 0 rfl rfl rfl (new := _) rfl (by exact N7) (PX _) (Laid.at (Laid.all (by simp only [aR])) rfl) rfl ?_
 intro w4 H
 refine WL.nil (WE.aA ?_)
 refine WL.pv (PV.eq (v' := .func (.func 160) [.pointer (some ⟨b3, 0, none⟩)].toArray [].toArray) (PV.makeFunc rfl) rfl) rfl ?_
 refine WL.alloc H rfl aCy rfl ?_
 intro b4 w5 H
 refine WL.aT H 0 rfl rfl rfl (new := _) rfl (by exact aCN) (bE _ rfl) (Laid.at (Laid.all (by simp only [aR])) rfl) rfl ?_
 intro w6 H
 refine WL.nil (WE.seq (WE.aA (WL.mv rfl rfl ?_)))
 refine WL.call aFm rfl (aGy (la := la) H.aS (H.bK 0 rfl) wV) ?_
 rintro v11 w7 ⟨hO, hR⟩
 replace H := (H.out hO).add hR
 refine WL.call aFn rfl (YC  H.aS (by exact H.bK 0 rfl) ) ?_
 rintro _ w8 ⟨bs, bn, rfl, hO, G1, EF⟩
 replace H := ((H.out hO).add EF).add G1
 refine WL.nil (WE.block ?_)
 replace H := H.A8
 refine WE.A6 (α := Unit) (fun i _ => True) (fun i _ => []) (fun i _ => [aN.blk b4 268 [.func (.func 160) [.pointer (some ⟨b3, 0, none⟩)].toArray [].toArray], aN.blk b3 266 (kw (qC (gG la) i)), aN.blk b2 30 (kc (List.replicate 32 0))]) (fun i _ => [fun w => cX w ⟨bs, 0, none⟩ [v11], fun w => cX w ⟨bn, 0, none⟩ [.int .i64 64], bI v11 (gG la), bI a la, aX]) (fun _ _ => False) (fun _ _ => []) (fun _ _ => []) (fun _ _ => []) () H rfl aFa (fun W0 hO => IF (n := (gG la).length / 64) (H.XE hO) (H.xM hO 2 rfl) (H.xM hO 0 rfl) (H.xM hO 1 rfl) (by omega) (by omega)) (by intro _ _ _ h; rw [h]; rfl) ⟨trivial, rfl, rfl, rfl⟩ ?_ ?_ ?_
 ·
  intro i _ xs_ l_ d_ o_ T_ sc_ w9 iT zU Q2
  obtain rfl := Q2
  refine WE.eH (WL.as rfl rfl (WL.nil ?_))
  refine ⟨rfl, rfl, rfl, ?_⟩
  intro vR H
  refine WE.block (WE.eH (WL.aY rfl aGm rfl rfl (aM.aF (H.l 0 rfl) (aJ.all _) rfl) (WL.mv rfl rfl ?_)))
  refine WL.qM aFo rfl rfl (aAG (b := b3) (s := qC (gG la) i) (la := ((gG la).drop (64 * i)).take (64 * i + 64 - 64 * i)) H.aS (H.l 1 rfl) ((H.fM 1 rfl 3 rfl).imp fun _ h => bI.K8 h (by omega) (by omega)) (H.fM 1 rfl 5 rfl) (by simp; omega) (rU _ _)) ?_
  rintro _ y8 ⟨rfl, hO, hB⟩
  replace H := H.called 1 rfl hO hB
  refine WL.nil ?_
  replace H := H.conv (L' := [aN.blk b4 268 [.func (.func 160) [.pointer (some ⟨b3, 0, none⟩)].toArray [].toArray], aN.blk b3 266 (kw (qC (gG la) (i + 1))), aN.blk b2 30 (kc (List.replicate 32 0)), aN.obj l_ o_, aN.obj d_ (.deferred (some [])), aN.sn T_ vR]) (by rw [show 64 * i + 64 - 64 * i = 64 by omega]; rfl)
  replace H := H.drop (fun p hp => List.mem_cons_of_mem _ hp)
  exact ⟨(), trivial, H⟩
 ·
  intro _ W7 IQ zU H
  refine WE.aA ?_
  refine WL.alloc H rfl mQ rfl ?_
  intro b6 FP H
  refine WL.nil (WE.seq (WE.aA (WL.mv rfl rfl (WL.nil (WE.block ?_)))))
  have hS := rU (gG la) ((gG la).length / 64)
  refine WE.loop (α := Nat) (rg [(7, 1), (17, 16)]) (fun k => [(17, .int .i64 k)]) (fun k wl => k ≤ 32 ∧ St X w wl [] [aN.blk b6 30 (kc (qL 32 k (qF (qC (gG la) ((gG la).length / 64))))), aN.obj W7 (.deferred (some [])), aN.blk b4 268 [.func (.func 160) [.pointer (some ⟨b3, 0, none⟩)].toArray [].toArray], aN.blk b3 266 (kw (qC (gG la) ((gG la).length / 64))), aN.blk b2 30 (kc (List.replicate 32 0))] [fun w => cX w ⟨bs, 0, none⟩ [v11], fun w => cX w ⟨bn, 0, none⟩ [.int .i64 64], bI v11 (gG la), bI a la, aX]) (fun k => 32 - k) 0 ⟨rfl, trivial⟩ ⟨Nat.zero_le _, by rw [G4]; exact H⟩ ?_
  intro k γ0 K2 hI
  try dsimp only at hI
  obtain ⟨hi, H⟩ := hI
  refine WE.aA (WL.pv (PV.lss rfl rfl rfl) rfl (WL.nil (WE.seq ?_)))
  refine WE.cond rfl (fun q4 => ?_) (fun q4 => ?_)
  ·
   try simp only [bU] at q4
   have L2 : k < 32 := by omega
   refine WE.skip (WE.seq (WE.block (WE.aA (WL.mv rfl rfl (WL.as rfl rfl (WL.nil (WE.eH ?_)))))))
   refine WL.mv rfl rfl (WL.mv rfl rfl ?_)
   refine WL.pv (PV.eq (v' := .int .i64 ((k / 4 : Nat) : Int)) (PV.zD rfl rfl rfl (by omega) (by omega) (by omega)) rfl) rfl ?_
   refine WL.pv (PV.cF rfl oT fS rfl rfl (by omega) (by omega)) rfl ?_
   refine WL.aY rfl jY rfl rfl (aM.aF (H.l 3 rfl) (aJ.word (k / 4) (by rw [hS]; omega)) (by omega)) ?_
   refine WL.mv rfl rfl (WL.pv (PV.eq (v' := .int .i64 ((k % 4 : Nat) : Int)) (PV.uJ rfl rfl rfl (by omega) (by omega)) rfl) rfl ?_)
   refine WL.pv (PV.eq (v' := .int .i64 ((8 * (k % 4) : Nat) : Int)) (PV.sA rfl rfl rfl (by omega) (by omega)) rfl) rfl ?_
   refine WL.pv (PV.eq (v' := .int .i64 ((24 - 8 * (k % 4) : Nat) : Int)) (PV.iS rfl rfl rfl (by omega) (by omega)) (by (congr 1; omega))) rfl ?_
   refine WL.pv (PV.C6 (n := 24 - 8 * (k % 4)) rfl rfl rfl (by omega)) rfl (WL.pv (PV.aF5 rfl P5 oW rfl) rfl (WL.pv (PV.cF rfl oN gY rfl rfl (by omega) (by omega)) rfl ?_))
   refine WL.aT H 0 rfl rfl rfl (new := _) rfl (by exact gY) (bE _ rfl) (Laid.at (Laid.AH k (by rw [B1 (by omega) (by rw [oB]; omega)]; omega)) (by simp)) rfl ?_
   intro NY H
   refine WL.nil (WE.eH (WL.pv (PV.bY rfl rfl rfl (by omega) (by omega)) rfl (WL.mv rfl rfl (WL.nil ?_))))
   have e := ME (m := 32) (k := k) (l := qF (qC (gG la) ((gG la).length / 64))) (by omega) (by rw [oB]; omega)
   rw [LK _ _ _ (by rw [hS]; omega)] at e
   exact ⟨k + 1, (by repeat (first | with_reducible exact bQ.refl _ _ | refine bQ.dG rfl ?_ | refine bQ.cC rfl ?_ | refine bQ.cB rfl ?_)), ⟨rfl, trivial⟩, rfl, ⟨by omega, H.conv (by rw [← e]; rfl)⟩, (by omega)⟩
  ·
   try simp only [bU] at q4
   obtain rfl : k = 32 := by omega
   refine WE.exit (WE.aA ?_)
   have e32 := MF (m := 32) (l := qF (qC (gG la) ((gG la).length / 64))) (oB _)
   rw [e32] at H
   refine WL.bC rfl gT rfl rfl (aM.aF (H.l 0 rfl) (aJ.all _) rfl) (by exact dJ) ?_
   refine WL.aT H 4 rfl rfl rfl (new := _) rfl (by exact dJ) (bJ _) (Laid.at (Laid.all rfl) rfl) rfl ?_
   intro TV H
   refine WL.nil (WE.ret ?_)
   (obtain ⟨TU, wW, H⟩ := H.vS 1 rfl)
   refine ⟨[_], _, (wW _ (.nil _)), ⟨⟨_, rfl, aW gT (aM.aF (H.l 3 rfl) (aJ.all _) rfl) (by exact dJ)⟩, trivial⟩, ?_⟩
   exact ⟨rfl, H.aL⟩
 ·
  intro e_ _ W7 TT QN zU H
  exact zU.elim
def lB (x : UInt8) (k : Nat) : UInt8 := UInt8.ofNat (x.toNat / 2 ^ (8 - k) * 2 ^ (8 - k))
def pJ (j q : Nat) : Nat := min (j - 8 * q) 8
def RY (l : List UInt8) (j : Nat) : List UInt8 := (List.range 32).map fun q => lB (l.getD q 0) (pJ j q)
def kI (b : Int) : Nat := (min (max b 0) 256).toNat
def dP (l : List UInt8) (b : Int) : List UInt8 := RY l (kI b)
theorem jI (l : List UInt8) (j : Nat) : (RY l j).length = 32 := by simp [RY]
theorem cY (l : List UInt8) (b : Int) : (dP l b).length = 32 := jI _ _
theorem yY (x : UInt8) (k : Nat) : (lB x k).toNat = x.toNat / 2 ^ (8 - k) * 2 ^ (8 - k) := by
 have h := Nat.div_mul_le_self x.toNat (2 ^ (8 - k))
 have := x.toNat_lt
 simp [lB]; omega
theorem W8 (l : List UInt8) (j i : Nat) (hi : i < 32) (hl : l.length = 32) : ((List.range 32).map fun q => if q < i then lB (l.getD q 0) (pJ j q) else l.getD q 0).set i (lB (l.getD i 0) (pJ j i)) = (List.range 32).map fun q => if q < i + 1 then lB (l.getD q 0) (pJ j q) else l.getD q 0 := by
 apply List.ext_getElem
 ·
  simp
 ·
  intro q h1 h2
  simp at h2
  rw [List.getElem_set]
  split
  ·
   rename_i h; subst h; simp
  ·
   rename_i h
   simp only [List.getElem_map, List.getElem_range]
   by_cases h3 : q < i
   ·
    rw [if_pos h3, if_pos (by omega)]
   ·
    rw [if_neg h3, if_neg (by omega)]
def jA (l : List UInt8) (j i : Nat) : List UInt8 := (List.range 32).map fun q => if q < i then lB (l.getD q 0) (pJ j q) else l.getD q 0
theorem fA (l : List UInt8) (j i : Nat) : (jA l j i).length = 32 := by simp [jA]
theorem B9 (l : List UInt8) (j : Nat) (hl : l.length = 32) : jA l j 0 = l := by
 apply List.ext_getElem
 ·
  rw [fA, hl]
 ·
  intro q h1 h2; simp [jA, h2]
theorem EV (l : List UInt8) (j : Nat) : jA l j 32 = RY l j := by
 unfold jA RY
 apply List.map_congr_left
 intro q hq
 rw [if_pos (by simpa using hq)]
theorem EU (l : List UInt8) (j i : Nat) (hi : i < (jA l j i).length) : (jA l j i)[i] = l.getD i 0 := by simp [jA]
theorem MX : ∀ k : Fin 9, ∀ x : Fin 256, IntKind.u8.wrap ((BitVec.ofInt IntKind.u8.bits (x.val : Int) &&& BitVec.ofInt IntKind.u8.bits (IntKind.u8.wrap (255 * 2 ^ (min ((8 : Int) - (k.val : Int)).toNat IntKind.u8.bits)))).toNat) = ((x.val / 2 ^ (8 - k.val) * 2 ^ (8 - k.val) : Nat) : Int) := by decide +kernel
theorem SO (x : UInt8) (k : Nat) (hk : k ≤ 8) (z : Int) (hz : z = 8 - (k : Int)) : IntKind.u8.wrap ((BitVec.ofInt IntKind.u8.bits (x.toNat : Int) &&& BitVec.ofInt IntKind.u8.bits (IntKind.u8.wrap (255 * 2 ^ (min z.toNat IntKind.u8.bits)))).toNat) = ((lB x k).toNat : Int) := by
 subst hz
 rw [yY]
 exact MX ⟨k, by omega⟩ ⟨x.toNat, x.toNat_lt⟩
def bH (l : List UInt8) (i : Nat) : Nat := (l.getD (i / 8) 0).toNat / 2 ^ (7 - i % 8) % 2
def MS (l : List UInt8) (i : Int) : Int := if i < 0 ∨ 255 < i then -1 else (bH l i.toNat : Int)
theorem aD4 (b t : Nat) : ((b / 2 ^ t : Nat) : Int) / 2 = ((b / 2 ^ (t + 1) : Nat) : Int) := by
 rw [Nat.pow_succ, ← Nat.div_div_eq_div_mul]; omega
def nI (l : List UInt8) (i : Nat) : List UInt8 := l.set (i / 8) (if bH l i = 0 then UInt8.ofNat ((l.getD (i / 8) 0).toNat + 2 ^ (7 - i % 8)) else UInt8.ofNat ((l.getD (i / 8) 0).toNat - 2 ^ (7 - i % 8)))
theorem eD (l : List UInt8) (i : Nat) : bH l i < 2 := Nat.mod_lt _ (by decide)
theorem aM.R9 {w : World} {b o : Nat} {t : TypeId} {l : List UInt8} (h : aM w b t (kc l)) (i : Nat) (hi : i < l.length) (ho : o = i) : cX w ⟨b, o, none⟩ [.int .u8 ((l.getD i 0).toNat : Int)] := by
 have h1 := aM.aF h (aJ.byte i hi) ho
 rwa [← jT (d := 0)] at h1
def fF (bh bc : Nat) (bits : Int) (w : World) : Prop := cX w ⟨bh, 0, none⟩ [.pointer (some ⟨bc, 0, none⟩), .int .i64 bits]
theorem OW {X : Nat → Prop} {w : World} {l : List UInt8} {i : Int} (hX : cU X w) (hl : l.length = 32) (hi : -9223372036854775808 ≤ i ∧ i ≤ 9223372036854775807) :
  bF prog 107 [.agg (kc l).toArray, .int .i64 i].toArray w fun v w' => v = .int .i64 (MS l i) ∧ Out Nil w w' := by
 refine bF.aI (N := 28) func107 rfl rfl (by simp) ?_
 have H := St.begin hX
 refine WE.aA ?_
 refine WL.box (l := kc l) H rfl rfl rfl ?_
 intro b2 w1 H
 refine WL.as rfl rfl (WL.nil (WE.seq (WE.aA (WL.mv rfl rfl (WL.pv (PV.lss rfl rfl rfl) rfl (WL.mv rfl rfl ?_))))))
 refine WL.split (t := 9) rfl (fun hg9 => ?_) (fun hg9 => ?_)
 ·
  refine WL.known (t := 8) (c := true) rfl hg9 ?_
  try simp only [bU] at hg9
  refine WL.off rfl (WL.off rfl (WL.pv (PV.dB rfl rfl rfl) rfl (WL.nil (WE.kG rfl (WE.aA (WL.as rfl rfl (WL.nil ?_)))))))
  refine WE.ret ⟨[_], _, .nil _, ⟨rfl, trivial⟩, ?_⟩
  refine ⟨?_, H.aL⟩
  rw [MS, if_pos (by omega)]; rfl
 ·
  refine WL.known (t := 8) (c := false) rfl hg9 ?_
  try simp only [bU] at hg9
  refine WL.mv rfl rfl (WL.pv (PV.gtr rfl rfl rfl) rfl (WL.pv (PV.cZ rfl rfl rfl) rfl (WL.nil ?_)))
  refine WE.cond rfl (fun k3 => ?_) (fun k3 => ?_)
  ·
   try simp only [bU] at k3
   refine WE.aA (WL.as rfl rfl (WL.nil (WE.ret ⟨[_], _, .nil _, ⟨rfl, trivial⟩, ?_⟩)))
   refine ⟨?_, H.aL⟩
   rw [MS, if_pos (by omega)]; rfl
  ·
   try simp only [bU] at k3
   obtain ⟨n, rfl⟩ : ∃ n : Nat, i = (n : Int) := ⟨i.toNat, by omega⟩
   have hn : n < 256 := by omega
   have hx := (l.getD (n / 8) 0).toNat_lt
   refine WE.skip (WE.aA (WL.mv rfl rfl (WL.pv (PV.zD rfl rfl rfl (by omega) (by omega) (by omega)) rfl (WL.pv (PV.cF rfl gM gY rfl rfl (by omega) (by omega)) rfl (WL.aY rfl CE rfl rfl (aM.R9 (H.l 0 rfl) (n / 8) (by omega) (by omega)) (WL.pv (PV.mL rfl oW yD rfl (by omega) (by omega)) rfl (WL.as rfl rfl ?_)))))))
   refine WL.nil (WE.seq (WE.aA (WL.mv rfl rfl (WL.pv (PV.uJ rfl rfl rfl (by omega) (by omega)) rfl (WL.as rfl rfl (WL.nil (WE.block ?_)))))))
   refine WE.loop (α := Nat) (rg [(5, 2), (20, 6)]) (fun j => [(6, .int .i64 j), (5, .int .i64 (((l.getD (n / 8) 0).toNat / 2 ^ (j - n % 8) : Nat) : Int))]) (fun j wl => n % 8 ≤ j ∧ j ≤ 7 ∧ St X w wl [] [aN.blk b2 24 (kc l)] []) (fun j => 7 - j) (n % 8) ⟨rfl, by show Value.int .i64 _ = _; rw [Nat.sub_self, Nat.pow_zero, Nat.div_one], trivial⟩ ⟨Nat.le_refl _, by omega, H⟩ ?_
   intro j γ0 w2 hI
   try dsimp only at hI
   obtain ⟨hj0, hj7, H⟩ := hI
   refine WE.seq (WE.aA (WL.mv rfl rfl (WL.pv (PV.lss rfl rfl rfl) rfl (WL.nil ?_))))
   refine WE.cond rfl (fun oF => ?_) (fun oF => ?_)
   ·
    try simp only [bU] at oF
    have hlt : j < 7 := by omega
    refine WE.skip (WE.seq (WE.block (WE.eH (WL.mv rfl rfl ?_))))
    refine WL.pv (PV.eq (v' := .int .i64 (((l.getD (n / 8) 0).toNat / 2 ^ (j + 1 - n % 8) : Nat) : Int)) (PV.zD rfl rfl rfl (by generalize (l.getD (n / 8) 0).toNat / 2 ^ (j - n % 8) = Q; omega) (by have h2 := Nat.div_le_self (l.getD (n / 8) 0).toNat (2 ^ (j - n % 8)); generalize (l.getD (n / 8) 0).toNat / 2 ^ (j - n % 8) = Q at *; omega) (by omega)) (by rw [aD4, show j + 1 - n % 8 = (j - n % 8) + 1 by omega])) rfl ?_
    refine WL.as rfl rfl (WL.nil (WE.eH (WL.mv rfl rfl (WL.pv (PV.bY rfl rfl rfl (by omega) (by omega)) rfl (WL.as rfl rfl (WL.nil ?_))))))
    exact ⟨j + 1, (by repeat (first | with_reducible exact bQ.refl _ _ | refine bQ.dG rfl ?_ | refine bQ.cC rfl ?_ | refine bQ.cB rfl ?_)), ⟨rfl, rfl, trivial⟩, rfl, ⟨by omega, by omega, H⟩, (by omega)⟩
   ·
    try simp only [bU] at oF
    obtain rfl : j = 7 := by omega
    refine WE.exit (WE.aA (WL.mv rfl rfl (WL.pv (PV.aDc rfl rfl rfl (by omega)) rfl (WL.as rfl rfl (WL.nil (WE.ret ⟨[_], _, .nil _, ⟨rfl, trivial⟩, ?_⟩))))))
    refine ⟨?_, H.aL⟩
    rw [MS, if_neg (by omega)]
    show Value.int .i64 _ = _
    rw [Int.toNat_natCast]; rfl
theorem X1 {X : Nat → Prop} {w : World} {i : Int} (hX : cU X w) :
  bF prog 28 [.int .i64 i].toArray w fun v w' => v = .bool (decide (0 ≤ i ∧ i ≤ 256)) ∧ Out Nil w w' := by
 refine bF.aI (N := 9) func28 rfl rfl (by simp) ?_
 have H := St.begin hX
 refine WE.aA (WL.as rfl rfl (WL.nil (WE.aA (WL.mv rfl rfl (WL.pv (PV.geq rfl rfl rfl) rfl (WL.mv rfl rfl ?_))))))
 refine WL.split (t := 5) rfl (fun QI => ?_) (fun QI => ?_)
 ·
  refine WL.known (t := 4) (c := true) rfl QI ?_
  try simp only [bU] at QI
  refine WL.mv rfl rfl (WL.pv (PV.leq rfl rfl rfl) rfl (WL.pv (PV.dB rfl rfl rfl) rfl (WL.as rfl rfl (WL.nil (WE.ret ⟨[_], _, .nil _, ⟨rfl, trivial⟩, ?_⟩)))))
  refine ⟨?_, H.aL⟩
  show Value.bool _ = _
  congr 1
  (rw [decide_eq_decide]; omega)
 ·
  refine WL.known (t := 4) (c := false) rfl QI ?_
  try simp only [bU] at QI
  refine WL.off rfl (WL.off rfl (WL.pv (PV.cZ rfl rfl rfl) rfl (WL.as rfl rfl (WL.nil (WE.ret ⟨[_], _, .nil _, ⟨rfl, trivial⟩, ?_⟩)))))
  refine ⟨?_, H.aL⟩
  show Value.bool _ = _
  congr 1
  (symm; exact decide_eq_false (by omega))
theorem aGL {X : Nat → Prop} {w : World} {l : List UInt8} {i : Int} (hX : cU X w) (hl : l.length = 32) (hi : -9223372036854775808 ≤ i ∧ i ≤ 9223372036854775807) :
  bF prog 108 [.agg (kc l).toArray, .int .i64 i].toArray w fun v w' => v = .agg (kc (dP l i)).toArray ∧ Out Nil w w' := by
 refine bF.aI (N := 29) func108 rfl rfl (by simp) ?_
 have H := St.begin hX
 have hc : ((kI i : Nat) : Int) = min (max i 0) 256 := by unfold kI; omega
 refine WE.aA ?_
 refine WL.box (l := kc l) H rfl rfl rfl ?_
 intro b2 w1 H
 refine WL.alloc H rfl mQ rfl ?_
 intro b4 w2 H
 refine WL.nil (WE.aA (WL.mv rfl rfl (WL.pv (PV.aDs rfl rfl) rfl ?_)))
 refine WL.pv (PV.eq (v' := .int .i64 ((kI i : Nat) : Int)) (PV.aA3 rfl rfl) (by rw [hc])) rfl ?_
 refine WL.as rfl rfl (WL.nil (WE.seq (WE.aA (WL.mv rfl rfl (WL.nil (WE.block ?_))))))
 refine WE.loop (α := Nat) (rg [(5, 2), (10, 18)]) (fun q => [(10, .int .i64 q)]) (fun q wl => q ≤ 32 ∧ St X w wl [] [aN.blk b4 30 (kc (List.replicate 32 0)), aN.blk b2 30 (kc (jA l (kI i) q))] []) (fun q => 32 - q) 0 ⟨rfl, trivial⟩ ⟨Nat.zero_le _, by rw [B9 _ _ hl]; exact H⟩ ?_
 intro q γ0 w3 hI
 try dsimp only at hI
 obtain ⟨hq, H⟩ := hI
 have hcp := fA l (kI i) q
 have hk8 : pJ (kI i) q ≤ 8 := by unfold pJ; omega
 refine WE.aA (WL.pv (PV.lss rfl rfl rfl) rfl (WL.nil (WE.seq ?_)))
 refine WE.cond rfl (fun kD => ?_) (fun kD => ?_)
 ·
  try simp only [bU] at kD
  have hlt : q < 32 := by omega
  refine WE.skip (WE.seq (WE.block (WE.aA (WL.mv rfl rfl (WL.as rfl rfl (WL.nil (WE.aA ?_)))))))
  refine WL.mv rfl rfl (WL.mv rfl rfl (WL.pv (PV.sA rfl rfl rfl (by omega) (by omega)) rfl (WL.pv (PV.iS rfl rfl rfl (by omega) (by omega)) rfl (WL.pv (PV.aDs rfl rfl) rfl ?_))))
  refine WL.pv (PV.eq (v' := .int .i64 ((pJ (kI i) q : Nat) : Int)) (PV.aA3 rfl rfl) (by congr 1; unfold pJ; omega)) rfl ?_
  refine WL.as rfl rfl (WL.nil ?_)
  refine WE.draw (.take 0 (.take 1 (.take 2 (.take 3 (.take 4 (.take 5 (.take 6 (.take 7 (.aG 8 .done))))))))) mixed (by kernel_rfl) ?_
  replace H := H.out (Out.drew _)
  refine WP.mv rfl rfl rfl (WP.aC rfl rfl (PV.cF rfl oN gY rfl rfl (by omega) (by omega)) ?_)
  refine WP.aQ rfl rfl (RV.aZ rfl CE rfl) (by have h1 := aM.aF (o' := 0 + (q : Int).toNat * 1) (H.l 1 rfl) (aJ.byte q (by rw [fA]; exact hlt)) (by omega); rw [EU] at h1; exact h1) ?_
  refine WP.mv rfl rfl rfl (WP.aC rfl rfl (PV.iS rfl rfl rfl (by omega) (by omega)) (WP.aC rfl rfl (PV.UW rfl rfl rfl (by omega)) ?_))
  refine WP.aC rfl rfl (PV.eq (v' := .int .u8 ((lB (l.getD q 0) (pJ (kI i) q)).toNat : Int)) (PV.HP rfl rfl rfl) (congrArg (Value.int .u8) (SO _ _ (by unfold pJ; omega) _ rfl))) ?_
  refine WP.aC rfl rfl (PV.cF rfl oN gY rfl rfl (by omega) (by omega)) (WP.aG rfl ?_)
  refine WL.aT H 1 rfl rfl rfl (new := _) rfl (by exact gY) (bE _ rfl) (Laid.at (Laid.AH q (by rw [fA]; exact hlt)) (by simp)) rfl ?_
  intro w4 H
  refine WL.nil ⟨(fa (nw 8 2) c5), ?_⟩
  refine WP.done (WE.eH (WL.pv (PV.bY rfl rfl rfl (by omega) (by omega)) rfl (WL.mv rfl rfl (WL.nil ?_))))
  replace H := H.conv (L' := [aN.blk b4 30 (kc (List.replicate 32 0)), aN.blk b2 30 (kc (jA l (kI i) (q + 1)))]) (by rw [show (jA l (kI i) q).set q _ = _ from W8 l (kI i) q hlt hl]; rfl)
  exact ⟨q + 1, (by repeat (first | with_reducible exact bQ.refl _ _ | refine bQ.dG rfl ?_ | refine bQ.cC rfl ?_ | refine bQ.cB rfl ?_)), ⟨rfl, trivial⟩, rfl, ⟨by omega, H⟩, (by omega)⟩
 ·
  try simp only [bU] at kD
  obtain rfl : q = 32 := by omega
  refine WE.exit (WE.aA ?_)
  rw [EV] at H
  have pU := jI l (kI i)
  refine WL.bC rfl gT rfl rfl (aM.aF (H.l 1 rfl) (aJ.all _) rfl) (by exact dJ) ?_
  refine WL.aT H 0 rfl rfl rfl (new := _) rfl (by exact dJ) (bJ _) (Laid.at (Laid.all (by simp only [aR, cY, jI, fA, iL])) rfl) rfl ?_
  intro w5 H
  refine WL.nil (WE.ret ⟨[_], _, .nil _, ⟨⟨_, rfl, aW gT (aM.aF (H.l 0 rfl) (aJ.all _) rfl) (by exact dJ)⟩, trivial⟩, ?_⟩)
  exact ⟨rfl, H.aL⟩
theorem aGB {X : Nat → Prop} {w : World} {i : Int} (hX : cU X w) (bR : 0 ≤ i ∧ i ≤ 256) :
  bF prog 70 [.int .i64 i].toArray w fun v w' => ∃ bh bc, v = .tuple [.pointer (some ⟨bh, 0, none⟩), .int .i64 0].toArray ∧ Out Nil w w' ∧ w.heap.size ≤ bc ∧ aM w' bc 213 [.int .i64 0] ∧ aH (fun c => X c ∨ c = bc) (fF bh bc i) w' := by
 refine bF.aI (N := 15) func70 rfl rfl (by simp) ?_
 have H := St.begin hX
 refine WE.aA (WL.as rfl rfl (WL.as rfl rfl (WL.nil (WE.seq (WE.aA (WL.mv rfl rfl (WL.pv (PV.lss rfl rfl rfl) rfl ?_)))))))
 refine WL.mv rfl rfl ?_
 refine WL.split (t := 6) rfl (fun hg6 => ?_) (fun hg6 => ?_)
 ·
  refine WL.known (t := 5) (c := true) rfl hg6 ?_
  try simp only [bU] at hg6
  exfalso; omega
 ·
  refine WL.known (t := 5) (c := false) rfl hg6 ?_
  try simp only [bU] at hg6
  refine WL.mv rfl rfl (WL.pv (PV.gtr rfl rfl rfl) rfl (WL.pv (PV.cZ rfl rfl rfl) rfl (WL.nil ?_)))
  refine WE.bB rfl (by simp; omega) ?_
  refine WE.skip (WE.aA (WL.pv (PV.dD rfl aDi aCC Fl.nil) rfl ?_))
  refine WL.box (l := _) H rfl rfl rfl ?_
  intro XN w1 H
  refine WL.mv rfl rfl ?_
  refine WL.pv (PV.dD rfl aDj aCD (Fl.cons rfl rfl (by simp only [aR, cY, jI, fA, iL]) Laid.head (Fl.cons rfl rfl (by simp only [aR, cY, jI, fA, iL]) (Laid.tail Laid.head rfl) Fl.nil))) rfl ?_
  refine WL.box (l := _) H rfl rfl rfl ?_
  intro uR w2 H
  refine WL.as rfl rfl (WL.as rfl rfl (WL.nil (WE.ret ⟨[_, _], _, .nil _, ⟨rfl, rfl, trivial⟩, ?_⟩)))
  replace H := H.freeze (i := 0) rfl
  exact ⟨_, _, rfl, H.aL, H.jU _ (List.mem_of_getElem? (i := 0) rfl) _ rfl, H.l 0 rfl, (H.Z0 0 rfl).imp fun _ h => h.rd⟩
theorem rH {X : Nat → Prop} {w : World} {bh bc : Nat} {bits n : Int} {a : Value} {la : List UInt8} (hX : cU X w) (eT : aM w bc 213 ([.int .i64 n])) (bT : aH (fun c_ => X c_ ∨ c_ = bc) (fF bh bc bits) w) (dA : aH (fun c_ => X c_ ∨ c_ = bc) (bI a la) w) (fN : aH (fun c_ => X c_ ∨ c_ = bc) (aX) w) (bR : 0 ≤ bits ∧ bits ≤ 256) (wV : la.length ≤ 1000000000) :
  bF prog 68 [.pointer (some ⟨bh, 0, none⟩), a].toArray w fun v w' => v = .agg (kc (dP (cN la) bits)).toArray ∧ Out (· = bc) w w' ∧ aM w' bc 213 [.int .i64 (IntKind.i64.wrap (n + 1))] := by
 refine bF.aI (N := 25) func68 rfl rfl (by simp) ?_
 have H := (((St.c7 (b := bc) (t := 213) (l := [.int .i64 n]) hX eT).add (bX fN)).add (bX dA)).add (bX bT)
 refine WE.aA ?_
 refine WL.alloc H rfl mQ rfl ?_
 intro b4 w1 H
 refine WL.nil (WE.seq (WE.aA (WL.mv rfl rfl (WL.pv (PV.iX rfl aDf rfl rfl) rfl (WL.nil ?_)))))
 refine WE.bB rfl rfl ?_
 refine WE.skip (WE.aA (WL.mv rfl rfl (WL.pv (PV.nilCheck rfl rfl) rfl (WL.pv (PV.fieldAddr rfl WK rfl) rfl ?_))))
 refine WL.aY rfl aGp rfl rfl (by exact cX.at_ (o := 0) (H.p 0 rfl) rfl rfl) ?_
 refine WL.pv (PV.nilCheck rfl rfl) rfl (WL.pv (PV.fieldAddr rfl JW rfl) rfl (WL.aY rfl oZ rfl rfl (aM.aF (H.o 0 rfl) aJ.hd rfl) (WL.pv (PV.HT rfl rfl rfl) rfl (WL.pv (PV.nilCheck rfl rfl) rfl (WL.pv (PV.fieldAddr rfl JW rfl) rfl ?_)))))
 refine WL.kZ H 0 rfl rfl rfl (new := _) rfl (by exact sz3) (bE _ rfl) (Laid.at Laid.head rfl) rfl ?_
 intro w2 H
 refine WL.nil ?_
 refine WE.bG (.take 0 (.take 2 (.take 3 (.take 4 (.take 5 (.aG 1 (.aG 6 (.aG 7 .done)))))))) mixed (by kernel_rfl) ?_
 replace H := H.out (Out.drew _)
 refine WP.mv rfl rfl rfl (WP.mv rfl rfl rfl (WP.aC rfl rfl (PV.nilCheck rfl rfl) (WP.aC rfl rfl (PV.fieldAddr rfl WJ rfl) ?_)))
 refine WP.aQ rfl rfl (RV.aZ rfl oZ rfl) (by exact cX.at_ (o := 1) (H.p 0 rfl) rfl rfl) ?_
 refine WP.aG rfl ?_
 refine WL.call aFT rfl (aGv (la := la) H.aS (H.bK 1 rfl) (H.bK 2 rfl) wV) ?_
 rintro _ w3 ⟨rfl, hO⟩
 replace H := H.out hO
 refine WL.nil ⟨(fa (rk hO) c5), ?_⟩
 refine WP.aG rfl ?_
 refine WL.call aFU rfl (aGL (l := cN la) (i := bits) H.aS (iL _) (by omega)) ?_
 rintro _ w4 ⟨rfl, hO⟩
 replace H := H.out hO
 refine WL.nil ⟨(fa (nw 6 5) c5), ?_⟩
 refine WP.aG rfl ?_
 refine WL.aT H 0 rfl rfl rfl (new := _) rfl (by exact dJ) (bJ _) (Laid.at (Laid.all (by simp only [aR, cY, jI, fA, iL])) rfl) rfl ?_
 intro w5 H
 refine WL.nil ⟨(fa (nw 7 5) c5), ?_⟩
 refine WP.done (WE.ret ⟨[_], _, .nil _, ⟨⟨_, rfl, aW gT (aM.aF (H.l 0 rfl) (aJ.all _) rfl) (by exact dJ)⟩, trivial⟩, ?_⟩)
 exact ⟨rfl, H.cL, H.o 0 rfl⟩
def num (k : List UInt8) : Nat := k.foldl (fun s x => s * 256 + x.toNat) 0
theorem zW (k : List UInt8) : ∀ a : Nat, k.foldl (fun s x => s * 256 + x.toNat) a = a * 256 ^ k.length + num k := by
 induction k with
 | nil => intro a; simp [num]
 | cons x k ih =>
  intro a
  have e : num (x :: k) = (0 * 256 + x.toNat) * 256 ^ k.length + num k := ih _
  rw [e, List.foldl_cons, ih, List.length_cons, Nat.pow_succ]
  rw [Nat.zero_mul, Nat.zero_add, Nat.add_mul, Nat.add_assoc, Nat.mul_assoc, Nat.mul_comm 256]
theorem kU (x : UInt8) (k : List UInt8) : num (x :: k) = x.toNat * 256 ^ k.length + num k := by
 have h := zW k (0 * 256 + x.toNat)
 rw [Nat.zero_mul, Nat.zero_add] at h
 simpa [num] using h
theorem qW (a b : List UInt8) : num (a ++ b) = num a * 256 ^ b.length + num b := by
 show (a ++ b).foldl _ 0 = _
 rw [List.foldl_append]
 exact zW b _
theorem wM (k : List UInt8) : num k < 256 ^ k.length := by
 induction k with
 | nil => simp [num]
 | cons x k ih =>
  rw [kU, List.length_cons, Nat.pow_succ]
  have hx : x.toNat + 1 ≤ 256 := by have := x.toNat_lt; omega
  calc x.toNat * 256 ^ k.length + num k < x.toNat * 256 ^ k.length + 256 ^ k.length := by omega
   _ = (x.toNat + 1) * 256 ^ k.length := by rw [Nat.add_mul, Nat.one_mul]
   _ ≤ 256 * 256 ^ k.length := Nat.mul_le_mul_right _ hx
   _ = 256 ^ k.length * 256 := Nat.mul_comm _ _
theorem r9 : ∀ (a b : List UInt8), a.length = b.length → num a = num b → a = b := by
 intro a
 induction a with
 | nil => intro b h _; exact (List.eq_nil_of_length_eq_zero h.symm).symm
 | cons x a ih =>
  intro b h hn
  cases b with
  | nil => cases h
  | cons y b =>
   have hl : a.length = b.length := by simpa using h
   rw [kU, kU, hl] at hn
   have h1 := wM a
   have h2 := wM b
   rw [hl] at h1
   have hxy : x.toNat = y.toNat := by
    have e1 : (x.toNat * 256 ^ b.length + num a) / 256 ^ b.length = x.toNat := by
     rw [Nat.mul_comm, Nat.mul_add_div (Nat.pow_pos (by decide)), Nat.div_eq_of_lt h1, Nat.add_zero]
    have e2 : (y.toNat * 256 ^ b.length + num b) / 256 ^ b.length = y.toNat := by
     rw [Nat.mul_comm, Nat.mul_add_div (Nat.pow_pos (by decide)), Nat.div_eq_of_lt h2, Nat.add_zero]
    rw [← e1, ← e2, hn]
   rw [UInt8.toNat_inj.1 hxy, ih b hl (by rw [hxy] at hn; omega)]
theorem XJ (k : List UInt8) (h : k.length = 32) (i : Nat) (hi : i < 256) : bH k i = num k / 2 ^ (255 - i) % 2 := by
 have hq : i / 8 < k.length := by omega
 have e : k = k.take (i / 8) ++ k[i / 8] :: k.drop (i / 8 + 1) := by rw [← List.drop_eq_getElem_cons hq, List.take_append_drop]
 have hn : num k = (num (k.take (i / 8)) * 256 + k[i / 8].toNat) * 256 ^ (31 - i / 8) + num (k.drop (i / 8 + 1)) := by
  have hl : (k.drop (i / 8 + 1)).length = 31 - i / 8 := by simp; omega
  have := qW (k.take (i / 8)) (k[i / 8] :: k.drop (i / 8 + 1))
  rw [← e, kU, List.length_cons, hl, Nat.pow_succ] at this
  rw [this, Nat.add_mul, Nat.mul_assoc, Nat.mul_comm 256, Nat.add_assoc]
 have hd := wM (k.drop (i / 8 + 1))
 rw [show (k.drop (i / 8 + 1)).length = 31 - i / 8 by simp; omega] at hd
 have h8 : (256 : Nat) ^ (31 - i / 8) = 2 ^ (8 * (31 - i / 8)) := by rw [show (256 : Nat) = 2 ^ 8 from rfl, ← Nat.pow_mul]
 have hdiv : num k / 2 ^ (8 * (31 - i / 8)) = num (k.take (i / 8)) * 256 + k[i / 8].toNat := by
  rw [← h8, hn, Nat.mul_comm _ (256 ^ _), Nat.mul_add_div (Nat.pow_pos (by decide)), Nat.div_eq_of_lt hd, Nat.add_zero]
 have aBe : 255 - i = 8 * (31 - i / 8) + (7 - i % 8) := by omega
 rw [aBe, Nat.pow_add, ← Nat.div_div_eq_div_mul, hdiv]
 have aH1 : (256 : Nat) = 2 ^ (7 - i % 8) * (2 ^ (i % 8) * 2) := by
  rw [← Nat.pow_succ, ← Nat.pow_add, show 7 - i % 8 + (i % 8 + 1) = 8 by omega]
 unfold bH
 rw [jT hq]
 have e3 : num (k.take (i / 8)) * 256 + k[i / 8].toNat = 2 ^ (7 - i % 8) * (num (k.take (i / 8)) * (2 ^ (i % 8) * 2)) + k[i / 8].toNat := by
  rw [← Nat.mul_assoc, Nat.mul_comm (2 ^ (7 - i % 8)), Nat.mul_assoc, ← aH1]
 rw [e3, Nat.mul_add_div (Nat.pow_pos (by decide)), ← Nat.mul_assoc, Nat.mul_comm _ 2, Nat.mul_add_mod]
def pre (d : Nat) (k : List UInt8) : Nat := num k / 2 ^ (256 - d)
theorem mV (k : List UInt8) (h : k.length = 32) : pre 0 k = 0 := by
 unfold pre
 apply Nat.div_eq_of_lt
 have := wM k
 rw [h] at this
 exact this
theorem pF (k : List UInt8) : pre 256 k = num k := by simp [pre]
theorem kT (k : List UInt8) (h : k.length = 32) (d : Nat) (hd : d < 256) : pre (d + 1) k = 2 * pre d k + bH k d := by
 unfold pre
 rw [XJ k h d hd, show 256 - d = (255 - d) + 1 by omega, show 256 - (d + 1) = 255 - d by omega, Nat.pow_succ, ← Nat.div_div_eq_div_mul]
 omega
structure En where
 k : List UInt8
 s : Value
 v : List UInt8
def o6 (e : En) : List Value := kc e.k ++ [e.s]
def KL (m : List En) : Prop := ∀ e ∈ m, e.k.length = 32
def bP (m : List En) (d b : Nat) : List En := m.filter fun e => bH e.k d == b
structure Pm (d : Nat) (m : List En) : Prop where
 le : d ≤ 256
 kl : KL m
 MK : m.Pairwise fun a b => num a.k ≠ num b.k
 com : ∀ a ∈ m, ∀ b ∈ m, pre d a.k = pre d b.k
theorem Pm.lt {d : Nat} {m : List En} (h : Pm d m) (h2 : 2 ≤ m.length) : d < 256 := by
 rcases Nat.lt_or_ge d 256 with hlt | hge
 ·
  exact hlt
 ·
  have hd : d = 256 := by have := h.le; omega
  subst hd
  match m, h2 with
  | a :: b :: m, _ =>
   exfalso
   have h1 := (List.pairwise_cons.1 h.MK).1 b (by simp)
   have h3 := h.com a (by simp) b (by simp)
   rw [pF, pF] at h3
   exact h1 h3
theorem Pm.part {d : Nat} {m : List En} (h : Pm d m) (hd : d < 256) (b : Nat) : Pm (d + 1) (bP m d b) where
 le := hd
 kl := fun e he => h.kl e (List.mem_filter.1 he).1
 MK := h.MK.filter _
 com := fun x hx y hy => by
  have hx' := List.mem_filter.1 hx
  have hy' := List.mem_filter.1 hy
  rw [kT _ (h.kl _ hx'.1) d hd, kT _ (h.kl _ hy'.1) d hd, h.com _ hx'.1 _ hy'.1]
  have e1 : bH x.k d = b := by simpa using hx'.2
  have e2 : bH y.k d = b := by simpa using hy'.2
  rw [e1, e2]
theorem mW (m : List En) (d : Nat) : (bP m d 0).length + (bP m d 1).length = m.length := by
 induction m with
 | nil => rfl
 | cons e m ih =>
  have hb := eD e.k d
  have e0 : bP (e :: m) d 0 = if (bH e.k d == 0) = true then e :: bP m d 0 else bP m d 0 := List.filter_cons
  have e1 : bP (e :: m) d 1 = if (bH e.k d == 1) = true then e :: bP m d 1 else bP m d 1 := List.filter_cons
  rw [e0, e1, List.length_cons]
  by_cases h : bH e.k d = 0
  ·
   rw [if_pos (by simp [h]), if_neg (by simp [h]), List.length_cons]; omega
  ·
   have h1 : bH e.k d = 1 := by omega
   rw [if_neg (by simp [h1]), if_pos (by simp [h1]), List.length_cons]; omega
theorem Pm.zero {m : List En} (hk : KL m) (hd : m.Pairwise fun a b => num a.k ≠ num b.k) : Pm 0 m := ⟨by omega, hk, hd, fun a ha b hb => by rw [mV _ (hk a ha), mV _ (hk b hb)]⟩
inductive Sh where
 | nil
 | leaf (k v : List UInt8)
 | inner (l r : Sh)
def Sh.fU : Sh → Nat
 | .nil => 0
 | .leaf _ _ => 1
 | .inner l r => l.fU + r.fU
def Sh.kind : Sh → Int
 | .nil => 0
 | .leaf _ _ => 1
 | .inner _ _ => 2
def mS (bits : Int) (v : List UInt8) : List UInt8 := dP (cN (2 :: v)) bits
def PU (bits : Int) (k v : List UInt8) : List UInt8 := dP (cN (0 :: (k ++ mS bits v))) bits
def uM (bits : Int) (a b : List UInt8) : List UInt8 := dP (cN (1 :: (a ++ b))) bits
def lN (bits : Int) : List UInt8 := dP (cN [3]) bits
def Sh.kN (bits : Int) : Sh → List UInt8
 | .nil => lN bits
 | .leaf k v => PU bits k v
 | .inner l r => uM bits (l.kN bits) (r.kN bits)
theorem fR (bits : Int) (s : Sh) : (s.kN bits).length = 32 := by cases s <;> exact cY _ _
def jX : Sh → Sh → Sh
 | .nil, .inner l r => .inner .nil (.inner l r)
 | .nil, s => s
 | .inner l r, .nil => .inner (.inner l r) .nil
 | s, .nil => s
 | s, t => .inner s t
def EH : Nat → Nat → List En → Sh
 | _, _, [] => .nil
 | _, _, [e] => .leaf e.k e.v
 | 0, _, e :: _ => .leaf e.k e.v
 | n + 1, d, m => .inner (EH n (d + 1) (bP m d 0)) (EH n (d + 1) (bP m d 1))
def grow (d : Nat) (m : List En) : Sh := EH (256 - d) d m
theorem eG (d : Nat) : grow d [] = .nil := by unfold grow; cases 256 - d <;> rfl
theorem dI (d : Nat) (e : En) : grow d [e] = .leaf e.k e.v := by unfold grow; cases 256 - d <;> rfl
theorem jH (d : Nat) (m : List En) (hd : d < 256) (h : 2 ≤ m.length) : grow d m = .inner (grow (d + 1) (bP m d 0)) (grow (d + 1) (bP m d 1)) := by
 unfold grow
 rw [show 256 - d = (256 - (d + 1)) + 1 by omega]
 match m, h with
 | a :: b :: m, _ => rfl
theorem EG {P : Nat → List En → Sh → Prop} (h0 : ∀ d, P d [] .nil) (h1 : ∀ d e, P d [e] (.leaf e.k e.v))
  (h2 : ∀ d m, Pm d m → d < 256 → 2 ≤ m.length → P (d + 1) (bP m d 0) (grow (d + 1) (bP m d 0)) → P (d + 1) (bP m d 1) (grow (d + 1) (bP m d 1)) → P d m (.inner (grow (d + 1) (bP m d 0)) (grow (d + 1) (bP m d 1)))) :
  ∀ (n d : Nat) (m : List En), 256 - d = n → Pm d m → P d m (grow d m) := by
 intro n
 induction n with
 | zero =>
  intro d m hn hp
  match m, hp with
  | [], _ => rw [eG]; exact h0 d
  | [e], _ => rw [dI]; exact h1 d e
  | a :: b :: m, hp => have := hp.lt (by simp); omega
 | succ n ih =>
  intro d m hn hp
  match m, hp with
  | [], _ => rw [eG]; exact h0 d
  | [e], _ => rw [dI]; exact h1 d e
  | a :: b :: m, hp =>
   have hd := hp.lt (by simp)
   rw [jH d _ hd (by simp)]
   exact h2 d _ hp hd (by simp) (ih _ _ (by omega) (hp.part hd 0)) (ih _ _ (by omega) (hp.part hd 1))
theorem nG {d : Nat} {m : List En} (h : Pm d m) : (grow d m).fU = m.length :=
 EG (P := fun _ m s => s.fU = m.length) (fun _ => rfl) (fun _ _ => rfl) (fun d m _ _ _ h0 h1 => by
  show (grow _ _).fU + (grow _ _).fU = _
  rw [h0, h1, mW]) _ d m rfl h
theorem DW {l r : Sh} (h : 2 ≤ l.fU + r.fU) : jX l r = .inner l r := by
 cases l <;> cases r <;> first | rfl | (simp [Sh.fU] at h; done)
 all_goals (simp [Sh.fU] at h)
def aDb (bits : Int) (d : Nat) (m : List En) : List UInt8 := (grow d m).kN bits
theorem pS {a b : List UInt8} (hl : a.length = b.length) (i : Nat) (hi : i < a.length) (hp : a.take i = b.take i) (h : a[i].toNat < (b[i]'(by omega)).toNat) : num a < num b := by
 have hib : i < b.length := by omega
 have ea : a = a.take i ++ a[i] :: a.drop (i + 1) := by rw [← List.drop_eq_getElem_cons hi, List.take_append_drop]
 have eb : b = a.take i ++ b[i] :: b.drop (i + 1) := by rw [hp, ← List.drop_eq_getElem_cons hib, List.take_append_drop]
 have h1 := qW (a.take i) (a[i] :: a.drop (i + 1))
 have h2 := qW (a.take i) (b[i] :: b.drop (i + 1))
 rw [← ea, kU] at h1
 rw [← eb, kU] at h2
 have wV : (a.drop (i + 1)).length = (b.drop (i + 1)).length := by simp; omega
 have h3 := wM (a.drop (i + 1))
 rw [List.length_cons] at h1 h2
 rw [wV] at h1 h3
 rw [h1, h2]
 have h4 : (a[i].toNat + 1) * 256 ^ (b.drop (i + 1)).length ≤ b[i].toNat * 256 ^ (b.drop (i + 1)).length := Nat.mul_le_mul_right _ h
 rw [Nat.add_mul, Nat.one_mul] at h4
 omega
def gN (a b : List UInt8) : Int := if num a < num b then -1 else if num b < num a then 1 else 0
theorem lP {a b : List UInt8} : gN a b < 0 ↔ num a < num b := by
 unfold gN
 by_cases h : num a < num b
 ·
  simp [h]
 ·
  rw [if_neg h]
  by_cases h2 : num b < num a <;> simp [h, h2]
def eX (m : List En) (k : List UInt8) : List En := m.filter fun x => decide (x.k ≠ k)
def ins (e : En) : List En → List En
 | [] => [e]
 | x :: r => if num e.k < num x.k then e :: x :: r else x :: ins e r
def gJ (m : List En) (e : En) : List En := ins e (eX m e.k)
def lD (m : List En) : Prop := m.Pairwise fun a b => num a.k < num b.k
def n9 (e : En) (p : List En × Bool) (x : En) : List En × Bool := if p.2 = false ∧ num e.k < num x.k then (p.1 ++ [e, x], true) else (p.1 ++ [x], p.2)
theorem LG (e : En) : ∀ (l out : List En), l.foldl (n9 e) (out, true) = (out ++ l, true) := by
 intro l
 induction l with
 | nil => intro out; simp
 | cons x l ih =>
  intro out
  rw [List.foldl_cons]
  have : n9 e (out, true) x = (out ++ [x], true) := by simp [n9]
  rw [this, ih]; simp
theorem OY (e : En) : ∀ (l out : List En), cond (l.foldl (n9 e) (out, false)).2 (l.foldl (n9 e) (out, false)).1 ((l.foldl (n9 e) (out, false)).1 ++ [e]) = out ++ ins e l := by
 intro l
 induction l with
 | nil => intro out; simp [ins]
 | cons x l ih =>
  intro out
  rw [List.foldl_cons]
  by_cases h : num e.k < num x.k
  ·
   have : n9 e (out, false) x = (out ++ [e, x], true) := by simp [n9, h]
   rw [this, LG]
   simp [ins, h]
  ·
   have : n9 e (out, false) x = (out ++ [x], false) := by simp [n9, h]
   rw [this, ih]
   simp [ins, h]
theorem JC {e x : En} {l : List En} : x ∈ ins e l ↔ x = e ∨ x ∈ l := by
 induction l with
 | nil => simp [ins]
 | cons y l ih =>
  unfold ins
  split
  ·
   simp
  ·
   simp [ih]; constructor
   ·
    rintro (h | h | h) <;> simp [h]
   ·
    rintro (h | h | h) <;> simp [h]
theorem VT {e : En} {l : List En} (h : lD l) (hn : ∀ x ∈ l, num x.k ≠ num e.k) : lD (ins e l) := by
 induction l with
 | nil => simp [ins, lD]
 | cons y l ih =>
  have h1 := List.pairwise_cons.1 h
  unfold ins
  split
  ·
   rename_i hlt
   refine List.pairwise_cons.2 ⟨fun x hx => ?_, h⟩
   cases List.mem_cons.1 hx with
   | inl e => rw [e]; exact hlt
   | inr hx => exact Nat.lt_trans hlt (h1.1 x hx)
  ·
   rename_i hnl
   refine List.pairwise_cons.2 ⟨fun x hx => ?_, ih h1.2 fun x hx => hn x (List.mem_cons_of_mem _ hx)⟩
   rcases JC.1 hx with rfl | hx
   ·
    have := hn y (by simp); omega
   ·
    exact h1.1 x hx
theorem iO {m : List En} {k : List UInt8} {x : En} : x ∈ eX m k ↔ x ∈ m ∧ x.k ≠ k := by simp [eX]
theorem wE {m : List En} {e : En} (h : lD m) (hk : KL m) (he : e.k.length = 32) : lD (gJ m e) :=
 VT (h.filter _) fun x hx hn => (iO.1 hx).2 (r9 _ _ (by rw [hk x (iO.1 hx).1, he]) hn)
theorem nA {m : List En} {e x : En} : x ∈ gJ m e ↔ x = e ∨ (x ∈ m ∧ x.k ≠ e.k) := by
 unfold gJ; rw [JC, iO]
theorem A7 {m : List En} {e : En} (hk : KL m) (he : e.k.length = 32) : KL (gJ m e) := fun x hx => by
 rcases nA.1 hx with rfl | hx
 ·
  exact he
 ·
  exact hk x hx.1
theorem VV (e : En) (l : List En) : (ins e l).length = l.length + 1 := by
 induction l with
 | nil => rfl
 | cons y l ih => unfold ins; split <;> simp [ih]
theorem DF (m : List En) (e : En) : (gJ m e).length ≤ m.length + 1 := by
 unfold gJ
 rw [VV]
 have : (eX m e.k).length ≤ m.length := List.length_filter_le _ _
 omega
theorem lD.MK {m : List En} (h : lD m) : m.Pairwise fun a b => num a.k ≠ num b.k := h.imp fun h => Nat.ne_of_lt h
theorem kF {e : En} (h : e.k.length = 32) : (o6 e).length = 33 := by simp [o6, aO, h]
theorem WZ (m : List En) (hk : KL m) (i : Nat) (hi : i < m.length) : ((m.flatMap o6).drop (i * 33)).take 33 = o6 m[i] := by
 induction m generalizing i with
 | nil => cases hi
 | cons e m ih =>
  have he := kF (hk e (by simp))
  cases i with
  | zero =>
   rw [Nat.zero_mul, List.drop_zero, List.flatMap_cons, List.take_append_of_le_length (by omega), List.take_of_length_le (by omega)]
   rfl
  | succ i =>
   have := ih (fun x hx => hk x (List.mem_cons_of_mem _ hx)) i (by simpa using hi)
   rw [List.flatMap_cons, show (i + 1) * 33 = (o6 e).length + i * 33 by rw [he]; omega, List.drop_append]
   rw [List.drop_eq_nil_of_le (by omega), List.nil_append, show (o6 e).length + i * 33 - (o6 e).length = i * 33 by omega, this]
   rfl
def fY (v : Value) (m : List En) (w : World) : Prop := cR w v 33 m.length (m.flatMap o6)
def eY (m : List En) (w : World) : Prop := ∀ e ∈ m, bI e.s e.v w
theorem fY.rd {v : Value} {m : List En} {w : World} (h : fY v m w) (hk : KL m) (i : Nat) (hi : i < m.length) : cX w (jF v (i * 33)) (o6 m[i]) := by
 have := cR.rd h i hi
 rwa [WZ m hk i hi] at this
theorem vM {X : Nat → Prop} {w : World} {x : UInt8} {s : Value} {vs : List Value} {ls : List (List UInt8)} (hX : cU X w) (bT : aH X (jW s vs) w) (dA : aH X (pP vs ls) w) (hvs : vs.length ≤ 1000000) (aDB : ls.flatten.length ≤ 70368744177000) :
  bF prog 110 [.int .u8 (x.toNat : Int), s].toArray w fun v w' => Out Nil w w' ∧ aH X (bI v (x :: ls.flatten)) w' := by
 refine bF.aI (N := 10) func110 rfl rfl (by simp) ?_
 have H := ((St.begin hX).add (cE dA)).add (cE bT)
 refine WE.aA (WL.as rfl rfl (WL.nil (WE.aA (WL.mv rfl rfl ?_))))
 refine WL.bL (l0 := [.int .u8 (0)]) H rfl j0 (by decide) (dH _ _) (Fl.cons rfl rfl (by simp only [aR]) Laid.head Fl.nil) rfl ?_
 intro b6 w1 H
 replace H := H.IY (n := 1) (sz := 1) (i := 0) rfl rfl (by decide)
 refine WL.mv rfl rfl ?_
 refine WL.call aEQ rfl (TQ  H.aS (by exact H.bK 0 rfl) (by exact H.bK 1 rfl) (by assumption) (by omega)) ?_
 rintro v8 w2 ⟨hO, hR⟩
 replace H := (H.out hO).add hR
 refine WL.append H 0 j0 (by decide) rfl rfl rfl (by exact H.p 0 rfl) (bJ _) (by omega) (by decide) rfl ?_
 intro v9 w3 H
 refine WL.as rfl rfl (WL.nil (WE.ret ⟨[_], _, .nil _, ⟨rfl, trivial⟩, ?_⟩))
 replace H := H.freeze (i := 0) rfl
 exact ⟨H.aL, H.gQ ((H.bK 0 rfl).imp fun _ h => bI.eM (l := x :: ls.flatten) h)⟩
theorem KI {X : Nat → Prop} {w : World} {a : Value} {la : List UInt8} (hX : cU X w) (bT : aH X (bI a la) w) (wV : la.length ≤ 70368744177000) :
  bF prog 168 [a].toArray w fun v w' => Out Nil w w' ∧ aH X (bI v (2 :: la)) w' := by
 refine bF.aI (N := 6) func168 rfl rfl (by simp) ?_
 have H := (St.begin hX).add (cE bT)
 refine WE.aA (WL.as rfl rfl (WL.nil (WE.aA (WL.mv rfl rfl ?_))))
 refine WL.bL (l0 := [.slice none 0 0]) H rfl I2 (by decide) (dH _ _) (Fl.cons rfl (by exact cR.cells (H.p 0 rfl)) (by simp only [aR]) Laid.head Fl.nil) rfl ?_
 intro b4 w1 H
 replace H := H.freeze (i := 0) rfl
 replace H := H.add ((H.bK 0 rfl).imp fun _ h => jW.bZ h rfl)
 replace H := H.add ((H.bK 2 rfl).imp fun w h => pP.cons h (pP.nil w))
 refine WL.call J1 rfl (vM (x := 2) (vs := [a]) (ls := [la]) H.aS (H.bK 1 rfl) (H.bK 0 rfl) (by simp) (by simpa using wV)) ?_
 rintro v5 w2 ⟨hO, hR⟩
 replace H := (H.out hO).add hR
 refine WL.as rfl rfl (WL.nil (WE.ret ⟨[_], _, .nil _, ⟨rfl, trivial⟩, ?_⟩))
 exact ⟨H.aL, H.gQ ((H.bK 0 rfl).imp fun _ h => (show bI v5 (2 :: la) _ by simpa using h))⟩
theorem KP {X : Nat → Prop} {w : World}  (hX : cU X w) :
  bF prog 69 [].toArray w fun v w' => Out Nil w w' ∧ aH X (bI v [3]) w' := by
 refine bF.aI (N := 2) func69 rfl rfl (by decide +revert) ?_
 have H := St.begin hX
 refine WE.aA (WL.as rfl rfl (WL.nil (WE.aA ?_)))
 refine WL.call J1 rfl (vM (x := 3) (vs := []) (ls := []) H.aS (fun w _ => cR.nil w 1) (fun w _ => pP.nil w) (by simp) (by simp)) ?_
 rintro v1 w1 ⟨hO, hR⟩
 replace H := (H.out hO).add hR
 refine WL.as rfl rfl (WL.nil (WE.ret ⟨[_], _, .nil _, ⟨rfl, trivial⟩, ?_⟩))
 exact ⟨H.aL, H.gQ (H.bK 0 rfl)⟩
theorem TE {X : Nat → Prop} {w : World} {k l : List UInt8} (hX : cU X w) (hk : k.length = 32) (hl : l.length = 32) :
  bF prog 219 [.agg (kc k ++ kc l).toArray].toArray w fun v w' => Out Nil w w' ∧ aH X (bI v (0 :: (k ++ l))) w' := by
 refine bF.aI (N := 9) func219 rfl rfl (by simp) ?_
 have H := St.begin hX
 refine WE.aA ?_
 refine WL.box (l := _) H rfl rfl rfl ?_
 intro b1 w1 H
 refine WL.as rfl rfl (WL.nil ?_)
 refine WE.bG (.take 0 (.take 1 (.take 2 (.take 3 (.aG 4 (.aG 5 (.take 6 .done))))))) mixed (by kernel_rfl) ?_
 replace H := H.out (Out.drew _)
 refine WP.aC rfl rfl (PV.fieldAddr rfl kE rfl) ?_
 refine WP.aC rfl rfl (PV.fO rfl gM (by rw [gY]; rfl) rfl) ?_
 refine WP.aC rfl rfl (PV.fieldAddr rfl G5 rfl) ?_
 refine WP.aC rfl rfl (PV.fO rfl oN (by rw [gY]; rfl) rfl) ?_
 refine WP.aG rfl ?_
 refine WL.bL (l0 := [.slice none 0 0, .slice none 0 0]) H rfl I2 (by decide) (dH _ _) (Fl.cons rfl rfl (by simp only [aR]) Laid.head (Fl.cons rfl rfl (by simp only [aR]) (Laid.tail Laid.head rfl) Fl.nil)) rfl ?_
 intro b7 w2 H
 replace H := H.freeze (i := 0) rfl
 replace H := H.freeze (i := 0) rfl
 replace H := H.add ((H.bK 1 rfl).imp fun _ h => jW.bZ h rfl)
 replace H := H.add ((H.bK 1 rfl).imp fun w h => pP.cons (bI.mY (a := ⟨b1, 0, none⟩) (aM.aF h (aJ.l (aJ.all (kc k))) rfl) hk (Nat.le_refl _)) (pP.cons (bI.mY (a := ⟨b1, 32, none⟩) (aM.aF h (aJ.r (aJ.all (kc l)) rfl) (by simp [aO, hk])) hl (Nat.le_refl _)) (pP.nil w)))
 refine WL.nil ⟨c5, ?_⟩
 refine WP.aG rfl ?_
 refine WL.call J1 rfl (vM (x := 0) (vs := [_, _]) (ls := [k, l]) H.aS (H.bK 1 rfl) (H.bK 0 rfl) (by simp) (by simp [hk, hl])) ?_
 rintro v8 w3 ⟨hO, hR⟩
 replace H := (H.out hO).add hR
 refine WL.nil ⟨c5, ?_⟩
 refine WP.as rfl rfl rfl (WP.done (WE.ret ⟨[_], _, .nil _, ⟨rfl, trivial⟩, ?_⟩))
 exact ⟨H.aL, H.gQ ((H.bK 0 rfl).imp fun _ h => (show bI v8 (0 :: (k ++ l)) _ by simpa using h))⟩
theorem TC {X : Nat → Prop} {w : World} {k l : List UInt8} (hX : cU X w) (hk : k.length = 32) (hl : l.length = 32) :
  bF prog 216 [.agg (kc k).toArray, .agg (kc l).toArray].toArray w fun v w' => Out Nil w w' ∧ aH X (bI v (1 :: (k ++ l))) w' := by
 refine bF.aI (N := 9) func216 rfl rfl (by simp) ?_
 have H := St.begin hX
 refine WE.aA ?_
 refine WL.box (l := _) H rfl rfl rfl ?_
 intro b2 w1 H
 refine WL.box (l := _) H rfl rfl rfl ?_
 intro b3 w2 H
 refine WL.as rfl rfl (WL.nil ?_)
 refine WE.bG (.take 0 (.take 1 (.aG 2 (.aG 3 (.take 4 .done))))) mixed (by kernel_rfl) ?_
 replace H := H.out (Out.drew _)
 refine WP.aC rfl rfl (PV.fO rfl oN (by rw [gY]; rfl) rfl) ?_
 refine WP.aC rfl rfl (PV.fO rfl oN (by rw [gY]; rfl) rfl) ?_
 refine WP.aG rfl ?_
 refine WL.bL (l0 := [.slice none 0 0, .slice none 0 0]) H rfl I2 (by decide) (dH _ _) (Fl.cons rfl rfl (by simp only [aR]) Laid.head (Fl.cons rfl rfl (by simp only [aR]) (Laid.tail Laid.head rfl) Fl.nil)) rfl ?_
 intro b7 w3 H
 replace H := H.freeze (i := 0) rfl
 replace H := H.freeze (i := 0) rfl
 replace H := H.freeze (i := 0) rfl
 replace H := H.add ((H.bK 2 rfl).imp fun _ h => jW.bZ h rfl)
 replace H := H.add (((H.bK 1 rfl).and (H.bK 2 rfl)).imp fun w h => pP.cons (bI.bZ h.1 hk) (pP.cons (bI.bZ h.2 hl) (pP.nil w)))
 refine WL.nil ⟨c5, ?_⟩
 refine WP.aG rfl ?_
 refine WL.call J1 rfl (vM (x := 1) (vs := [_, _]) (ls := [k, l]) H.aS (H.bK 1 rfl) (H.bK 0 rfl) (by simp) (by simp [hk, hl])) ?_
 rintro v8 w4 ⟨hO, hR⟩
 replace H := (H.out hO).add hR
 refine WL.nil ⟨c5, ?_⟩
 refine WP.as rfl rfl rfl (WP.done (WE.ret ⟨[_], _, .nil _, ⟨rfl, trivial⟩, ?_⟩))
 exact ⟨H.aL, H.gQ ((H.bK 0 rfl).imp fun _ h => (show bI v8 (1 :: (k ++ l)) _ by simpa using h))⟩
inductive Tr where
 | nil
 | leaf (a : Nat) (k v : List UInt8) (s : Value)
 | inner (a : Nat) (l r : Tr)
def Tr.addr : Tr → Option Addr
 | .nil => none
 | .leaf a _ _ _ => some ⟨a, 0, none⟩
 | .inner a _ _ => some ⟨a, 0, none⟩
def Tr.ptr (T : Tr) : Value := .pointer T.addr
def Tr.er : Tr → Sh
 | .nil => .nil
 | .leaf _ k v _ => .leaf k v
 | .inner _ l r => .inner l.er r.er
def PW (bits : Int) (k v : List UInt8) (s : Value) : List Value := (kc k ++ kc (mS bits v)) ++ [s]
def GN (bits : Int) (l r : Tr) : List Value := [l.ptr, r.ptr] ++ ((kc (l.er.kN bits) ++ kc (r.er.kN bits)) ++ [.int .i64 ((l.er.fU + r.er.fU : Nat) : Int)])
def rG (a : Nat) (t : TypeId) (L : List Value) (D : List UInt8) (w : World) : Prop := aM w a 143 ([.iface t (.agg L.toArray)] ++ kc D)
def cQ (bits : Int) : Tr → World → Prop
 | .nil, _ => True
 | .leaf a k v s, w => k.length = 32 ∧ bI s v w ∧ v.length ≤ 1000000 ∧ rG a 150 (PW bits k v s) (PU bits k v) w
 | .inner a l r, w => cQ bits l w ∧ cQ bits r w ∧ rG a 154 (GN bits l r) (uM bits (l.er.kN bits) (r.er.kN bits)) w
def y4 : List Value := (kc (List.replicate 32 0) ++ kc (List.replicate 32 0)) ++ [.slice none 0 0]
def vO : List Value := [.pointer none, .pointer none] ++ ((kc (List.replicate 32 0) ++ kc (List.replicate 32 0)) ++ [.int .i64 0])
def Tr.lfC (bits : Int) : Tr → List Value
 | .leaf _ k v s => PW bits k v s
 | _ => y4
def Tr.inC (bits : Int) : Tr → List Value
 | .inner _ l r => GN bits l r
 | _ => vO
def Tr.left : Tr → Tr
 | .inner _ l _ => l
 | _ => .nil
def Tr.right : Tr → Tr
 | .inner _ _ r => r
 | _ => .nil
def Tr.key : Tr → List UInt8
 | .leaf _ k _ _ => k
 | _ => List.replicate 32 0
def Tr.val : Tr → List UInt8
 | .leaf _ _ v _ => v
 | _ => []
def Tr.vs : Tr → Value
 | .leaf _ _ _ s => s
 | _ => .slice none 0 0
def Tr.vd (bits : Int) : Tr → List UInt8
 | .leaf _ _ v _ => mS bits v
 | _ => List.replicate 32 0
def Tr.aA9 : Tr → Nat
 | .inner _ l r => l.er.fU + r.er.fU
 | _ => 0
def Tr.ld (bits : Int) : Tr → List UInt8
 | .inner _ l _ => l.er.kN bits
 | _ => List.replicate 32 0
def Tr.rd (bits : Int) : Tr → List UInt8
 | .inner _ _ r => r.er.kN bits
 | _ => List.replicate 32 0
theorem fZ (bits : Int) (v : List UInt8) : (mS bits v).length = 32 := cY _ _
theorem aU : (∀ l b, (dP l b).length = 32) ∧ (∀ l, (cN l).length = 32) ∧ (∀ b (s : Sh), (s.kN b).length = 32) ∧ (∀ b v, (mS b v).length = 32) := ⟨cY, iL, fR, fZ⟩
theorem Tr.aP (bits : Int) (T : Tr) : (T.vd bits).length = 32 := match T with | .leaf _ _ v _ => fZ bits v | .nil => List.length_replicate | .inner _ _ _ => List.length_replicate
theorem Tr.bN (bits : Int) (T : Tr) : (T.ld bits).length = 32 := match T with | .inner _ l _ => fR bits l.er | .nil => List.length_replicate | .leaf _ _ _ _ => List.length_replicate
theorem Tr.bM (bits : Int) (T : Tr) : (T.rd bits).length = 32 := match T with | .inner _ _ r => fR bits r.er | .nil => List.length_replicate | .leaf _ _ _ _ => List.length_replicate
theorem cQ.gF {bits : Int} {T : Tr} {w : World} (h : cQ bits T w) : T.key.length = 32 := by
 cases T <;> first | exact h.1 | simp [Tr.key]
theorem cQ.vsl {bits : Int} {T : Tr} {w : World} (h : cQ bits T w) : bI T.vs T.val w := by
 cases T <;> first | exact h.2.1 | exact bI.nil _
theorem cQ.NZ {bits : Int} {T : Tr} {w : World} (h : cQ bits T w) : T.val.length ≤ 1000000 := by
 cases T <;> first | exact h.2.2.1 | simp [Tr.val]
theorem cQ.left {bits : Int} {T : Tr} {w : World} (h : cQ bits T w) : cQ bits T.left w := by
 cases T <;> first | exact h.1 | trivial
theorem cQ.right {bits : Int} {T : Tr} {w : World} (h : cQ bits T w) : cQ bits T.right w := by
 cases T <;> first | exact h.2.1 | trivial
theorem Tr.BI (bits : Int) (T : Tr) : T.lfC bits = (kc T.key ++ kc (T.vd bits)) ++ [T.vs] := by cases T <;> rfl
theorem Tr.wU (bits : Int) (T : Tr) : T.inC bits = [T.left.ptr, T.right.ptr] ++ ((kc (T.ld bits) ++ kc (T.rd bits)) ++ [.int .i64 (T.aA9 : Int)]) := by cases T <;> rfl
theorem Tr.VC {bits : Int} {T : Tr} {w : World} (h : cQ bits T w) : eF (T.lfC bits) := by
 rw [Tr.BI]; exact bO (bO (bJ _) (bJ _)) (bE _ (by simp [cR.fH h.vsl]))
theorem Tr.VD (bits : Int) (T : Tr) : eF (T.inC bits) := by
 rw [Tr.wU]; exact bO (bE _ rfl) (bO (bO (bJ _) (bJ _)) (bE _ rfl))
theorem Tr.VJ {bits : Int} {T : Tr} {w : World} (h : cQ bits T w) : (T.lfC bits).length = 65 := by
 rw [Tr.BI]; simp [aO, h.gF, Tr.aP]
theorem Tr.VK (bits : Int) (T : Tr) : (T.inC bits).length = 67 := by
 rw [Tr.wU]; simp [aO, Tr.bN, Tr.bM]
theorem Tr.Y9 {T : Tr} (h : T.er.kind = 1) : ∃ a k v s, T = .leaf a k v s := by cases T <;> first | exact ⟨_, _, _, _, rfl⟩ | simp [Tr.er, Sh.kind] at h
theorem Tr.zQ {T : Tr} (h : T.er.kind = 2) : ∃ a l r, T = .inner a l r := by cases T <;> first | exact ⟨_, _, _, rfl⟩ | simp [Tr.er, Sh.kind] at h
theorem Tr.VI {bits : Int} {T : Tr} (h : T.er.kind ≠ 1) : T.lfC bits = y4 := by cases T <;> first | rfl | exact absurd rfl h
theorem Tr.VW {bits : Int} {T : Tr} (h : T.er.kind ≠ 2) : T.inC bits = vO := by cases T <;> first | rfl | exact absurd rfl h
theorem Tr.R3 (T : Tr) : T.er.fU = if T.er.kind = 1 then 1 else T.aA9 := by cases T <;> simp [Tr.er, Sh.fU, Sh.kind, Tr.aA9]
theorem M7 {X : Nat → Prop} {w : World}  (hX : cU X w) :
  bF prog 31 [.pointer none].toArray w fun v w' => v = .int .i64 0 ∧ Out Nil w w' := by
 refine bF.aI (N := 15) func31 rfl rfl (by simp) ?_
 have H := St.begin hX
 refine WE.aA (WL.as rfl rfl (WL.nil (WE.seq (WE.aA (WL.mv rfl rfl (WL.pv (PV.iX rfl wG rfl rfl) rfl (WL.nil ?_)))))))
 refine WE.cO rfl rfl ?_
 refine WE.aA (WL.as rfl rfl (WL.nil (WE.ret ⟨[_], _, .nil _, ⟨rfl, trivial⟩, ?_⟩)))
 exact ⟨rfl, H.aL⟩
theorem IC {X : Nat → Prop} {w : World} {a : Nat} {L : List Value} {D : List UInt8} (hX : cU X w) (bT : aH X (rG a 150 L D) w) :
  bF prog 31 [.pointer (some ⟨a, 0, none⟩)].toArray w fun v w' => v = .int .i64 1 ∧ Out Nil w w' := by
 refine bF.aI (N := 15) func31 rfl rfl (by simp) ?_
 have H := (St.begin hX).add (cE bT)
 refine WE.aA (WL.as rfl rfl (WL.nil (WE.seq (WE.aA (WL.mv rfl rfl (WL.pv (PV.iX rfl wG rfl rfl) rfl (WL.nil ?_)))))))
 refine WE.bB rfl rfl ?_
 refine WE.skip (WE.seq (WE.aA (WL.mv rfl rfl (WL.pv (PV.nilCheck rfl rfl) rfl (WL.pv (PV.fieldAddr rfl vJ rfl) rfl (WL.aY rfl KH rfl rfl (cX.at_ (o := 0) (aM.rd (H.p 0 rfl)) rfl rfl) (WL.nil ?_)))))))
 refine WE.block (WE.aA (WL.pv (PV.xV rfl EX YJ rfl) rfl (WL.pv (PV.extract rfl rfl rfl) rfl (WL.pv (PV.extract rfl rfl rfl) rfl (WL.nil ?_)))))
 refine WE.cO rfl rfl ?_
 refine WE.aA (WL.as rfl rfl (WL.nil (WE.ret ⟨[_], _, .nil _, ⟨rfl, trivial⟩, ?_⟩)))
 exact ⟨rfl, H.aL⟩
theorem FE {X : Nat → Prop} {w : World} {a : Nat} {L : List Value} {D : List UInt8} (hX : cU X w) (bT : aH X (rG a 154 L D) w) :
  bF prog 31 [.pointer (some ⟨a, 0, none⟩)].toArray w fun v w' => v = .int .i64 2 ∧ Out Nil w w' := by
 refine bF.aI (N := 15) func31 rfl rfl (by simp) ?_
 have H := (St.begin hX).add (cE bT)
 refine WE.aA (WL.as rfl rfl (WL.nil (WE.seq (WE.aA (WL.mv rfl rfl (WL.pv (PV.iX rfl wG rfl rfl) rfl (WL.nil ?_)))))))
 refine WE.bB rfl rfl ?_
 refine WE.skip (WE.seq (WE.aA (WL.mv rfl rfl (WL.pv (PV.nilCheck rfl rfl) rfl (WL.pv (PV.fieldAddr rfl vJ rfl) rfl (WL.aY rfl KH rfl rfl (cX.at_ (o := 0) (aM.rd (H.p 0 rfl)) rfl rfl) (WL.nil ?_)))))))
 refine WE.block (WE.aA (WL.pv (PV.xV rfl EX YJ rfl) rfl (WL.pv (PV.extract rfl rfl rfl) rfl (WL.pv (PV.extract rfl rfl rfl) rfl (WL.nil ?_)))))
 refine WE.bB rfl rfl ?_
 refine WE.aA (WL.pv (PV.xV rfl J6 aCs rfl) rfl (WL.pv (PV.extract rfl rfl rfl) rfl (WL.pv (PV.extract rfl rfl rfl) rfl (WL.nil ?_))))
 refine WE.cO rfl rfl ?_
 refine WE.aA (WL.as rfl rfl (WL.nil (WE.ret ⟨[_], _, .nil _, ⟨rfl, trivial⟩, ?_⟩)))
 exact ⟨rfl, H.aL⟩
theorem e9 {X : Nat → Prop} {w : World} {bits : Int} {T : Tr} (hX : cU X w) (bT : aH X (cQ bits T) w) :
  bF prog 31 [T.ptr].toArray w fun v w' => v = .int .i64 T.er.kind ∧ Out Nil w w' := by
 cases T with
 | nil => exact M7 hX
 | leaf a k v s => exact IC hX (bT.imp fun _ h => h.2.2.2)
 | inner a l r => exact FE hX (bT.imp fun _ h => h.2.2)
theorem JG {X : Nat → Prop} {w : World} {bits : Int} {T : Tr} (hX : cU X w) (bT : aH X (cQ bits T) w) :
  bF prog 72 [T.ptr].toArray w fun v w' => v = .agg (T.lfC bits).toArray ∧ Out Nil w w' := by
 refine bF.aI (N := 12) func72 rfl rfl (by simp) ?_
 have H := (St.begin hX).add (cE bT)
 have hlen := Tr.VJ (bT.here)
 have fV := Tr.VC (bT.here)
 refine WE.aA ?_
 refine WL.alloc H rfl IJ rfl ?_
 intro b2 w1 H
 refine WL.nil (WE.seq (WE.aA (WL.mv rfl rfl ?_)))
 refine WL.call mK rfl (e9 (T := T) H.aS (H.bK 0 rfl)) ?_
 rintro _ w2 ⟨rfl, hO⟩
 replace H := H.out hO
 refine WL.pv (PV.neq rfl rfl rfl) rfl (WL.nil ?_)
 refine WE.cond rfl (fun tM => ?_) (fun tM => ?_)
 ·
  try simp only [bU] at tM
  have hz := Tr.VI (bits := bits) tM
  refine WE.aA ?_
  refine WL.pv (PV.eq (v' := .agg (T.lfC bits).toArray) (PV.dD (l := T.lfC bits) rfl Y4 IJ (by rw [hz]; exact Fl.nil)) rfl) rfl ?_
  refine WL.aT H 0 rfl rfl rfl (new := _) rfl (by (rw [C1]; refine congrArg some ?_; (symm; assumption))) fV (Laid.all (by rw [hlen]; rfl)) rfl ?_
  intro w3 H
  refine WL.nil (WE.ret ⟨[_], _, .nil _, ⟨⟨_, rfl, aW aAr (aM.aF (H.l 0 rfl) (aJ.all _) rfl) (by (rw [C1]; refine congrArg some ?_; (symm; assumption)))⟩, trivial⟩, ?_⟩)
  exact ⟨rfl, H.aL⟩
 ·
  try simp only [bU] at tM
  obtain ⟨a, k, v, s, rfl⟩ := Tr.Y9 tM
  refine WE.skip (WE.aA (WL.mv rfl rfl (WL.pv (PV.nilCheck rfl rfl) rfl (WL.pv (PV.fieldAddr rfl vJ rfl) rfl (WL.aY rfl KH rfl rfl (cX.at_ (o := 0) (aM.rd ((H.p 0 rfl : cQ bits _ _).2.2.2)) rfl rfl) (WL.pv (PV.KF rfl EX rfl) rfl ?_))))))
  refine WL.aT H 0 rfl rfl rfl (new := _) rfl (by (rw [C1]; refine congrArg some ?_; (symm; assumption))) fV (Laid.all (show (PW bits k v s).length = _ from hlen)) rfl ?_
  intro w4 H
  refine WL.nil (WE.ret ⟨[_], _, .nil _, ⟨⟨_, rfl, aW aAr (aM.aF (H.l 0 rfl) (aJ.all _) rfl) (by (rw [C1]; refine congrArg some ?_; (symm; assumption)))⟩, trivial⟩, ?_⟩)
  exact ⟨rfl, H.aL⟩
theorem wT {X : Nat → Prop} {w : World} {bits : Int} {T : Tr} (hX : cU X w) (bT : aH X (cQ bits T) w) :
  bF prog 153 [T.ptr].toArray w fun v w' => v = .agg (T.inC bits).toArray ∧ Out Nil w w' := by
 refine bF.aI (N := 12) func153 rfl rfl (by simp) ?_
 have H := (St.begin hX).add (cE bT)
 have hlen := Tr.VK bits T
 have fV := Tr.VD bits T
 refine WE.aA ?_
 refine WL.alloc H rfl NO rfl ?_
 intro b2 w1 H
 refine WL.nil (WE.seq (WE.aA (WL.mv rfl rfl ?_)))
 refine WL.call mK rfl (e9 (T := T) H.aS (H.bK 0 rfl)) ?_
 rintro _ w2 ⟨rfl, hO⟩
 replace H := H.out hO
 refine WL.pv (PV.neq rfl rfl rfl) rfl (WL.nil ?_)
 refine WE.cond rfl (fun tM => ?_) (fun tM => ?_)
 ·
  try simp only [bU] at tM
  have hz := Tr.VW (bits := bits) tM
  refine WE.aA ?_
  refine WL.pv (PV.eq (v' := .agg (T.inC bits).toArray) (PV.dD (l := T.inC bits) rfl Y3 NO (by rw [hz]; exact Fl.nil)) rfl) rfl ?_
  refine WL.aT H 0 rfl rfl rfl (new := _) rfl (by (rw [IZ]; refine congrArg some ?_; (symm; assumption))) fV (Laid.all (by rw [hlen]; rfl)) rfl ?_
  intro w3 H
  refine WL.nil (WE.ret ⟨[_], _, .nil _, ⟨⟨_, rfl, aW aAq (aM.aF (H.l 0 rfl) (aJ.all _) rfl) (by (rw [IZ]; refine congrArg some ?_; (symm; assumption)))⟩, trivial⟩, ?_⟩)
  exact ⟨rfl, H.aL⟩
 ·
  try simp only [bU] at tM
  obtain ⟨a, l, r, rfl⟩ := Tr.zQ tM
  refine WE.skip (WE.aA (WL.mv rfl rfl (WL.pv (PV.nilCheck rfl rfl) rfl (WL.pv (PV.fieldAddr rfl vJ rfl) rfl (WL.aY rfl KH rfl rfl (cX.at_ (o := 0) (aM.rd ((H.p 0 rfl : cQ bits _ _).2.2)) rfl rfl) (WL.pv (PV.KF rfl J6 rfl) rfl ?_))))))
  refine WL.aT H 0 rfl rfl rfl (new := _) rfl (by (rw [IZ]; refine congrArg some ?_; (symm; assumption))) fV (Laid.all (show (GN bits l r).length = _ from hlen)) rfl ?_
  intro w4 H
  refine WL.nil (WE.ret ⟨[_], _, .nil _, ⟨⟨_, rfl, aW aAq (aM.aF (H.l 0 rfl) (aJ.all _) rfl) (by (rw [IZ]; refine congrArg some ?_; (symm; assumption)))⟩, trivial⟩, ?_⟩)
  exact ⟨rfl, H.aL⟩
theorem mE {X : Nat → Prop} {w : World} {bits : Int} {T : Tr} (hX : cU X w) (bT : aH X (cQ bits T) w) :
  bF prog 32 [T.ptr].toArray w fun v w' => v = .agg (kc T.key ++ kc (T.vd bits)).toArray ∧ Out Nil w w' := by
 refine bF.aI (N := 6) func32 rfl rfl (by simp) ?_
 have H := (St.begin hX).add (cE bT)
 have hk := cQ.gF (bT.here)
 have hd := Tr.aP bits T
 refine WE.aA ?_
 refine WL.alloc H rfl NM rfl ?_
 intro b2 w1 H
 refine WL.nil (WE.aA (WL.mv rfl rfl ?_))
 refine WL.call aEJ rfl (JG (T := T) H.aS (H.bK 0 rfl)) ?_
 rintro _ w2 ⟨rfl, hO⟩
 replace H := H.out hO
 rw [Tr.BI]
 refine WL.pv (PV.k4 rfl B6 rfl (dS.agg HR (cH AX (by simp only [aR, aU, Tr.aP, Tr.bN, Tr.bM]; omega)) (aJ.l (aJ.all _)))) rfl ?_
 refine WL.aT H 0 rfl rfl rfl (new := _) rfl (cH AX (by simp only [aR, aU, Tr.aP, Tr.bN, Tr.bM]; omega)) (bO (bJ _) (bJ _)) (Laid.at (Laid.all (by simp only [aR, aU, Tr.aP, Tr.bN, Tr.bM]; omega)) rfl) rfl ?_
 intro w3 H
 refine WL.nil (WE.ret ⟨[_], _, .nil _, ⟨⟨_, rfl, aW HR (aM.aF (H.l 0 rfl) (aJ.all _) rfl) (cH AX (by simp only [aR, aU, Tr.aP, Tr.bN, Tr.bM]; omega))⟩, trivial⟩, ?_⟩)
 exact ⟨rfl, H.aL⟩
theorem TD {X : Nat → Prop} {w : World} {bits : Int} {T : Tr} (hX : cU X w) (bT : aH X (cQ bits T) w) :
  bF prog 112 [T.ptr].toArray w fun v w' => v = T.left.ptr ∧ Out Nil w w' := by
 refine bF.aI (N := 7) func112 rfl rfl (by simp) ?_
 have H := (St.begin hX).add (cE bT)
 refine WE.aA (WL.as rfl rfl (WL.nil (WE.aA (WL.mv rfl rfl ?_))))
 refine WL.call RL rfl (wT (T := T) H.aS (H.bK 0 rfl)) ?_
 rintro _ w1 ⟨rfl, hO⟩
 replace H := H.out hO
 rw [Tr.wU]
 refine WL.pv (PV.k4 rfl JZ rfl (dS.agg SQ (by exact I1) (aJ.l (aJ.all _)))) rfl ?_
 refine WL.pv (PV.qZ (i := 0) rfl SI lG rfl rfl (by decide) (dS.one gX aJ.hd)) rfl (WL.as rfl rfl (WL.nil (WE.ret ⟨[_], _, .nil _, ⟨rfl, trivial⟩, ?_⟩)))
 exact ⟨rfl, H.aL⟩
theorem FD {X : Nat → Prop} {w : World} {bits : Int} {T : Tr} (hX : cU X w) (bT : aH X (cQ bits T) w) :
  bF prog 113 [T.ptr].toArray w fun v w' => v = T.right.ptr ∧ Out Nil w w' := by
 refine bF.aI (N := 7) func113 rfl rfl (by simp) ?_
 have H := (St.begin hX).add (cE bT)
 refine WE.aA (WL.as rfl rfl (WL.nil (WE.aA (WL.mv rfl rfl ?_))))
 refine WL.call RL rfl (wT (T := T) H.aS (H.bK 0 rfl)) ?_
 rintro _ w1 ⟨rfl, hO⟩
 replace H := H.out hO
 rw [Tr.wU]
 refine WL.pv (PV.k4 rfl JZ rfl (dS.agg SQ (by exact I1) (aJ.l (aJ.all _)))) rfl ?_
 refine WL.pv (PV.qZ (i := 1) rfl SI lG rfl rfl (by decide) (dS.one gX (aJ.tl aJ.hd rfl))) rfl (WL.as rfl rfl (WL.nil (WE.ret ⟨[_], _, .nil _, ⟨rfl, trivial⟩, ?_⟩)))
 exact ⟨rfl, H.aL⟩
theorem aAu {X : Nat → Prop} {w : World} {bits : Int} {T : Tr} (hX : cU X w) (bT : aH X (cQ bits T) w) :
  bF prog 99 [T.ptr].toArray w fun v w' => v = .int .i64 (T.er.fU : Int) ∧ Out Nil w w' := by
 refine bF.aI (N := 9) func99 rfl rfl (by simp) ?_
 have H := (St.begin hX).add (cE bT)
 have hd := Tr.bN bits T
 have hr := Tr.bM bits T
 refine WE.aA (WL.as rfl rfl (WL.nil (WE.seq (WE.aA (WL.mv rfl rfl ?_)))))
 refine WL.call mK rfl (e9 (T := T) H.aS (H.bK 0 rfl)) ?_
 rintro _ w1 ⟨rfl, hO⟩
 replace H := H.out hO
 refine WL.pv (PV.eql rfl rfl rfl) rfl (WL.nil ?_)
 refine WE.cond rfl (fun tM => ?_) (fun tM => ?_)
 ·
  try simp only [bU] at tM
  refine WE.aA (WL.as rfl rfl (WL.nil (WE.ret ⟨[_], _, .nil _, ⟨rfl, trivial⟩, ?_⟩)))
  refine ⟨?_, H.aL⟩
  rw [Tr.R3, if_pos tM]; rfl
 ·
  try simp only [bU] at tM
  refine WE.skip (WE.aA (WL.mv rfl rfl ?_))
  refine WL.call RL rfl (wT (T := T) H.aS (H.bK 0 rfl)) ?_
  rintro _ w2 ⟨rfl, hO⟩
  replace H := H.out hO
  rw [Tr.wU]
  refine WL.pv (PV.k4 rfl WN rfl (dS.one oZ (aJ.r (aJ.r (aJ.all _) rfl) (by simp only [aR, aU, Tr.aP, Tr.bN, Tr.bM])))) rfl ?_
  refine WL.as rfl rfl (WL.nil (WE.ret ⟨[_], _, .nil _, ⟨rfl, trivial⟩, ?_⟩))
  refine ⟨?_, H.aL⟩
  rw [Tr.R3, if_neg tM]; rfl
theorem FM {X : Nat → Prop} {w : World} {a : Value} {la : List UInt8} (hX : cU X w) (bT : aH X (bI a la) w) (wV : la.length ≤ 70368744177664) :
  bF prog 102 [a].toArray w fun v w' => Out Nil w w' ∧ w'.ownsRow w.heap.size 5 1 v la.length (kc la) := by
 refine bF.aI (N := 8) func102 rfl rfl (by simp) ?_
 have H := (St.begin hX).add (cE bT)
 refine WE.aA (WL.as rfl rfl (WL.nil (WE.seq (WE.aA (WL.mv rfl rfl (WL.pv (PV.aAg rfl (H.p 0 rfl) eW rfl rfl) rfl (WL.nil ?_)))))))
 refine WE.cond rfl (fun V6 => ?_) (fun V6 => ?_)
 ·
  try simp only [bU] at V6
  have h0 : la = [] := List.eq_nil_of_length_eq_zero (cR.PL (H.p 0 rfl) V6)
  subst h0
  refine WE.aA (WL.as rfl rfl (WL.nil (WE.ret ⟨[_], _, .nil _, ⟨rfl, trivial⟩, ?_⟩)))
  exact ⟨H.aL, World.ownsRow_nil _ _ _ _⟩
 ·
  try simp only [bU] at V6
  refine WE.skip (WE.aA ?_)
  refine WL.bL (l0 := []) H rfl j0 (by decide) (dH _ _) Fl.nil rfl ?_
  intro b5 w1 H
  replace H := H.IY (n := 0) (sz := 1) (i := 0) rfl rfl (by decide)
  refine WL.mv rfl rfl ?_
  refine WL.append H 0 j0 (by decide) rfl rfl rfl (H.p 0 rfl) (bJ _) (by omega) (by decide) rfl ?_
  intro v7 w2 H
  refine WL.as rfl rfl (WL.nil (WE.ret ⟨[_], _, .nil _, ⟨rfl, trivial⟩, ?_⟩))
  exact ⟨H.aL, by have := H.l 0 rfl; rw [Nat.zero_add] at this; exact this⟩
theorem TF {X : Nat → Prop} {w : World} {bh bc : Nat} {bits n : Int} {a : Value} {k la : List UInt8} (hX : cU X w) (eT : aM w bc 213 ([.int .i64 n])) (bT : aH (fun c_ => X c_ ∨ c_ = bc) (fF bh bc bits) w) (dA : aH (fun c_ => X c_ ∨ c_ = bc) (bI a la) w) (fN : aH (fun c_ => X c_ ∨ c_ = bc) (aX) w) (bR : 0 ≤ bits ∧ bits ≤ 256) (wV : la.length ≤ 1000000) (hk : k.length = 32) :
  bF prog 173 [.pointer (some ⟨bh, 0, none⟩), .agg (kc k).toArray, a].toArray w fun v w' => ∃ m, v = .agg (kc k ++ kc (mS bits la)).toArray ∧ Out (· = bc) w w' ∧ aM w' bc 213 [.int .i64 m] := by
 refine bF.aI (N := 13) func173 rfl rfl (by simp) ?_
 have H := (((St.c7 (b := bc) (t := 213) (l := [.int .i64 n]) hX eT).add (bX fN)).add (bX dA)).add (bX bT)
 refine WE.aA ?_
 refine WL.box (l := kc k) H rfl rfl rfl ?_
 intro b4 w1 H
 refine WL.alloc H rfl NM rfl ?_
 intro b6 w2 H
 refine WL.nil ?_
 refine WE.bG (.take 0 (.take 1 (.take 2 (.aG 3 (.aG 4 (.take 5 (.aG 6 .done))))))) mixed (by kernel_rfl) ?_
 replace H := H.out (Out.drew _)
 refine WP.dF rfl rfl rfl cV rfl (aM.aF (H.l 1 rfl) (aJ.all _) rfl) (cH cM (by simp only [aR, aU, Tr.aP, Tr.bN, Tr.bM]; omega)) ?_
 refine WP.mv rfl rfl rfl (WP.mv rfl rfl rfl (WP.aG rfl ?_))
 refine WL.call Z7 rfl (KI (la := la) H.aS (H.bK 1 rfl) (by omega)) ?_
 rintro v10 w3 ⟨hO, hR⟩
 replace H := (H.out hO).add hR
 refine WL.nil ⟨(fa (fun _ _ => (aM.aF (H.l 1 rfl) (aJ.all _) rfl)) c5), ?_⟩
 refine WP.aG rfl ?_
 refine WL.call G6 rfl (rH (la := 2 :: la) H.aS (H.o 0 rfl) (by exact H.aK 0 rfl 1 rfl) (by exact H.aK 0 rfl 0 rfl) (by exact H.aK 0 rfl 3 rfl) bR (by simp; omega)) ?_
 rintro _ w4 ⟨rfl, hO, hB⟩
 replace H := H.eU 0 rfl hO hB
 refine WL.nil ⟨(fa (fun _ _ => (aM.aF (H.l 1 rfl) (aJ.all _) rfl)) c5), ?_⟩
 refine WP.aC rfl rfl (PV.dD rfl aAX NM (Fl.cons rfl rfl (by simp only [aR, aU, Tr.aP, Tr.bN, Tr.bM]; omega) (Laid.left (Laid.all (by simp only [aR, aU, Tr.aP, Tr.bN, Tr.bM]; omega))) (Fl.cons rfl rfl (by simp only [aR, aU, Tr.aP, Tr.bN, Tr.bM]) (Laid.right (Laid.all (by simp only [aR, aU, Tr.aP, Tr.bN, Tr.bM])) (by simp only [aR, aU, Tr.aP, Tr.bN, Tr.bM]; omega)) Fl.nil))) ?_
 refine WP.aG rfl ?_
 refine WL.aT H 0 rfl rfl rfl (new := _) rfl (cH AX (by simp only [aR, aU, Tr.aP, Tr.bN, Tr.bM]; omega)) (bO (bJ _) (bJ _)) (Laid.at (Laid.all (by simp only [aR, aU, Tr.aP, Tr.bN, Tr.bM]; omega)) rfl) rfl ?_
 intro w5 H
 refine WL.nil ⟨(fa (nw 6 0) c5), ?_⟩
 refine WP.done (WE.ret ⟨[_], _, .nil _, ⟨⟨_, rfl, aW HR (aM.aF (H.l 0 rfl) (aJ.all _) rfl) (cH AX (by simp only [aR, aU, Tr.aP, Tr.bN, Tr.bM]; omega))⟩, trivial⟩, ?_⟩)
 exact ⟨_, rfl, H.cL, H.o 0 rfl⟩
theorem LQ {X : Nat → Prop} {w : World} {k d : List UInt8} {s : Value} (hX : cU X w) (hk : k.length = 32) (hd : d.length = 32) :
  bF prog 242 [.agg ((kc k ++ kc d) ++ [s]).toArray].toArray w fun v w' => Out Nil w w' ∧ aH X (bI v (0 :: (k ++ d))) w' := by
 refine bF.aI (N := 6) func242 rfl rfl (by simp) ?_
 have H := St.begin hX
 refine WE.aA ?_
 refine WL.box (l := (kc k ++ kc d) ++ [s]) H rfl rfl rfl ?_
 intro b1 w1 H
 refine WL.as rfl rfl (WL.nil (WE.aA (WL.pv (PV.fieldAddr rfl B6 rfl) rfl ?_)))
 refine WL.bC rfl HR rfl rfl (aM.aF (H.l 0 rfl) (aJ.l (aJ.all _)) rfl) (cH AX (by simp only [aR, aU, Tr.aP, Tr.bN, Tr.bM]; omega)) ?_
 refine WL.call Z1 rfl (TE (k := k) (l := d) H.aS hk hd) ?_
 rintro v5 w2 ⟨hO, hR⟩
 replace H := (H.out hO).add hR
 refine WL.as rfl rfl (WL.nil (WE.ret ⟨[_], _, .nil _, ⟨rfl, trivial⟩, ?_⟩))
 exact ⟨H.aL, H.gQ (H.bK 0 rfl)⟩
theorem GM {X : Nat → Prop} {w : World} {p d e : List UInt8} {x y z : Value} (hX : cU X w) (hd : d.length = 32) (he : e.length = 32) :
  bF prog 243 [.agg ([x, y] ++ ((kc d ++ kc e) ++ [z])).toArray].toArray w fun v w' => Out Nil w w' ∧ aH X (bI v (1 :: (d ++ e))) w' := by
 refine bF.aI (N := 10) func243 rfl rfl (by simp) ?_
 have H := St.begin hX
 refine WE.aA ?_
 refine WL.box (l := [x, y] ++ ((kc d ++ kc e) ++ [z])) H rfl rfl rfl ?_
 intro b1 w1 H
 refine WL.as rfl rfl (WL.nil (WE.aA (WL.pv (PV.fieldAddr rfl JY rfl) rfl (WL.pv (PV.cF rfl xW dJ rfl rfl (by omega) (by omega)) rfl ?_))))
 refine WL.bC rfl gT rfl rfl (aM.aF (H.l 0 rfl) (aJ.r (aJ.l (aJ.l (aJ.all _))) rfl) rfl) (cH dJ (by simp only [aR, aU, Tr.aP, Tr.bN, Tr.bM]; omega)) ?_
 refine WL.pv (PV.fieldAddr rfl JY rfl) rfl (WL.pv (PV.cF rfl xW dJ rfl rfl (by omega) (by omega)) rfl ?_)
 refine WL.bC rfl gT rfl rfl (aM.aF (H.l 0 rfl) (aJ.r (aJ.l (aJ.r (aJ.all _) rfl)) rfl) (by simp [aO, bA, *])) (cH dJ (by simp only [aR, aU, Tr.aP, Tr.bN, Tr.bM]; omega)) ?_
 refine WL.call Z2 rfl (TC (k := d) (l := e) H.aS hd he) ?_
 rintro v9 w2 ⟨hO, hR⟩
 replace H := (H.out hO).add hR
 refine WL.as rfl rfl (WL.nil (WE.ret ⟨[_], _, .nil _, ⟨rfl, trivial⟩, ?_⟩))
 exact ⟨H.aL, H.gQ (H.bK 0 rfl)⟩
theorem FZ {X : Nat → Prop} {w : World} {bh bc : Nat} {bits n : Int} {k d : List UInt8} {s : Value} (hX : cU X w) (eT : aM w bc 213 ([.int .i64 n])) (bT : aH (fun c_ => X c_ ∨ c_ = bc) (fF bh bc bits) w) (dA : aH (fun c_ => X c_ ∨ c_ = bc) (aX) w) (bR : 0 ≤ bits ∧ bits ≤ 256) (hk : k.length = 32) (hd : d.length = 32) :
  bF prog 172 [.pointer (some ⟨bh, 0, none⟩), .iface 150 (.agg ((kc k ++ kc d) ++ [s]).toArray)].toArray w fun v w' => ∃ a m, v = .pointer (some ⟨a, 0, none⟩) ∧ Out (· = bc) w w' ∧ aM w' bc 213 [.int .i64 m] ∧ aH (fun c => X c ∨ c = bc) (rG a 150 ((kc k ++ kc d) ++ [s]) (dP (cN (0 :: (k ++ d))) bits)) w' := by
 refine bF.aI (N := 12) func172 rfl rfl (by simp) ?_
 have H := ((St.c7 (b := bc) (t := 213) (l := [.int .i64 n]) hX eT).add (bX dA)).add (bX bT)
 refine WE.aA (WL.as rfl rfl (WL.nil (WE.aA (WL.mv rfl rfl (WL.mv rfl rfl (WL.mv rfl rfl ?_))))))
 refine WL.invoke rfl (by kernel_rfl) EX aEU rfl (LQ (k := k) (d := d) (s := s) H.aS hk hd) ?_
 rintro v8 w2 ⟨hO, hR⟩
 replace H := (H.out hO).add hR
 refine WL.call G6 rfl (rH (la := 0 :: (k ++ d)) H.aS (H.o 0 rfl) (by exact H.aK 0 rfl 1 rfl) (by exact H.aK 0 rfl 0 rfl) (by exact H.aK 0 rfl 2 rfl) bR (by simp; omega)) ?_
 rintro _ w4 ⟨rfl, hO, hB⟩
 replace H := H.eU 0 rfl hO hB
 refine WL.pv (PV.dD rfl Y5 YN (Fl.cons rfl rfl (by simp only [aR, aU, Tr.aP, Tr.bN, Tr.bM]) (Laid.left (Laid.all (by simp only [aR, aU, Tr.aP, Tr.bN, Tr.bM]))) (Fl.cons rfl rfl (by simp only [aR, aU, Tr.aP, Tr.bN, Tr.bM]) (Laid.right (Laid.all (by simp only [aR, aU, Tr.aP, Tr.bN, Tr.bM])) (by simp only [aR, aU, Tr.aP, Tr.bN, Tr.bM])) Fl.nil))) rfl ?_
 refine WL.box (l := _) H rfl rfl rfl ?_
 intro XN w5 H
 refine WL.as rfl rfl (WL.nil (WE.ret ⟨[_], _, .nil _, ⟨rfl, trivial⟩, ?_⟩))
 replace H := H.freeze (i := 0) rfl
 exact ⟨_, _, rfl, H.cL, H.o 0 rfl, (H.fL (H.bK 0 rfl)).imp fun _ h => h⟩
theorem CS {X : Nat → Prop} {w : World} {bh bc : Nat} {bits n : Int} {d e : List UInt8} {x y z : Value} (hX : cU X w) (eT : aM w bc 213 ([.int .i64 n])) (bT : aH (fun c_ => X c_ ∨ c_ = bc) (fF bh bc bits) w) (dA : aH (fun c_ => X c_ ∨ c_ = bc) (aX) w) (bR : 0 ≤ bits ∧ bits ≤ 256) (hd : d.length = 32) (he : e.length = 32) :
  bF prog 172 [.pointer (some ⟨bh, 0, none⟩), .iface 154 (.agg ([x, y] ++ ((kc d ++ kc e) ++ [z])).toArray)].toArray w fun v w' => ∃ a m, v = .pointer (some ⟨a, 0, none⟩) ∧ Out (· = bc) w w' ∧ aM w' bc 213 [.int .i64 m] ∧ aH (fun c => X c ∨ c = bc) (rG a 154 ([x, y] ++ ((kc d ++ kc e) ++ [z])) (dP (cN (1 :: (d ++ e))) bits)) w' := by
 refine bF.aI (N := 12) func172 rfl rfl (by simp) ?_
 have H := ((St.c7 (b := bc) (t := 213) (l := [.int .i64 n]) hX eT).add (bX dA)).add (bX bT)
 refine WE.aA (WL.as rfl rfl (WL.nil (WE.aA (WL.mv rfl rfl (WL.mv rfl rfl (WL.mv rfl rfl ?_))))))
 refine WL.invoke rfl (by kernel_rfl) J6 aET rfl (GM (p := []) (x := x) (y := y) (z := z) H.aS hd he) ?_
 rintro v8 w2 ⟨hO, hR⟩
 replace H := (H.out hO).add hR
 refine WL.call G6 rfl (rH (la := 1 :: (d ++ e)) H.aS (H.o 0 rfl) (by exact H.aK 0 rfl 1 rfl) (by exact H.aK 0 rfl 0 rfl) (by exact H.aK 0 rfl 2 rfl) bR (by simp; omega)) ?_
 rintro _ w4 ⟨rfl, hO, hB⟩
 replace H := H.eU 0 rfl hO hB
 refine WL.pv (PV.dD rfl Y5 YN (Fl.cons rfl rfl (by simp only [aR, aU, Tr.aP, Tr.bN, Tr.bM]) (Laid.left (Laid.all (by simp only [aR, aU, Tr.aP, Tr.bN, Tr.bM]))) (Fl.cons rfl rfl (by simp only [aR, aU, Tr.aP, Tr.bN, Tr.bM]) (Laid.right (Laid.all (by simp only [aR, aU, Tr.aP, Tr.bN, Tr.bM])) (by simp only [aR, aU, Tr.aP, Tr.bN, Tr.bM])) Fl.nil))) rfl ?_
 refine WL.box (l := _) H rfl rfl rfl ?_
 intro XN w5 H
 refine WL.as rfl rfl (WL.nil (WE.ret ⟨[_], _, .nil _, ⟨rfl, trivial⟩, ?_⟩))
 replace H := H.freeze (i := 0) rfl
 exact ⟨_, _, rfl, H.cL, H.o 0 rfl, (H.fL (H.bK 0 rfl)).imp fun _ h => h⟩
theorem cX.aF {w : World} {b o o' : Nat} {l0 l : List Value} (h : cX w ⟨b, 0, none⟩ l0) (s : aJ l0 o l) (ho : o' = o) : cX w ⟨b, o', none⟩ l := by
 subst ho
 have := cX.sub h s
 rwa [lS, Nat.zero_add] at this
theorem aH.aB0 {X : Nat → Prop} {p q r : World → Prop} {w : World} (h : aH X p w) (h' : aH X q w) (h'' : aH X r w) : aH X (fun w => p w ∧ q w ∧ r w) w := fun w' hw => ⟨h w' hw, h' w' hw, h'' w' hw⟩
theorem uV {X : Nat → Prop} {w : World} {bh bc : Nat} {bits n : Int} (hX : cU X w) (eT : aM w bc 213 ([.int .i64 n])) (bT : aH (fun c_ => X c_ ∨ c_ = bc) (fF bh bc bits) w) (dA : aH (fun c_ => X c_ ∨ c_ = bc) (aX) w) (bR : 0 ≤ bits ∧ bits ≤ 256) :
  bF prog 27 [.pointer (some ⟨bh, 0, none⟩), .pointer none].toArray w fun v w' => ∃ m, v = .agg (kc (lN bits)).toArray ∧ Out (· = bc) w w' ∧ aM w' bc 213 [.int .i64 m] := by
 refine bF.aI (N := 14) func27 rfl rfl (by simp) ?_
 have H := ((St.c7 (b := bc) (t := 213) (l := [.int .i64 n]) hX eT).add (bX dA)).add (bX bT)
 refine WE.aA ?_
 refine WL.alloc H rfl mQ rfl ?_
 intro b4 w1 H
 refine WL.nil (WE.seq (WE.aA (WL.mv rfl rfl (WL.pv (PV.iX rfl wG rfl rfl) rfl (WL.nil ?_)))))
 refine WE.cO rfl rfl ?_
 refine WE.aA (WL.mv rfl rfl ?_)
 refine WL.call aEL rfl (KP H.aS) ?_
 rintro v8 w2 ⟨hO, hR⟩
 replace H := (H.out hO).add hR
 refine WL.call G6 rfl (rH (la := [3]) H.aS (H.o 0 rfl) (by exact H.aK 0 rfl 1 rfl) (by exact H.aK 0 rfl 0 rfl) (by exact H.aK 0 rfl 2 rfl) bR (by simp)) ?_
 rintro _ w3 ⟨rfl, hO, hB⟩
 replace H := H.eU 0 rfl hO hB
 refine WL.aT H 0 rfl rfl rfl (new := _) rfl (by exact dJ) (bJ _) (Laid.at (Laid.all (by simp only [aR, aU, Tr.aP, Tr.bN, Tr.bM])) rfl) rfl ?_
 intro w4 H
 refine WL.nil (WE.ret ⟨[_], _, .nil _, ⟨⟨_, rfl, aW gT (aM.aF (H.l 0 rfl) (aJ.all _) rfl) (by exact dJ)⟩, trivial⟩, ?_⟩)
 exact ⟨_, rfl, H.cL, H.o 0 rfl⟩
theorem x9 {X : Nat → Prop} {w : World} {h : Value} {a : Nat} {t : TypeId} {L : List Value} {D : List UInt8} (hX : cU X w) (bT : aH X (rG a t L D) w) (hD : D.length = 32) :
  bF prog 27 [h, .pointer (some ⟨a, 0, none⟩)].toArray w fun v w' => v = .agg (kc D).toArray ∧ Out Nil w w' := by
 refine bF.aI (N := 14) func27 rfl rfl (by simp) ?_
 have H := (St.begin hX).add (cE bT)
 refine WE.aA ?_
 refine WL.alloc H rfl mQ rfl ?_
 intro b4 w1 H
 refine WL.nil (WE.seq (WE.aA (WL.mv rfl rfl (WL.pv (PV.iX rfl wG rfl rfl) rfl (WL.nil ?_)))))
 refine WE.bB rfl rfl ?_
 refine WE.skip (WE.aA (WL.mv rfl rfl (WL.pv (PV.nilCheck rfl rfl) rfl (WL.pv (PV.fieldAddr rfl WQ rfl) rfl ?_))))
 refine WL.bC rfl gT rfl rfl (cX.aF (aM.rd (H.p 0 rfl)) (aJ.r (a := [.iface t (.agg L.toArray)]) (aJ.all (kc D)) rfl) rfl) (cH dJ (by simp only [aR, aU, Tr.aP, Tr.bN, Tr.bM]; omega)) ?_
 refine WL.aT H 0 rfl rfl rfl (new := _) rfl (cH dJ (by simp only [aR, aU, Tr.aP, Tr.bN, Tr.bM]; omega)) (bJ _) (Laid.at (Laid.all (by simp only [aR, aU, Tr.aP, Tr.bN, Tr.bM]; omega)) rfl) rfl ?_
 intro w2 H
 refine WL.nil (WE.ret ⟨[_], _, .nil _, ⟨⟨_, rfl, aW gT (aM.aF (H.l 0 rfl) (aJ.all _) rfl) (cH dJ (by simp only [aR, aU, Tr.aP, Tr.bN, Tr.bM]; omega))⟩, trivial⟩, ?_⟩)
 exact ⟨rfl, H.aL⟩
theorem sR {X : Nat → Prop} {w : World} {bh bc : Nat} {bits n : Int} {T : Tr} (hX : cU X w) (eT : aM w bc 213 [.int .i64 n]) (bT : aH (fun c => X c ∨ c = bc) (fF bh bc bits) w)
  (dA : aH (fun c => X c ∨ c = bc) (cQ bits T) w) (fN : aH (fun c => X c ∨ c = bc) aX w) (bR : 0 ≤ bits ∧ bits ≤ 256) :
  bF prog 27 [.pointer (some ⟨bh, 0, none⟩), T.ptr].toArray w fun v w' => ∃ m, v = .agg (kc (T.er.kN bits)).toArray ∧ Out (· = bc) w w' ∧ aM w' bc 213 [.int .i64 m] := by
 have old : ∀ {w' : World}, Out Nil w w' → Out (· = bc) w w' ∧ aM w' bc 213 [.int .i64 n] := fun hO => ⟨hO.mono fun _ _ h => h.elim, eT.of_eq (hO.block _ eT.lt id)⟩
 cases T with
 | nil => exact uV hX eT bT fN bR
 | leaf a k v s =>
  refine (x9 (X := Nil) (D := PU bits k v) (mZ _) ((dA.imp fun _ h => h.2.2.2).nil) (cY _ _)).mono ?_
  rintro v w' ⟨rfl, hO⟩
  exact ⟨n, rfl, old hO⟩
 | inner a l r =>
  refine (x9 (X := Nil) (D := uM bits (l.er.kN bits) (r.er.kN bits)) (mZ _) ((dA.imp fun _ h => h.2.2).nil) (cY _ _)).mono ?_
  rintro v w' ⟨rfl, hO⟩
  exact ⟨n, rfl, old hO⟩
theorem X9 {X : Nat → Prop} {w : World} {bh bc : Nat} {bits n : Int} {l r : Tr} (hX : cU X w) (eT : aM w bc 213 ([.int .i64 n])) (bT : aH (fun c_ => X c_ ∨ c_ = bc) (fF bh bc bits) w) (dA : aH (fun c_ => X c_ ∨ c_ = bc) (cQ bits l) w) (fN : aH (fun c_ => X c_ ∨ c_ = bc) (cQ bits r) w) (jO : aH (fun c_ => X c_ ∨ c_ = bc) (aX) w) (bR : 0 ≤ bits ∧ bits ≤ 256) (hA : l.addr.isNone = true → r.er.kind = 2) (hB_ : r.addr.isNone = true → l.er.kind = 2) (QQ : l.er.fU + r.er.fU ≤ 1000000000) :
  bF prog 140 [.pointer (some ⟨bh, 0, none⟩), l.ptr, r.ptr].toArray w fun v w' => ∃ (T : Tr) (m : Int), v = T.ptr ∧ T.er = .inner l.er r.er ∧ Out (· = bc) w w' ∧ aM w' bc 213 [.int .i64 m] ∧ aH (fun c => X c ∨ c = bc) (cQ bits T) w' := by
 refine bF.aI (N := 44) func140 rfl rfl (by simp) ?_
 have H := ((((St.c7 (b := bc) (t := 213) (l := [.int .i64 n]) hX eT).add (bX jO)).add (bX fN)).add (bX dA)).add (bX bT)
 refine WE.aA (WL.as rfl rfl (WL.nil ?_))
 refine WE.cut (α := Unit) (rg [(6, 1), (8, 8)]) (fun _ => []) (fun _ wl => St X w wl [aN.blk bc 213 [.int .i64 n]] [] [fF bh bc bits, cQ bits l, cQ bits r, aX]) ?_ ?_
 ·
  refine WE.aA (WL.mv rfl rfl (WL.pv (PV.iX rfl wG rfl rfl) rfl (WL.mv rfl rfl ?_)))
  refine WL.split (t := 10) rfl (fun L7 => ?_) (fun L7 => ?_)
  ·
   refine WL.known (t := 9) (c := true) rfl L7 ?_
   try simp only [bU] at L7
   refine WL.mv rfl rfl ?_
   refine WL.call mK rfl (e9 (X := Nil) (T := r) (mZ _) (by exact (H.bK 2 rfl).nil)) ?_
   rintro _ w1 ⟨rfl, hO⟩
   replace H := H.out hO
   refine WL.pv (PV.neq rfl rfl rfl) rfl (WL.pv (PV.dB rfl rfl rfl) rfl (WL.nil ?_))
   refine WE.bB rfl (by simp [hA L7]) ?_
   refine WE.skip ?_
   exact ⟨(), (by repeat (first | with_reducible exact bQ.refl _ _ | refine bQ.dG rfl ?_)), trivial, rfl, H⟩
  ·
   refine WL.known (t := 9) (c := false) rfl L7 ?_
   try simp only [bU] at L7
   refine WL.off rfl (WL.off rfl (WL.off rfl (WL.pv (PV.cZ rfl rfl rfl) rfl (WL.nil (WE.iJ rfl (WE.skip ?_))))))
   exact ⟨(), (by repeat (first | with_reducible exact bQ.refl _ _ | refine bQ.dG rfl ?_)), trivial, rfl, H⟩
 ·
  intro _ γ w2 hI
  try dsimp only at hI
  replace H := hI
  refine WE.cut (α := Unit) (rg [(6, 1), (16, 8)]) (fun _ => []) (fun _ wl => St X w wl [aN.blk bc 213 [.int .i64 n]] [] [fF bh bc bits, cQ bits l, cQ bits r, aX]) ?_ ?_
  ·
   refine WE.aA (WL.mv rfl rfl (WL.pv (PV.iX rfl wG rfl rfl) rfl (WL.mv rfl rfl ?_)))
   refine WL.split (t := 18) rfl (fun sE => ?_) (fun sE => ?_)
   ·
    refine WL.known (t := 17) (c := true) rfl sE ?_
    try simp only [bU] at sE
    refine WL.mv rfl rfl ?_
    refine WL.call mK rfl (e9 (X := Nil) (T := l) (mZ _) (by exact (H.bK 1 rfl).nil)) ?_
    rintro _ w3 ⟨rfl, hO⟩
    replace H := H.out hO
    refine WL.pv (PV.neq rfl rfl rfl) rfl (WL.pv (PV.dB rfl rfl rfl) rfl (WL.nil ?_))
    refine WE.bB rfl (by simp [hB_ sE]) ?_
    refine WE.skip ?_
    exact ⟨(), (by repeat (first | with_reducible exact bQ.refl _ _ | refine bQ.dG rfl ?_)), trivial, rfl, H⟩
   ·
    refine WL.known (t := 17) (c := false) rfl sE ?_
    try simp only [bU] at sE
    refine WL.off rfl (WL.off rfl (WL.off rfl (WL.pv (PV.cZ rfl rfl rfl) rfl (WL.nil (WE.iJ rfl (WE.skip ?_))))))
    exact ⟨(), (by repeat (first | with_reducible exact bQ.refl _ _ | refine bQ.dG rfl ?_)), trivial, rfl, H⟩
  ·
   intro _ γ w4 hI
   try dsimp only at hI
   replace H := hI
   refine WE.aA (WL.mv rfl rfl (WL.mv rfl rfl ?_))
   refine WL.pv (PV.eq (v' := .agg [l.ptr, r.ptr].toArray) (PV.mM rfl SI lG YM (Fl.cons rfl rfl (by simp only [aR, aU, Tr.aP, Tr.bN, Tr.bM]) (Laid.aAZ 0 (by simp only [aR, aU, Tr.aP, Tr.bN, Tr.bM]; omega)) (Fl.cons rfl rfl (by simp only [aR, aU, Tr.aP, Tr.bN, Tr.bM]) (Laid.aAZ 1 (by simp [aO, bA, *])) Fl.nil))) rfl) rfl ?_
   refine WL.alloc H rfl YM rfl ?_
   intro b7 w5 H
   refine WL.aT H 0 rfl rfl rfl (new := _) rfl (by exact I1) (bE _ rfl) (Laid.at (Laid.all (by simp only [aR, aU, Tr.aP, Tr.bN, Tr.bM])) rfl) rfl ?_
   intro w6 H
   refine WL.nil ?_
   refine WE.bG (.take 0 (.take 1 (.take 2 (.take 3 (.take 5 (.take 6 (.take 9 (.take 11 (.aG 4 (.aG 7 (.take 8 (.aG 10 (.aG 12 (.take 13 (.take 14 (.take 15 (.aG 16 (.take 17 .done)))))))))))))))))) mixed (by kernel_rfl) ?_
   replace H := H.out (Out.drew _)
   refine WP.mv rfl rfl rfl ?_
   refine WP.dF rfl rfl rfl SQ rfl (aM.aF (H.l 0 rfl) (aJ.all _) rfl) (by exact I1) ?_
   refine WP.mv rfl rfl rfl (WP.mv rfl rfl rfl (WP.mv rfl rfl rfl (WP.mv rfl rfl rfl (WP.mv rfl rfl rfl (WP.mv rfl rfl rfl (WP.aG rfl ?_))))))
   refine WL.call RI rfl (sR (T := l) H.aS (H.o 0 rfl) (by exact H.aK 0 rfl 0 rfl) (by exact H.aK 0 rfl 1 rfl) (by exact H.aK 0 rfl 3 rfl) bR) ?_
   rintro _ w7 ⟨aJb, rfl, hO, hB⟩
   replace H := H.eU 0 rfl hO hB
   refine WL.nil ⟨(fa (fun _ _ => (aM.aF (H.l 0 rfl) (aJ.all _) rfl)) c5), ?_⟩
   refine WP.aG rfl ?_
   refine WL.call RI rfl (sR (T := r) H.aS (H.o 0 rfl) (by exact H.aK 0 rfl 0 rfl) (by exact H.aK 0 rfl 2 rfl) (by exact H.aK 0 rfl 3 rfl) bR) ?_
   rintro _ w8 ⟨aJa, rfl, hO, hB⟩
   replace H := H.eU 0 rfl hO hB
   refine WL.nil ⟨(fa (fun _ _ => (aM.aF (H.l 0 rfl) (aJ.all _) rfl)) c5), ?_⟩
   refine WP.aC rfl rfl (PV.mM rfl xW dJ NP (Fl.cons rfl rfl (by simp only [aR, aU, Tr.aP, Tr.bN, Tr.bM]) (Laid.left (Laid.all (by simp only [aR, aU, Tr.aP, Tr.bN, Tr.bM]))) (Fl.cons rfl rfl (by simp only [aR, aU, Tr.aP, Tr.bN, Tr.bM]) (Laid.right (Laid.all (by simp only [aR, aU, Tr.aP, Tr.bN, Tr.bM])) (by simp only [aR, aU, Tr.aP, Tr.bN, Tr.bM])) Fl.nil))) ?_
   refine WP.aG rfl ?_
   refine WL.call aED rfl (aAu (X := Nil) (T := l) (mZ _) (by exact (H.bK 1 rfl).nil)) ?_
   rintro _ w9 ⟨rfl, hO⟩
   replace H := H.out hO
   refine WL.nil ⟨(fa (rk hO) c5), ?_⟩
   refine WP.aG rfl ?_
   refine WL.call aED rfl (aAu (X := Nil) (T := r) (mZ _) (by exact (H.bK 2 rfl).nil)) ?_
   rintro _ vR ⟨rfl, hO⟩
   replace H := H.out hO
   refine WL.nil ⟨(fa (rk hO) c5), ?_⟩
   refine WP.aC rfl rfl (PV.eq (v' := .int .i64 ((l.er.fU + r.er.fU : Nat) : Int)) (PV.bY rfl rfl rfl (by omega) (by omega)) (by congr 1)) ?_
   refine WP.aC rfl rfl (PV.dD rfl Y3 NO (Fl.cons rfl rfl (by simp only [aR, aU, Tr.aP, Tr.bN, Tr.bM]) (Laid.left (Laid.all (by simp only [aR, aU, Tr.aP, Tr.bN, Tr.bM]))) (Fl.cons rfl rfl (by simp only [aR, aU, Tr.aP, Tr.bN, Tr.bM]) (Laid.right (Laid.left (Laid.all (by simp only [aR, aU, Tr.aP, Tr.bN, Tr.bM]))) (by simp only [aR, aU, Tr.aP, Tr.bN, Tr.bM])) (Fl.cons rfl rfl (by simp only [aR, aU, Tr.aP, Tr.bN, Tr.bM]) (Laid.right (Laid.right (Laid.all (by simp only [aR, aU, Tr.aP, Tr.bN, Tr.bM])) rfl) (by simp only [aR, aU, Tr.aP, Tr.bN, Tr.bM])) Fl.nil)))) ?_
   refine WP.aC rfl rfl (PV.JB rfl J6) (WP.aG rfl ?_)
   refine WL.call Z5 rfl (CS (d := l.er.kN bits) (e := r.er.kN bits) (x := l.ptr) (y := r.ptr) H.aS (H.o 0 rfl) (by exact H.aK 0 rfl 0 rfl) (by exact H.aK 0 rfl 3 rfl) bR (fR _ _) (fR _ _)) ?_
   rintro _ y8 ⟨a2, m2, rfl, hO, hB, hR⟩
   replace H := H.c9 0 rfl hO hB hR
   refine WL.nil ⟨(fa (nw 16 1) c5), ?_⟩
   refine WP.as rfl rfl rfl (WP.done (WE.ret ⟨[_], _, .nil _, ⟨rfl, trivial⟩, ?_⟩))
   exact ⟨.inner a2 l r, m2, rfl, rfl, H.cL, H.o 0 rfl, (H.fL (aH.aB0 (H.bK 2 rfl) (H.bK 3 rfl) (H.bK 0 rfl))).imp fun _ h => h⟩
theorem X8 {X : Nat → Prop} {w : World} {h : Value} {bits : Int} {r : Tr} (hX : cU X w) (bT : aH X (cQ bits r) w) (hk : r.er.kind ≠ 2) :
  bF prog 140 [h, .pointer none, r.ptr].toArray w fun v w' => v = r.ptr ∧ Out Nil w w' := by
 refine bF.aI (N := 44) func140 rfl rfl (by simp) ?_
 have H := (St.begin hX).add (cE bT)
 refine WE.aA (WL.as rfl rfl (WL.nil (WE.seq (WE.aA (WL.mv rfl rfl (WL.pv (PV.iX rfl wG rfl rfl) rfl (WL.mv rfl rfl ?_)))))))
 refine WL.known (t := 10) (c := true) rfl rfl (WL.mv rfl rfl ?_)
 refine WL.call mK rfl (e9 (T := r) H.aS (H.bK 0 rfl)) ?_
 rintro _ w1 ⟨rfl, hO⟩
 replace H := H.out hO
 refine WL.pv (PV.neq rfl rfl rfl) rfl (WL.pv (PV.dB rfl rfl rfl) rfl (WL.nil ?_))
 refine WE.cO rfl (by simp [hk]) ?_
 refine WE.aA (WL.mv rfl rfl (WL.as rfl rfl (WL.nil (WE.ret ⟨[_], _, .nil _, ⟨rfl, trivial⟩, ?_⟩))))
 exact ⟨rfl, H.aL⟩
theorem X7 {X : Nat → Prop} {w : World} {h : Value} {bits : Int} {l : Tr} (hX : cU X w) (bT : aH X (cQ bits l) w) (hn : l.addr.isNone = false) (hk : l.er.kind ≠ 2) :
  bF prog 140 [h, l.ptr, .pointer none].toArray w fun v w' => v = l.ptr ∧ Out Nil w w' := by
 refine bF.aI (N := 44) func140 rfl rfl (by simp) ?_
 have H := (St.begin hX).add (cE bT)
 refine WE.aA (WL.as rfl rfl (WL.nil (WE.seq (WE.aA (WL.mv rfl rfl (WL.pv (PV.iX rfl wG rfl rfl) rfl (WL.mv rfl rfl ?_)))))))
 refine WL.known (t := 10) (c := false) rfl hn (WL.off rfl (WL.off rfl (WL.off rfl (WL.pv (PV.cZ rfl rfl rfl) rfl (WL.nil (WE.iJ rfl (WE.skip ?_)))))))
 refine WE.seq (WE.aA (WL.mv rfl rfl (WL.pv (PV.iX rfl wG rfl rfl) rfl (WL.mv rfl rfl (WL.known (t := 18) (c := true) rfl rfl (WL.mv rfl rfl ?_))))))
 refine WL.call mK rfl (e9 (T := l) H.aS (H.bK 0 rfl)) ?_
 rintro _ w1 ⟨rfl, hO⟩
 replace H := H.out hO
 refine WL.pv (PV.neq rfl rfl rfl) rfl (WL.pv (PV.dB rfl rfl rfl) rfl (WL.nil ?_))
 refine WE.cO rfl (by simp [hk]) ?_
 refine WE.aA (WL.mv rfl rfl (WL.as rfl rfl (WL.nil (WE.ret ⟨[_], _, .nil _, ⟨rfl, trivial⟩, ?_⟩))))
 exact ⟨rfl, H.aL⟩
theorem Tr.GG {T : Tr} (h : T.addr.isNone = true) : T = .nil := by cases T <;> first | rfl | cases h
theorem Tr.SR {T : Tr} (h : T ≠ .nil) : T.addr.isNone = false := by cases T <;> first | rfl | exact absurd rfl h
theorem VQ {s : Sh} (h : s.kind ≠ 2) : jX .nil s = s := by cases s <;> first | rfl | exact absurd rfl h
theorem VP {s : Sh} (h : s.kind ≠ 2) : jX s .nil = s := by cases s <;> first | rfl | exact absurd rfl h
theorem VR {s t : Sh} (h1 : s = .nil → t.kind = 2) (h2 : t = .nil → s.kind = 2) : jX s t = .inner s t := by
 cases s <;> cases t <;> first | rfl | (have := h1 rfl; simp [Sh.kind] at this; done) | (have := h2 rfl; simp [Sh.kind] at this)
theorem x7 {X : Nat → Prop} {w : World} {bh bc : Nat} {bits n : Int} {l r : Tr} (hX : cU X w) (eT : aM w bc 213 [.int .i64 n]) (bT : aH (fun c => X c ∨ c = bc) (fF bh bc bits) w)
  (dA : aH (fun c => X c ∨ c = bc) (cQ bits l) w) (fN : aH (fun c => X c ∨ c = bc) (cQ bits r) w) (jO : aH (fun c => X c ∨ c = bc) aX w) (bR : 0 ≤ bits ∧ bits ≤ 256) (QQ : l.er.fU + r.er.fU ≤ 1000000000) :
  bF prog 140 [.pointer (some ⟨bh, 0, none⟩), l.ptr, r.ptr].toArray w fun v w' => ∃ (T : Tr) (m : Int), v = T.ptr ∧ T.er = jX l.er r.er ∧ Out (· = bc) w w' ∧ aM w' bc 213 [.int .i64 m] ∧ aH (fun c => X c ∨ c = bc) (cQ bits T) w' := by
 have old : ∀ {w' : World}, Out Nil w w' → Out (· = bc) w w' ∧ aM w' bc 213 [.int .i64 n] := fun hO => ⟨hO.mono fun _ _ h => h.elim, eT.of_eq (hO.block _ eT.lt id)⟩
 have bK : ∀ {w' : World} {T : Tr}, aH (fun c => X c ∨ c = bc) (cQ bits T) w → Out Nil w w' → aH (fun c => X c ∨ c = bc) (cQ bits T) w' := fun h hO => h.out hO (fun _ _ h => h.elim) fun _ _ h => h
 by_cases h1 : l = .nil ∧ r.er.kind ≠ 2
 ·
  obtain ⟨rfl, hk⟩ := h1
  refine (X8 (X := Nil) (mZ _) fN.nil hk).mono ?_
  rintro v w' ⟨rfl, hO⟩
  exact ⟨r, n, rfl, (VQ hk).symm, (old hO).1, (old hO).2, bK fN hO⟩
 ·
  by_cases h2 : r = .nil ∧ l.er.kind ≠ 2
  ·
   obtain ⟨rfl, hk⟩ := h2
   have hn : l ≠ .nil := fun e => h1 ⟨e, by simp [Tr.er, Sh.kind]⟩
   refine (X7 (X := Nil) (mZ _) dA.nil (Tr.SR hn) hk).mono ?_
   rintro v w' ⟨rfl, hO⟩
   exact ⟨l, n, rfl, (VP hk).symm, (old hO).1, (old hO).2, bK dA hO⟩
  ·
   have e1 : l = .nil → r.er.kind = 2 := fun e => Decidable.byContradiction fun h => h1 ⟨e, h⟩
   have e2 : r = .nil → l.er.kind = 2 := fun e => Decidable.byContradiction fun h => h2 ⟨e, h⟩
   refine (X9 hX eT bT dA fN jO bR (fun h => e1 (Tr.GG h)) (fun h => e2 (Tr.GG h)) QQ).mono ?_
   rintro v w' ⟨T, m, rfl, hT, h⟩
   refine ⟨T, m, rfl, ?_, h⟩
   rw [hT, VR]
   ·
    intro e; cases l <;> first | exact e1 rfl | cases e
   ·
    intro e; cases r <;> first | exact e2 rfl | cases e
def o4 (m : List En) : Prop := ∀ e ∈ m, e.s.oneCell' = true
theorem o4.of {m : List En} {w : World} (h : eY m w) : o4 m := fun e he => cR.fH (h e he)
theorem r6 {e : En} (h : e.s.oneCell' = true) : eF (o6 e) := bO (bJ _) (bE _ (by simp [h]))
theorem GB (m : List En) (d b k : Nat) (h : k < m.length) : bP (m.take (k + 1)) d b = bP (m.take k) d b ++ (if bH m[k].k d = b then [m[k]] else []) := by
 unfold bP
 rw [List.take_succ_eq_append_getElem h, List.filter_append]
 by_cases hb : bH m[k].k d = b <;> simp [hb]
theorem OO (m : List En) (q : List UInt8) (k : Nat) (h : k < m.length) : eX (m.take (k + 1)) q = eX (m.take k) q ++ (if m[k].k ≠ q then [m[k]] else []) := by
 unfold eX
 rw [List.take_succ_eq_append_getElem h, List.filter_append]
 by_cases hb : m[k].k = q <;> simp [hb]
theorem fY.rdk {v : Value} {m : List En} {w : World} (h : fY v m w) (hk : KL m) (i : Nat) (hi : i < m.length) : cX w ((jF v (i * 33)).add 0) (kc m[i].k) :=
 cX.sub (h.rd hk i hi) (aJ.l (b := [m[i].s]) (aJ.all (kc m[i].k)))
theorem fY.rdv {v : Value} {m : List En} {w : World} (h : fY v m w) (hk : KL m) (i : Nat) (hi : i < m.length) : cX w ((jF v (i * 33)).add 32) [m[i].s] :=
 cX.sub (h.rd hk i hi) (aJ.r (a := kc m[i].k) (aJ.all [m[i].s]) (by rw [aO, hk _ (List.getElem_mem hi)]))
theorem PV.dL {P : Program} {σ : Env} {o : Oper} {s ft : TypeId} {x : Operand} {f off n : Nat} {a : Addr} (h : o.op = .fieldAddr s x f) (hf : cA P s f = some (off, ft, n + 1)) (hx : ev σ x = .pointer (some a)) :
  PV P σ o (.pointer (some (a.add off))) := fun w => by
 obtain ⟨fs, fl, i, hu, JO, h1, h2, hi, hn⟩ := nT hf
 have h3 := pC hi hn (by omega) h2 h1 a w
 simp [execOp, h, hx, Instr.fieldAt, run_underlying hu, JO, Instr.sureAddr, h3]
theorem A5 {X : Nat → Prop} {w : World} {k l : List UInt8} (hX : cU X w) (hk : k.length = 32) (hl : l.length = 32) :
  bF prog 88 [.agg (kc k).toArray, .agg (kc l).toArray].toArray w fun v w' => v = .int .i64 (gN k l) ∧ Out Nil w w' := by
 refine bF.aI (N := 24) func88 rfl rfl (by simp) ?_
 have H := St.begin hX
 refine WE.aA ?_
 refine WL.box (l := kc k) H rfl rfl rfl ?_
 intro b2 w1 H
 refine WL.box (l := kc l) H rfl rfl rfl ?_
 intro b3 w2 H
 refine WL.as rfl rfl (WL.nil (WE.seq (WE.aA (WL.as rfl rfl (WL.nil (WE.block ?_))))))
 refine WE.loop (α := Nat) (rg [(4, 20)]) (fun i => [(5, .int .i64 i)]) (fun i wl => i ≤ 32 ∧ k.take i = l.take i ∧ St X w wl [] [aN.blk b3 24 (kc l), aN.blk b2 24 (kc k)] []) (fun i => 32 - i) 0 ⟨rfl, trivial⟩ ⟨Nat.zero_le _, by simp, H⟩ ?_
 intro i γ0 w3 hI
 try dsimp only at hI
 obtain ⟨hi, hpre, H⟩ := hI
 refine WE.seq (WE.aA (WL.mv rfl rfl (WL.pv (PV.lss rfl rfl rfl) rfl (WL.nil ?_))))
 refine WE.cond rfl (fun yU => ?_) (fun yU => ?_)
 ·
  try simp only [bU] at yU
  have hlt : i < 32 := by omega
  refine WE.skip (WE.seq (WE.block (WE.seq ?_)))
  refine WE.bG (.take 0 (.take 1 (.take 2 (.take 3 (.take 4 (.take 5 (.take 6 .done))))))) mixed (by kernel_rfl) ?_
  replace H := H.out (Out.drew _)
  refine WP.mv rfl rfl rfl (WP.aC rfl rfl (PV.cF rfl gM gY rfl rfl (by omega) (by omega)) (WP.aQ rfl rfl (RV.aZ rfl CE rfl) (aM.aF (H.l 1 rfl) (aJ.byte i (by omega)) (by simp)) (WP.mv rfl rfl rfl (WP.aC rfl rfl (PV.cF rfl gM gY rfl rfl (by omega) (by omega)) (WP.aQ rfl rfl (RV.aZ rfl CE rfl) (aM.aF (H.l 0 rfl) (aJ.byte i (by omega)) (by simp)) (WP.aC rfl rfl (PV.lss rfl rfl rfl) (WP.done ?_)))))))
  refine WE.cond rfl (fun tN => ?_) (fun tN => ?_)
  ·
   try simp only [bU] at tN
   have aBh := pS (by omega) i (by omega) hpre (by omega)
   refine WE.aA (WL.as rfl rfl (WL.nil (WE.ret ⟨[_], _, .nil _, ⟨rfl, trivial⟩, ?_⟩)))
   refine ⟨?_, H.aL⟩
   rw [gN, if_pos aBh]; rfl
  ·
   try simp only [bU] at tN
   refine WE.skip ?_
   refine WE.bG (.take 0 (.take 1 (.take 2 (.take 3 (.take 4 (.take 5 (.take 6 .done))))))) mixed (by kernel_rfl) ?_
   replace H := H.out (Out.drew _)
   refine WP.mv rfl rfl rfl (WP.aC rfl rfl (PV.cF rfl gM gY rfl rfl (by omega) (by omega)) (WP.aQ rfl rfl (RV.aZ rfl CE rfl) (aM.aF (H.l 1 rfl) (aJ.byte i (by omega)) (by simp)) (WP.mv rfl rfl rfl (WP.aC rfl rfl (PV.cF rfl gM gY rfl rfl (by omega) (by omega)) (WP.aQ rfl rfl (RV.aZ rfl CE rfl) (aM.aF (H.l 0 rfl) (aJ.byte i (by omega)) (by simp)) (WP.aC rfl rfl (PV.gtr rfl rfl rfl) (WP.done ?_)))))))
   refine WE.cond rfl (fun lL => ?_) (fun lL => ?_)
   ·
    try simp only [bU] at lL
    have aBh := pS (a := l) (b := k) (by omega) i (by omega) hpre.symm (by omega)
    refine WE.aA (WL.as rfl rfl (WL.nil (WE.ret ⟨[_], _, .nil _, ⟨rfl, trivial⟩, ?_⟩)))
    refine ⟨?_, H.aL⟩
    rw [gN, if_neg (by omega), if_pos aBh]; rfl
   ·
    try simp only [bU] at lL
    have heq : k[i] = l[i] := UInt8.toNat_inj.1 (by omega)
    have aDF : k.take (i + 1) = l.take (i + 1) := by rw [List.take_succ_eq_append_getElem (by omega), List.take_succ_eq_append_getElem (by omega), hpre, heq]
    refine WE.skip (WE.eH (WL.mv rfl rfl (WL.pv (PV.bY rfl rfl rfl (by omega) (by omega)) rfl (WL.as rfl rfl (WL.nil ?_)))))
    exact ⟨i + 1, (by repeat (first | with_reducible exact bQ.refl _ _ | refine bQ.dG rfl ?_ | refine bQ.cC rfl ?_ | refine bQ.cB rfl ?_)), ⟨rfl, trivial⟩, rfl, ⟨by omega, aDF, H⟩, (by omega)⟩
 ·
  try simp only [bU] at yU
  have aHM : i = 32 := by omega
  refine WE.exit (WE.aA (WL.as rfl rfl (WL.nil (WE.ret ⟨[_], _, .nil _, ⟨rfl, trivial⟩, ?_⟩))))
  refine ⟨?_, H.aL⟩
  have e : k = l := by rw [← List.take_of_length_le (show k.length ≤ i by omega), ← List.take_of_length_le (show l.length ≤ i by omega), hpre]
  rw [e, gN, if_neg (by omega), if_neg (by omega)]; rfl
theorem aIR {X : Nat → Prop} {w : World} {s : Value} {m : List En} {d b : Nat} (hX : cU X w) (bT : aH X (fY s m) w) (pT : KL m) (fV : o4 m) (hlen : m.length ≤ 1000000) (hd : d < 256) :
  bF prog 66 [s, .int .i64 (d : Int), .int .i64 (b : Int)].toArray w fun v w' => Out Nil w w' ∧ aH X (fY v (bP m d b)) w' := by
 refine bF.aI (N := 32) func66 rfl rfl (by simp) ?_
 have H := (St.begin hX).add (cE bT)
 refine WE.aA (WL.as rfl rfl (WL.nil (WE.aA (WL.as rfl rfl (WL.nil (WE.seq (WE.aA ?_)))))))
 refine WL.as rfl rfl (WL.nil (WE.block ?_))
 replace H := H.lK 111 33
 refine WE.loop (α := Nat × Value) (rg [(7, 24)]) (fun p => [(8, .int .i64 p.1), (7, p.2)]) (fun p wl => p.1 ≤ m.length ∧ St X w wl [] [aN.iA w.heap.size p.2 111 33 (bP (m.take p.1) d b).length ((bP (m.take p.1) d b).flatMap o6)] [fY s m]) (fun p => m.length - p.1) (0, .slice none 0 0) ⟨rfl, rfl, trivial⟩ ⟨Nat.zero_le _, H⟩ ?_
 intro ⟨k, v⟩ γ0 w1 hI
 try dsimp only at hI
 obtain ⟨hk, H⟩ := hI
 refine WE.seq (WE.aA (WL.mv rfl rfl (WL.mv rfl rfl (WL.pv (PV.dO (H.p 0 rfl : fY s m _) s7 rfl) rfl (WL.pv (PV.lss rfl rfl rfl) rfl (WL.nil ?_))))))
 refine WE.cond rfl (fun k3 => ?_) (fun k3 => ?_)
 ·
  try simp only [bU] at k3
  have hlt : k < m.length := by omega
  have hE : (o6 m[k]).length = 1 * 33 := kF (pT _ (List.getElem_mem hlt))
  have hE2 : (o6 m[k]).length = 33 := hE
  have hkk := pT _ (List.getElem_mem hlt)
  have vB : (bP (m.take k) d b).length ≤ k := Nat.le_trans (List.length_filter_le _ _) (by simp; omega)
  have hS := GB m d b k hlt
  have hB : MS m[k].k (d : Int) = (bH m[k].k d : Int) := by rw [MS, if_neg (by omega), Int.toNat_natCast]
  refine WE.skip ?_
  refine WE.cut (α := Value) (rg [(7, 1), (15, 16)]) (fun nH => [(7, nH)]) (fun nH wl => St X w wl [] [aN.iA w.heap.size nH 111 33 (bP (m.take (k + 1)) d b).length ((bP (m.take (k + 1)) d b).flatMap o6)] [fY s m]) ?_ ?_
  ·
   refine WE.block (WE.aA (WL.mv rfl rfl (WL.mv rfl rfl (WL.pv (PV.eO rfl (H.p 0 rfl : fY s m _) s7 fK rfl rfl (by omega) (by omega)) rfl (WL.pv (PV.dL rfl gR rfl) rfl ?_)))))
   refine WL.bC rfl cV rfl rfl (fY.rdk (H.p 0 rfl) pT k hlt) (cH cM (by simp only [aR, aU]; omega)) ?_
   refine WL.mv rfl rfl ?_
   refine WL.call aFV rfl (OW (l := m[k].k) (i := (d : Int)) H.aS hkk (by omega)) ?_
   rintro _ w2 ⟨rfl, hO⟩
   replace H := H.out hO
   refine WL.mv rfl rfl (WL.pv (PV.eql rfl rfl rfl) rfl (WL.nil ?_))
   refine WE.cond rfl (fun lL => ?_) (fun lL => ?_)
   ·
    try simp only [bU] at lL
    rw [if_pos (by omega)] at hS
    refine WE.eH (WL.mv rfl rfl (WL.mv rfl rfl (WL.mv rfl rfl (WL.pv (PV.eO rfl (H.p 0 rfl : fY s m _) s7 fK rfl rfl (by omega) (by omega)) rfl ?_))))
    refine WL.bC rfl oU rfl rfl (fY.rd (H.p 0 rfl) pT k hlt) (by (rw [fK]; refine congrArg some ?_; (simp [aO, bA, *]; done))) ?_
    refine WL.bL (l0 := ((kc (List.replicate 32 0) ++ ([.slice none 0 0])))) H rfl yJ (by decide) rfl (Fl.cons rfl rfl (by simp only [aR, aU]; omega) (Laid.all (by simp only [aR, aU]; omega)) Fl.nil) rfl ?_
    intro b29 w3 H
    refine WL.append (m := 1) H 1 yJ (by decide) rfl rfl rfl (cR.bZ (n := 1) (H.l 0 rfl) hE) (r6 (fV _ (List.getElem_mem hlt))) (by omega) (by decide) rfl ?_
    intro v30 w4 H
    have BW := congrArg List.length hS
    rw [List.length_append, show [m[k]].length = 1 from rfl] at BW
    have ED := congrArg (List.flatMap o6) hS
    rw [List.flatMap_append, List.flatMap_singleton] at ED
    replace H := H.forget 0
    replace H := H.conv (L' := [aN.iA w.heap.size v30 111 33 (bP (m.take (k + 1)) d b).length ((bP (m.take (k + 1)) d b).flatMap o6)]) (by rw [BW, ED]; rfl)
    refine WL.as rfl rfl (WL.nil ?_)
    exact ⟨v30, (by repeat (first | with_reducible exact bQ.refl _ _ | refine bQ.dG rfl ?_)), ⟨rfl, trivial⟩, rfl, H⟩
   ·
    try simp only [bU] at lL
    rw [if_neg (by omega), List.append_nil] at hS
    refine WE.skip ?_
    exact ⟨v, (by repeat (first | with_reducible exact bQ.refl _ _ | refine bQ.dG rfl ?_)), ⟨rfl, trivial⟩, rfl, H.conv (by rw [hS])⟩
  ·
   intro nH γ w5 hI
   try dsimp only at hI
   replace H := hI
   refine WE.eH (WL.mv rfl rfl (WL.pv (PV.bY rfl rfl rfl (by omega) (by omega)) rfl (WL.as rfl rfl (WL.nil ?_))))
   exact ⟨(k + 1, nH), (by repeat (first | with_reducible exact bQ.refl _ _ | refine bQ.dG rfl ?_ | refine bQ.cC rfl ?_ | refine bQ.cB rfl ?_)), ⟨rfl, rfl, trivial⟩, rfl, ⟨by dsimp only; omega, H⟩, (by dsimp only; omega)⟩
 ·
  try simp only [bU] at k3
  have T4 : m.take k = m := List.take_of_length_le (by omega)
  refine WE.exit (WE.aA (WL.mv rfl rfl (WL.as rfl rfl (WL.nil (WE.ret ⟨[_], _, .nil _, ⟨rfl, trivial⟩, ?_⟩)))))
  replace H := H.freeze (i := 0) rfl
  exact ⟨H.aL, H.gQ ((H.bK 0 rfl).imp fun _ h => by rw [T4] at h; exact cR.eM h)⟩
theorem xZ {X : Nat → Prop} {w : World} {s : Value} {m : List En} {q : List UInt8} (hX : cU X w) (bT : aH X (fY s m) w) (pT : KL m) (fV : o4 m) (hlen : m.length ≤ 1000000) (hq : q.length = 32) :
  bF prog 47 [s, .agg (kc q).toArray].toArray w fun v w' => Out Nil w w' ∧ aH X (fY v (eX m q)) w' := by
 refine bF.aI (N := 28) func47 rfl rfl (by simp) ?_
 have H := (St.begin hX).add (cE bT)
 refine WE.aA ?_
 refine WL.box (l := kc q) H rfl rfl rfl ?_
 intro b3 w1 H
 refine WL.as rfl rfl (WL.nil (WE.aA (WL.as rfl rfl (WL.nil (WE.seq (WE.aA (WL.as rfl rfl ?_)))))))
 refine WL.nil (WE.block ?_)
 replace H := H.lK 111 33
 refine WE.loop (α := Nat × Value) (rg [(5, 22)]) (fun p => [(6, .int .i64 p.1), (5, p.2)]) (fun p wl => p.1 ≤ m.length ∧ St X w wl [] [aN.iA w.heap.size p.2 111 33 (eX (m.take p.1) q).length ((eX (m.take p.1) q).flatMap o6), aN.blk b3 24 (kc q)] [fY s m]) (fun p => m.length - p.1) (0, .slice none 0 0) ⟨rfl, rfl, trivial⟩ ⟨Nat.zero_le _, H⟩ ?_
 intro ⟨k, v⟩ γ0 w2 hI
 try dsimp only at hI
 obtain ⟨hk, H⟩ := hI
 refine WE.seq (WE.aA (WL.mv rfl rfl (WL.mv rfl rfl (WL.pv (PV.dO (H.p 0 rfl : fY s m _) s7 rfl) rfl (WL.pv (PV.lss rfl rfl rfl) rfl (WL.nil ?_))))))
 refine WE.cond rfl (fun kW => ?_) (fun kW => ?_)
 ·
  try simp only [bU] at kW
  have hlt : k < m.length := by omega
  have hE : (o6 m[k]).length = 1 * 33 := kF (pT _ (List.getElem_mem hlt))
  have hE2 : (o6 m[k]).length = 33 := hE
  have hkk := pT _ (List.getElem_mem hlt)
  have vB : (eX (m.take k) q).length ≤ k := Nat.le_trans (List.length_filter_le _ _) (by simp; omega)
  have hS := OO m q k hlt
  refine WE.skip ?_
  refine WE.cut (α := Value) (rg [(5, 1), (13, 14)]) (fun nH => [(5, nH)]) (fun nH wl => St X w wl [] [aN.iA w.heap.size nH 111 33 (eX (m.take (k + 1)) q).length ((eX (m.take (k + 1)) q).flatMap o6), aN.blk b3 24 (kc q)] [fY s m]) ?_ ?_
  ·
   refine WE.block ?_
   refine WE.bG (.take 0 (.take 1 (.take 2 (.take 3 (.take 4 (.take 5 (.take 6 .done))))))) mixed (by kernel_rfl) ?_
   replace H := H.out (Out.drew _)
   refine WP.mv rfl rfl rfl (WP.mv rfl rfl rfl (WP.aC rfl rfl (PV.eO rfl (H.p 0 rfl : fY s m _) s7 fK rfl rfl (by omega) (by omega)) (WP.aC rfl rfl (PV.dL rfl gR rfl) ?_)))
   refine WP.dF rfl rfl rfl cV rfl (fY.rdk (H.p 0 rfl) pT k hlt) (cH cM (by simp only [aR, aU]; omega)) ?_
   refine WP.dF rfl rfl rfl cV rfl (aM.aF (H.l 1 rfl) (aJ.all _) rfl) (cH cM (by simp only [aR, aU]; omega)) ?_
   refine WP.aC rfl rfl (PV.PM rfl gM oW gY (by kernel_rfl) rfl rfl (by assumption) (by assumption)) (WP.done ?_)
   refine WE.cond rfl (fun jL => ?_) (fun jL => ?_)
   ·
    try simp only [bU] at jL
    rw [if_pos jL] at hS
    refine WE.eH (WL.mv rfl rfl (WL.mv rfl rfl (WL.mv rfl rfl (WL.pv (PV.eO rfl (H.p 0 rfl : fY s m _) s7 fK rfl rfl (by omega) (by omega)) rfl ?_))))
    refine WL.bC rfl oU rfl rfl (fY.rd (H.p 0 rfl) pT k hlt) (by (rw [fK]; refine congrArg some ?_; (simp [aO, bA, *]; done))) ?_
    refine WL.bL (l0 := ((kc (List.replicate 32 0) ++ ([.slice none 0 0])))) H rfl yJ (by decide) rfl (Fl.cons rfl rfl (by simp only [aR, aU]; omega) (Laid.all (by simp only [aR, aU]; omega)) Fl.nil) rfl ?_
    intro b25 w3 H
    refine WL.append (m := 1) H 1 yJ (by decide) rfl rfl rfl (cR.bZ (n := 1) (H.l 0 rfl) hE) (r6 (fV _ (List.getElem_mem hlt))) (by omega) (by decide) rfl ?_
    intro v26 w4 H
    have BW := congrArg List.length hS
    rw [List.length_append, show [m[k]].length = 1 from rfl] at BW
    have ED := congrArg (List.flatMap o6) hS
    rw [List.flatMap_append, List.flatMap_singleton] at ED
    replace H := H.forget 0
    replace H := H.conv (L' := [aN.iA w.heap.size v26 111 33 (eX (m.take (k + 1)) q).length ((eX (m.take (k + 1)) q).flatMap o6), aN.blk b3 24 (kc q)]) (by rw [BW, ED]; rfl)
    refine WL.as rfl rfl (WL.nil ?_)
    exact ⟨v26, (by repeat (first | with_reducible exact bQ.refl _ _ | refine bQ.dG rfl ?_)), ⟨rfl, trivial⟩, rfl, H⟩
   ·
    try simp only [bU] at jL
    rw [if_neg (by simp [jL]), List.append_nil] at hS
    refine WE.skip ?_
    exact ⟨v, (by repeat (first | with_reducible exact bQ.refl _ _ | refine bQ.dG rfl ?_)), ⟨rfl, trivial⟩, rfl, H.conv (by rw [hS])⟩
  ·
   intro nH γ w5 hI
   try dsimp only at hI
   replace H := hI
   refine WE.eH (WL.mv rfl rfl (WL.pv (PV.bY rfl rfl rfl (by omega) (by omega)) rfl (WL.as rfl rfl (WL.nil ?_))))
   exact ⟨(k + 1, nH), (by repeat (first | with_reducible exact bQ.refl _ _ | refine bQ.dG rfl ?_ | refine bQ.cC rfl ?_ | refine bQ.cB rfl ?_)), ⟨rfl, rfl, trivial⟩, rfl, ⟨by dsimp only; omega, H⟩, (by dsimp only; omega)⟩
 ·
  try simp only [bU] at kW
  have T4 : m.take k = m := List.take_of_length_le (by omega)
  refine WE.exit (WE.aA (WL.mv rfl rfl (WL.as rfl rfl (WL.nil (WE.ret ⟨[_], _, .nil _, ⟨rfl, trivial⟩, ?_⟩)))))
  replace H := H.freeze (i := 0) rfl
  exact ⟨H.aL, H.gQ ((H.bK 0 rfl).imp fun _ h => by rw [T4] at h; exact cR.eM h)⟩
def PF (e : En) (M : List En) (k : Nat) : List En × Bool := (M.take k).foldl (n9 e) ([], false)
def PA (e : En) (M : List En) (k : Nat) : List En × Bool := if (PF e M k).2 = false ∧ num e.k < num (M.getD k e).k then ((PF e M k).1 ++ [e], true) else PF e M k
theorem BZ {M : List En} {k : Nat} {e : En} (h : k < M.length) : M.getD k e = M[k] := by rw [List.getD_eq_getElem?_getD, List.getElem?_eq_getElem h]; rfl
theorem KN (e : En) (M : List En) (k : Nat) (h : k < M.length) : PF e M (k + 1) = ((PA e M k).1 ++ [M[k]], (PA e M k).2) := by
 unfold PF PA
 rw [List.take_succ_eq_append_getElem h, List.foldl_append, List.foldl_cons, List.foldl_nil, BZ h]
 show n9 e (PF e M k) _ = _
 unfold n9
 split <;> simp
theorem IB (e : En) (M : List En) (k : Nat) : (PF e M k).1.length ≤ k + 1 := by
 have h : ∀ (l out : List En) (b : Bool), (l.foldl (n9 e) (out, b)).1.length ≤ out.length + l.length + (if b then 0 else 1) := by
  intro l
  induction l with
  | nil => intro out b; simp
  | cons x l ih =>
   intro out b
   rw [List.foldl_cons]
   by_cases hb : b = false ∧ num e.k < num x.k
   ·
    have : n9 e (out, b) x = (out ++ [e, x], true) := by simp [n9, hb]
    rw [this]
    have := ih (out ++ [e, x]) true
    simp [hb.1] at this ⊢; omega
   ·
    have : n9 e (out, b) x = (out ++ [x], b) := by unfold n9; rw [if_neg hb]
    rw [this]
    have := ih (out ++ [x]) b
    simp at this ⊢; omega
 have := h (M.take k) [] false
 simp at this
 unfold PF
 omega
theorem aCf (e : En) (M : List En) (k : Nat) : (PA e M k).1.length ≤ k + 2 := by
 have := IB e M k
 unfold PA; split <;> simp <;> omega
theorem aCe (e : En) (M : List En) : gJ M e = (if (PF e (eX M e.k) (eX M e.k).length).2 = true then (PF e (eX M e.k) (eX M e.k).length).1 else (PF e (eX M e.k) (eX M e.k).length).1 ++ [e]) := by
 have := OY e (eX M e.k) []
 unfold gJ PF
 rw [List.take_length, List.nil_append] at *
 rw [← this]
 cases ((eX M e.k).foldl (n9 e) ([], false)).2 <;> rfl
theorem OR {m : List En} {k : List UInt8} (h : KL m) : KL (eX m k) := fun e he => h e (iO.1 he).1
theorem U2 {m : List En} {k : List UInt8} (h : o4 m) : o4 (eX m k) := fun e he => h e (iO.1 he).1
theorem u7 (m : List En) (k : List UInt8) : (eX m k).length ≤ m.length := List.length_filter_le _ _
theorem aAt {X : Nat → Prop} {w : World} {s vs : Value} {m : List En} {q vv : List UInt8} (hX : cU X w) (bT : aH X (fY s m) w) (dA : aH X (bI vs vv) w) (pT : KL m) (fV : o4 m) (hlen : m.length ≤ 1000000) (hq : q.length = 32) :
  bF prog 44 [s, .agg (kc q).toArray, vs].toArray w fun v w' => Out Nil w w' ∧ aH X (fY v (gJ m (En.mk q vs vv))) w' := by
 refine bF.aI (N := 54) func44 rfl rfl (by simp) ?_
 have H := ((St.begin hX).add (cE dA)).add (cE bT)
 refine WE.aA ?_
 refine WL.box (l := kc q) H rfl rfl rfl ?_
 intro b4 w1 H
 refine WL.as rfl rfl (WL.nil (WE.aA (WL.as rfl rfl (WL.nil (WE.aA (WL.as rfl rfl (WL.nil ?_)))))))
 refine WE.aA (WL.mv rfl rfl ?_)
 refine WL.bC rfl cV rfl rfl (aM.aF (H.l 0 rfl) (aJ.all _) rfl) (cH cM (by simp only [aR, aU]; omega)) ?_
 refine WL.call aBL rfl (xZ  H.aS (by exact H.bK 0 rfl) (by assumption) (by assumption) (by assumption) (by assumption)) ?_
 rintro v13 w2 ⟨hO, hR⟩
 replace H := (H.out hO).add hR
 refine WL.as rfl rfl (WL.nil (WE.seq (WE.aA (WL.as rfl rfl (WL.nil (WE.block ?_))))))
 have V4 := OR (k := q) pT
 have aDG := U2 (k := q) fV
 have hlM := u7 m q
 have hvs : vs.oneCell' = true := cR.fH (H.p 2 rfl : bI vs vv _)
 replace H := H.lK 111 33
 refine WE.loop (α := Nat × Value) (rg [(7, 2), (10, 1), (14, 31)]) (fun p => [(10, .int .i64 p.1), (7, p.2), (8, .bool (PF (En.mk q vs vv) (eX m q) p.1).2)]) (fun p wl => p.1 ≤ (eX m q).length ∧ St X w wl [] [aN.iA w.heap.size p.2 111 33 ((PF (En.mk q vs vv) (eX m q) p.1).1).length (((PF (En.mk q vs vv) (eX m q) p.1).1).flatMap o6), aN.blk b4 24 (kc q)] [fY v13 (eX m q), fY s m, bI vs vv]) (fun p => (eX m q).length - p.1) (0, .slice none 0 0) ⟨rfl, rfl, rfl, trivial⟩ ⟨Nat.zero_le _, H⟩ ?_
 intro ⟨k, v⟩ γ0 w3 hI
 try dsimp only at hI
 obtain ⟨hk, H⟩ := hI
 refine WE.seq (WE.aA (WL.mv rfl rfl (WL.mv rfl rfl (WL.pv (PV.dO (H.p 0 rfl : fY _ (eX m q) _) s7 rfl) rfl (WL.pv (PV.lss rfl rfl rfl) rfl (WL.nil ?_))))))
 refine WE.cond rfl (fun iB => ?_) (fun iB => ?_)
 ·
  try simp only [bU] at iB
  have hlt : k < (eX m q).length := by omega
  have hE : (o6 (eX m q)[k]).length = 1 * 33 := kF (V4 _ (List.getElem_mem hlt))
  have hE2 : (o6 (eX m q)[k]).length = 33 := hE
  have hkk := V4 _ (List.getElem_mem hlt)
  have vB := IB (En.mk q vs vv) (eX m q) k
  have aJv := aCf (En.mk q vs vv) (eX m q) k
  have hq1 : (o6 (En.mk q vs vv)).length = 1 * 33 := kF hq
  have LX : (o6 (En.mk q vs vv)).length = 33 := hq1
  refine WE.skip (WE.seq (WE.block ?_))
  refine WE.cut (α := Value × Bool) (rg [(7, 2), (20, 18)]) (fun nH => [(7, nH.1), (8, .bool nH.2)]) (fun nH wl => nH.2 = (PA (En.mk q vs vv) (eX m q) k).2 ∧ St X w wl [] [aN.iA w.heap.size nH.1 111 33 ((PA (En.mk q vs vv) (eX m q) k).1).length (((PA (En.mk q vs vv) (eX m q) k).1).flatMap o6), aN.blk b4 24 (kc q)] [fY v13 (eX m q), fY s m, bI vs vv]) ?_ ?_
  ·
   refine WE.bG (.take 0 (.take 1 (.take 2 (.take 3 (.take 4 (.take 5 (.take 6 (.take 7 (.take 8 (.aG 9 (.take 10 (.take 11 .done)))))))))))) mixed (by kernel_rfl) ?_
   replace H := H.out (Out.drew _)
   refine WP.mv rfl rfl rfl (WP.aC rfl rfl (PV.not rfl rfl) (WP.mv rfl rfl rfl ?_))
   refine WP.split (t := 22) rfl (fun sD => ?_) (fun sD => ?_)
   ·
    refine WP.known (t := 21) (c := true) rfl sD ?_
    try simp only [bU] at sD
    refine WP.dF rfl rfl rfl cV rfl (aM.aF (H.l 1 rfl) (aJ.all _) rfl) (cH cM (by simp only [aR, aU]; omega)) ?_
    refine WP.mv rfl rfl rfl (WP.mv rfl rfl rfl ?_)
    refine WP.aC rfl rfl (PV.eO rfl (by exact H.p 0 rfl : fY _ (eX m q) _) s7 fK rfl rfl (by omega) (by omega)) ?_
    refine WP.aC rfl rfl (PV.dL rfl gR rfl) ?_
    refine WP.dF rfl rfl rfl cV rfl (fY.rdk (H.p 0 rfl) V4 k hlt) (cH cM (by simp only [aR, aU]; omega)) ?_
    refine WP.aG rfl ?_
    refine WL.call aH8 rfl (A5  H.aS  (by assumption) (by assumption)) ?_
    rintro _ w4 ⟨rfl, hO⟩
    replace H := H.out hO
    refine WL.nil ⟨(fa (nw 9 8) (fa (nw 9 3) c5)), ?_⟩
    refine WP.aC rfl rfl (PV.lss rfl rfl rfl) (WP.aC rfl rfl (PV.dB rfl rfl rfl) (WP.done ?_))
    refine WE.cond rfl (fun kC => ?_) (fun kC => ?_)
    ·
     try simp only [bU] at kC
     have hif : (PF (En.mk q vs vv) (eX m q) k).2 = false ∧ num q < num (eX m q)[k].k := by exact ⟨by simpa using sD, lP.1 (by simpa using kC)⟩
     have ZV : (PA (En.mk q vs vv) (eX m q) k) = ((PF (En.mk q vs vv) (eX m q) k).1 ++ [(En.mk q vs vv)], true) := by rw [PA, if_pos (by rw [BZ hlt]; exact hif)]
     have hS : (PA (En.mk q vs vv) (eX m q) k).1 = (PF (En.mk q vs vv) (eX m q) k).1 ++ [(En.mk q vs vv)] := by rw [ZV]
     refine WE.aA (WL.mv rfl rfl ?_)
     refine WL.bC rfl cV rfl rfl (aM.aF (H.l 1 rfl) (aJ.all _) rfl) (cH cM (by simp only [aR, aU]; omega)) ?_
     refine WL.mv rfl rfl ?_
     refine WL.pv (PV.dD rfl wI kO (Fl.cons rfl rfl (by simp only [aR, aU]; omega) (Laid.left (Laid.all (by simp only [aR, aU]; omega))) (Fl.cons rfl (cR.cells (H.p 2 rfl : bI vs vv _)) (by simp only [aR, aU]) (Laid.right (Laid.all (by simp only [aR, aU])) (by simp only [aR, aU]; omega)) Fl.nil))) rfl ?_
     refine WL.bL (l0 := ((kc (List.replicate 32 0) ++ ([.slice none 0 0])))) H rfl yJ (by decide) rfl (Fl.cons rfl rfl (by simp only [aR, aU]; omega) (Laid.all (by simp only [aR, aU]; omega)) Fl.nil) rfl ?_
     intro b36 w5 H
     refine WL.append (m := 1) H 1 yJ (by decide) rfl rfl rfl (cR.bZ (n := 1) (H.l 0 rfl) hq1) (r6 (e := (En.mk q vs vv)) hvs) (by omega) (by decide) rfl ?_
     intro v37 w6 H
     have BW := congrArg List.length hS
     rw [List.length_append, show [(En.mk q vs vv)].length = 1 from rfl] at BW
     have ED := congrArg (List.flatMap o6) hS
     rw [List.flatMap_append, List.flatMap_singleton] at ED
     replace H := H.forget 0
     replace H := H.conv (L' := [aN.iA w.heap.size v37 111 33 ((PA (En.mk q vs vv) (eX m q) k).1).length (((PA (En.mk q vs vv) (eX m q) k).1).flatMap o6), aN.blk b4 24 (kc q)]) (by rw [BW, ED]; rfl)
     refine WL.as rfl rfl (WL.nil (WE.eH (WL.as rfl rfl (WL.nil ?_))))
     exact ⟨(v37, true), (by repeat (first | with_reducible exact bQ.refl _ _ | refine bQ.dG rfl ?_)), ⟨rfl, rfl, trivial⟩, rfl, ⟨by rw [ZV], H⟩⟩
    ·
     try simp only [bU] at kC
     have ZV : (PA (En.mk q vs vv) (eX m q) k) = PF (En.mk q vs vv) (eX m q) k := by rw [PA, if_neg (by rw [BZ hlt]; rintro ⟨h1, h2⟩; (have h3 := lP.2 (show num q < num (eX m q)[k].k from h2); omega))]
     refine WE.skip ?_
     exact ⟨(v, (PF (En.mk q vs vv) (eX m q) k).2), (by repeat (first | with_reducible exact bQ.refl _ _ | refine bQ.dG rfl ?_)), ⟨rfl, rfl, trivial⟩, rfl, ⟨by rw [ZV], H.conv (by rw [ZV])⟩⟩
   ·
    refine WP.known (t := 21) (c := false) rfl sD ?_
    try simp only [bU] at sD
    have ZV : (PA (En.mk q vs vv) (eX m q) k) = PF (En.mk q vs vv) (eX m q) k := by rw [PA, if_neg (by rw [sD]; rintro ⟨h1, _⟩; cases h1)]
    refine WP.dQ rfl rfl (WP.dQ rfl rfl (WP.dQ rfl rfl (WP.dQ rfl rfl (WP.dQ rfl rfl (WP.dQ rfl rfl (WP.aG rfl (WL.off rfl ?_)))))))
    refine WL.nil ⟨c5, ?_⟩
    refine WP.dQ rfl rfl (WP.aC rfl rfl (PV.cZ rfl rfl rfl) (WP.done (WE.iJ rfl (WE.skip ?_))))
    exact ⟨(v, (PF (En.mk q vs vv) (eX m q) k).2), (by repeat (first | with_reducible exact bQ.refl _ _ | refine bQ.dG rfl ?_)), ⟨rfl, rfl, trivial⟩, rfl, ⟨by rw [ZV], H.conv (by rw [ZV])⟩⟩
  ·
   intro ⟨g1v, g1b⟩ γ w7 hI
   try dsimp only at hI
   obtain ⟨aDV, H⟩ := hI
   have hPS := congrArg Prod.snd (KN (En.mk q vs vv) (eX m q) k hlt)
   dsimp only at hPS
   rw [← hPS] at aDV
   subst aDV
   refine WE.eH (WL.mv rfl rfl (WL.mv rfl rfl (WL.mv rfl rfl ?_)))
   refine WL.pv (PV.eO rfl (by exact H.p 0 rfl : fY _ (eX m q) _) s7 fK rfl rfl (by omega) (by omega)) rfl ?_
   refine WL.bC rfl oU rfl rfl (fY.rd (H.p 0 rfl) V4 k hlt) (by (rw [fK]; refine congrArg some ?_; (simp [aO, bA, *]; done))) ?_
   refine WL.bL (l0 := ((kc (List.replicate 32 0) ++ ([.slice none 0 0])))) H rfl yJ (by decide) rfl (Fl.cons rfl rfl (by simp only [aR, aU]; omega) (Laid.all (by simp only [aR, aU]; omega)) Fl.nil) rfl ?_
   intro b43 w8 H
   have hS := congrArg Prod.fst (KN (En.mk q vs vv) (eX m q) k hlt)
   dsimp only at hS
   refine WL.append (m := 1) H 1 yJ (by decide) rfl rfl rfl (cR.bZ (n := 1) (H.l 0 rfl) hE) (r6 (aDG _ (List.getElem_mem hlt))) (by omega) (by decide) rfl ?_
   intro v44 w9 H
   have BW := congrArg List.length hS
   rw [List.length_append, show [(eX m q)[k]].length = 1 from rfl] at BW
   have ED := congrArg (List.flatMap o6) hS
   rw [List.flatMap_append, List.flatMap_singleton] at ED
   replace H := H.forget 0
   replace H := H.conv (L' := [aN.iA w.heap.size v44 111 33 ((PF (En.mk q vs vv) (eX m q) (k + 1)).1).length (((PF (En.mk q vs vv) (eX m q) (k + 1)).1).flatMap o6), aN.blk b4 24 (kc q)]) (by rw [BW, ED]; rfl)
   refine WL.as rfl rfl (WL.nil (WE.eH (WL.mv rfl rfl (WL.pv (PV.bY rfl rfl rfl (by omega) (by omega)) rfl (WL.as rfl rfl (WL.nil ?_))))))
   exact ⟨(k + 1, v44), (by repeat (first | with_reducible exact bQ.refl _ _ | refine bQ.dG rfl ?_ | refine bQ.cC rfl ?_ | refine bQ.cB rfl ?_)), ⟨rfl, rfl, rfl, trivial⟩, rfl, ⟨by dsimp only; omega, H⟩, (by dsimp only; omega)⟩
 ·
  try simp only [bU] at iB
  have T4 : k = (eX m q).length := by omega
  have vB := IB (En.mk q vs vv) (eX m q) k
  have hq1 : (o6 (En.mk q vs vv)).length = 1 * 33 := kF hq
  have LX : (o6 (En.mk q vs vv)).length = 33 := hq1
  have hpe := aCe (En.mk q vs vv) m
  refine WE.exit (WE.seq (WE.aA (WL.mv rfl rfl (WL.pv (PV.not rfl rfl) rfl (WL.nil ?_)))))
  refine WE.cond rfl (fun QV => ?_) (fun QV => ?_)
  ·
   try simp only [bU] at QV
   have hS : gJ m (En.mk q vs vv) = (PF (En.mk q vs vv) (eX m q) k).1 ++ [(En.mk q vs vv)] := by rw [hpe, if_neg (by rw [← T4]; simpa using QV), T4]
   refine WE.eH (WL.mv rfl rfl ?_)
   refine WL.bC rfl cV rfl rfl (aM.aF (H.l 1 rfl) (aJ.all _) rfl) (cH cM (by simp only [aR, aU]; omega)) ?_
   refine WL.mv rfl rfl ?_
   refine WL.pv (PV.dD rfl wI kO (Fl.cons rfl rfl (by simp only [aR, aU]; omega) (Laid.left (Laid.all (by simp only [aR, aU]; omega))) (Fl.cons rfl (cR.cells (H.p 2 rfl : bI vs vv _)) (by simp only [aR, aU]) (Laid.right (Laid.all (by simp only [aR, aU])) (by simp only [aR, aU]; omega)) Fl.nil))) rfl ?_
   refine WL.bL (l0 := ((kc (List.replicate 32 0) ++ ([.slice none 0 0])))) H rfl yJ (by decide) rfl (Fl.cons rfl rfl (by simp only [aR, aU]; omega) (Laid.all (by simp only [aR, aU]; omega)) Fl.nil) rfl ?_
   intro b51 vR H
   refine WL.append (m := 1) H 1 yJ (by decide) rfl rfl rfl (cR.bZ (n := 1) (H.l 0 rfl) hq1) (r6 (e := (En.mk q vs vv)) hvs) (by omega) (by decide) rfl ?_
   intro v52 y8 H
   have BW := congrArg List.length hS
   rw [List.length_append, show [(En.mk q vs vv)].length = 1 from rfl] at BW
   have ED := congrArg (List.flatMap o6) hS
   rw [List.flatMap_append, List.flatMap_singleton] at ED
   replace H := H.forget 0
   replace H := H.conv (L' := [aN.iA w.heap.size v52 111 33 (gJ m (En.mk q vs vv)).length ((gJ m (En.mk q vs vv)).flatMap o6), aN.blk b4 24 (kc q)]) (by rw [BW, ED]; rfl)
   refine WL.as rfl rfl (WL.nil (WE.aA (WL.mv rfl rfl (WL.as rfl rfl (WL.nil (WE.ret ⟨[_], _, .nil _, ⟨rfl, trivial⟩, ?_⟩))))))
   skip
   replace H := H.freeze (i := 0) rfl
   exact ⟨H.aL, H.gQ ((H.bK 0 rfl).imp fun _ h => cR.eM h)⟩
  ·
   try simp only [bU] at QV
   have hS2 : gJ m (En.mk q vs vv) = (PF (En.mk q vs vv) (eX m q) k).1 := by rw [hpe, if_pos (by rw [← T4]; simpa using QV), T4]
   refine WE.skip (WE.aA (WL.mv rfl rfl (WL.as rfl rfl (WL.nil (WE.ret ⟨[_], _, .nil _, ⟨rfl, trivial⟩, ?_⟩)))))
   rw [← hS2] at H
   replace H := H.freeze (i := 0) rfl
   exact ⟨H.aL, H.gQ ((H.bK 0 rfl).imp fun _ h => cR.eM h)⟩
def Sh.fit : Nat → Sh → Prop
 | d, .inner l r => d < 256 ∧ l.fit (d + 1) ∧ r.fit (d + 1)
 | _, _ => True
theorem xC {d : Nat} {m : List En} (h : Pm d m) : (grow d m).fit d :=
 EG (P := fun d _ s => s.fit d) (fun _ => trivial) (fun _ _ => trivial) (fun _ _ _ hd _ h0 h1 => ⟨hd, h0, h1⟩) _ d m rfl h
theorem nF {d : Nat} {m : List En} (h : Pm d m) : (grow d m).kind = 2 ↔ 2 ≤ m.length := by
 match m, h with
 | [], _ => rw [eG]; simp [Sh.kind]
 | [e], _ => rw [dI]; simp [Sh.kind]
 | a :: b :: m, h =>
  rw [jH d _ (h.lt (by simp)) (by simp)]
  simp [Sh.kind]
def Tr.child (T : Tr) (b : Nat) : Tr := if b = 0 then T.left else T.right
def Tr.step (k : List UInt8) (d : Nat) (T : Tr) : Tr := T.child (bH k d)
def Tr.beside (k : List UInt8) (d : Nat) (T : Tr) : Tr := T.child (1 - bH k d)
def Tr.iF (k : List UInt8) (d : Nat) (T : Tr) : Nat → Tr
 | 0 => T
 | i + 1 => (Tr.iF k d T i).step k (i + d)
def Tr.dp (k : List UInt8) : Nat → Tr → Nat
 | d, .inner _ l r => if bH k d = 0 then Tr.dp k (d + 1) l + 1 else Tr.dp k (d + 1) r + 1
 | _, _ => 0
theorem Tr.nO (k : List UInt8) (T : Tr) : ∀ (i d : Nat), Tr.iF k d T (i + 1) = Tr.iF k (d + 1) (T.step k d) i := by
 intro i
 induction i with
 | zero => intro d; show T.step k (0 + d) = _; rw [Nat.zero_add]; rfl
 | succ i ih =>
  intro d
  show (Tr.iF k d T (i + 1)).step k (i + 1 + d) = (Tr.iF k (d + 1) (T.step k d) i).step k (i + (d + 1))
  rw [ih, show i + 1 + d = i + (d + 1) by omega]
theorem Tr.p4 {k : List UInt8} {d : Nat} {T : Tr} (h : T.er.kind = 2) : T.dp k d = (T.step k d).dp k (d + 1) + 1 := by
 obtain ⟨a, l, r, rfl⟩ := Tr.zQ h
 unfold Tr.step Tr.child
 show (if bH k d = 0 then _ else _) = _
 split <;> rfl
theorem cQ.step {bits : Int} {T : Tr} {w : World} {k : List UInt8} {d : Nat} (h : cQ bits T w) : cQ bits (T.step k d) w := by
 unfold Tr.step Tr.child; split
 ·
  exact h.left
 ·
  exact h.right
theorem cQ.beside {bits : Int} {T : Tr} {w : World} {k : List UInt8} {d : Nat} (h : cQ bits T w) : cQ bits (T.beside k d) w := by
 unfold Tr.beside Tr.child; split
 ·
  exact h.left
 ·
  exact h.right
theorem cQ.iF {bits : Int} {T : Tr} {w : World} {k : List UInt8} {d : Nat} (h : cQ bits T w) : ∀ i, cQ bits (T.iF k d i) w
 | 0 => h
 | i + 1 => (cQ.iF h i).step
theorem Tr.rF {k : List UInt8} : ∀ (i d : Nat) (T : Tr), i < T.dp k d → (T.iF k d i).er.kind = 2 := by
 intro i
 induction i with
 | zero =>
  intro d T h
  show T.er.kind = 2
  cases T <;> first | rfl | (simp [Tr.dp] at h)
 | succ i ih =>
  intro d T h
  have h2 : T.er.kind = 2 := by
   cases T <;> first | rfl | (simp [Tr.dp] at h)
  rw [Tr.nO]
  rw [Tr.p4 h2] at h
  exact ih _ _ (by omega)
theorem Tr.p7 {k : List UInt8} : ∀ (n d : Nat) (T : Tr), T.dp k d = n → (T.iF k d n).er.kind ≠ 2 := by
 intro n
 induction n with
 | zero =>
  intro d T h h2
  have h2' : T.er.kind = 2 := h2
  rw [Tr.p4 h2'] at h
  omega
 | succ n ih =>
  intro d T h
  have h2 : T.er.kind = 2 := by
   cases T <;> first | rfl | (simp [Tr.dp] at h)
  rw [Tr.nO]
  rw [Tr.p4 h2] at h
  exact ih _ _ (by omega)
theorem Tr.tT {k : List UInt8} : ∀ (n d : Nat) (T : Tr), T.dp k d = n → T.er.fit d → d ≤ 256 → d + T.dp k d ≤ 256 := by
 intro n
 induction n with
 | zero => intro d T h _ _; omega
 | succ n ih =>
  intro d T h hf hd
  have h2 : T.er.kind = 2 := by
   cases T <;> first | rfl | (simp [Tr.dp] at h)
  have h' := h
  rw [Tr.p4 h2] at h
  obtain ⟨a, l, r, rfl⟩ := Tr.zQ h2
  have hs : ((Tr.inner a l r).step k d).er.fit (d + 1) := by unfold Tr.step Tr.child; split; exact hf.2.1; exact hf.2.2
  have := ih (d + 1) _ (by omega) hs hf.1
  omega
def CD (k : List UInt8) (d : Nat) (m : List En) : Nat → List En
 | 0 => m
 | i + 1 => bP (CD k d m i) (i + d) (bH k (i + d))
theorem grow_step {T : Tr} {d : Nat} {m : List En} (k : List UInt8) (hT : T.er = grow d m) (hp : Pm d m) (h2 : T.er.kind = 2) :
  d < 256 ∧ 2 ≤ m.length ∧ (T.step k d).er = grow (d + 1) (bP m d (bH k d)) ∧ (T.beside k d).er = grow (d + 1) (bP m d (1 - bH k d)) := by
 rw [hT] at h2
 have hm := (nF hp).1 h2
 have hd := hp.lt hm
 rw [jH d m hd hm] at hT
 have hb := eD k d
 cases T with
 | nil => cases hT
 | leaf => cases hT
 | inner a l r =>
  injection hT with h1 h3
  refine ⟨hd, hm, ?_, ?_⟩
  ·
   unfold Tr.step Tr.child
   by_cases h : bH k d = 0
   ·
    rw [if_pos h, h]; exact h1
   ·
    rw [if_neg h, show bH k d = 1 by omega]; exact h3
  ·
   unfold Tr.beside Tr.child
   by_cases h : bH k d = 0
   ·
    rw [h]; exact h3
   ·
    rw [show bH k d = 1 by omega]; exact h1
theorem AM {T : Tr} {d : Nat} {m : List En} {k : List UInt8} (hT : T.er = grow d m) (hp : Pm d m) : ∀ i, i ≤ T.dp k d → (T.iF k d i).er = grow (i + d) (CD k d m i) ∧ Pm (i + d) (CD k d m i) := by
 intro i
 induction i with
 | zero => intro _; rw [Nat.zero_add]; exact ⟨hT, hp⟩
 | succ i ih =>
  intro hi
  have h := ih (by omega)
  have hs := grow_step k h.1 h.2 (Tr.rF i d T (by omega))
  rw [show i + 1 + d = i + d + 1 by omega]
  exact ⟨hs.2.2.1, h.2.part hs.1 _⟩
theorem SH {T : Tr} {d : Nat} {m : List En} {k : List UInt8} (hT : T.er = grow d m) (hp : Pm d m) {i : Nat} (hi : i < T.dp k d) : 2 ≤ (CD k d m i).length ∧ i + d < 256 := by
 have h := AM (k := k) hT hp i (by omega)
 have hs := grow_step k h.1 h.2 (Tr.rF i d T hi)
 exact ⟨hs.2.1, hs.1⟩
theorem CB {T : Tr} {d : Nat} {m : List En} {k : List UInt8} (hT : T.er = grow d m) (hp : Pm d m) : (CD k d m (T.dp k d)).length ≤ 1 := by
 have h := AM (k := k) hT hp _ (Nat.le_refl _)
 have h2 := Tr.p7 _ d T (rfl : T.dp k d = _)
 rw [h.1] at h2
 have := mt (nF h.2).2 h2
 omega
theorem hZ {m : List En} {d b : Nat} {e : En} : e ∈ bP m d b ↔ e ∈ m ∧ bH e.k d = b := by simp [bP]
def getM (m : List En) (k : List UInt8) : Option En := m.find? fun e => e.k == k
theorem zV {m : List En} {k : List UInt8} {d : Nat} : getM (bP m d (bH k d)) k = getM m k := by
 induction m with
 | nil => rfl
 | cons e m ih =>
  have e1 : bP (e :: m) d (bH k d) = if (bH e.k d == bH k d) = true then e :: bP m d (bH k d) else bP m d (bH k d) := List.filter_cons
  rw [e1]
  by_cases h : e.k = k
  ·
   subst h
   simp [getM]
  ·
   have h' : (e.k == k) = false := by simpa using h
   by_cases hb : (bH e.k d == bH k d) = true
   ·
    rw [if_pos hb]
    show List.find? _ (e :: _) = List.find? _ (e :: _)
    rw [List.find?_cons, List.find?_cons, h']
    exact ih
   ·
    rw [if_neg hb]
    show _ = List.find? _ (e :: _)
    rw [List.find?_cons, h']
    exact ih
theorem BX {m : List En} {k : List UInt8} {d : Nat} : ∀ i, getM (CD k d m i) k = getM m k
 | 0 => rfl
 | i + 1 => (zV).trans (BX i)
theorem aB (bits : Int) (d : Nat) (m : List En) : (aDb bits d m).length = 32 := fR _ _
def S6 (m : List En) : Prop := ∀ e ∈ m, e.v.length ≤ 1000000
theorem DL (m : List En) (d b : Nat) : (bP m d b).length ≤ m.length := List.length_filter_le _ _
theorem Pm.fU {d : Nat} {m : List En} (h : Pm d m) : (grow d m).fU = m.length := nG h
theorem Tr.u9 {T : Tr} {k v : List UInt8} (h : T.er = .leaf k v) : ∃ a s, T = .leaf a k v s := by
 cases T with
 | nil => cases h
 | inner => cases h
 | leaf a k' v' s => injection h with h1 h2; subst h1; subst h2; exact ⟨a, s, rfl⟩
theorem Tr.PK {T : Tr} (h : T.er = .nil) : T = .nil := by cases T <;> first | rfl | cases h
theorem KO {X : Nat → Prop} {w : World} {bits : Int} {T : Tr} (hX : cU X w) (bT : aH X (cQ bits T) w) :
  bF prog 61 [T.ptr].toArray w fun v w' => ∃ s2, v = .agg (kc T.key ++ [s2]).toArray ∧ Out Nil w w' ∧ w'.ownsRow w.heap.size 5 1 s2 T.val.length (kc T.val) := by
 refine bF.aI (N := 13) func61 rfl rfl (by simp) ?_
 have H := (St.begin hX).add (cE bT)
 have hk := cQ.gF (bT.here)
 have hd := Tr.aP bits T
 have JJ := cQ.NZ (bT.here)
 have hvs := cR.fH (cQ.vsl (bT.here))
 refine WE.aA ?_
 refine WL.alloc H rfl kO rfl ?_
 intro b2 w1 H
 refine WL.nil (WE.aA (WL.mv rfl rfl ?_))
 refine WL.call aEJ rfl (JG (T := T) H.aS (H.bK 0 rfl)) ?_
 rintro _ w2 ⟨rfl, hO⟩
 replace H := H.out hO
 rw [Tr.BI]
 refine WL.alloc H rfl IJ rfl ?_
 intro b3 w3 H
 refine WL.aT H 0 rfl rfl rfl (new := _) rfl (cH C1 (by simp only [aR, aU, aB]; omega)) (bO (bO (bJ _) (bJ _)) (bE _ (by simp [hvs]))) (Laid.at (Laid.all (by simp only [aR, aU, aB]; omega)) rfl) rfl ?_
 intro w4 H
 refine WL.nil ?_
 refine WE.bG (.take 0 (.take 1 (.take 2 (.take 3 (.take 4 (.aG 5 (.take 6 (.aG 7 .done)))))))) mixed (by kernel_rfl) ?_
 replace H := H.out (Out.drew _)
 refine WP.aC rfl rfl (PV.fieldAddr rfl B6 rfl) (WP.aC rfl rfl (PV.fieldAddr rfl kE rfl) ?_)
 refine WP.dF rfl rfl rfl cV rfl (aM.aF (H.l 0 rfl) (aJ.l (aJ.l (aJ.all _))) rfl) (cH cM (by simp only [aR, aU, aB]; omega)) ?_
 refine WP.aC rfl rfl (PV.fieldAddr rfl WO rfl) ?_
 refine WP.aQ rfl rfl (RV.aZ rfl eN rfl) (aM.aF (H.l 0 rfl) (aJ.r (aJ.all _) rfl) (by simp [aO, bA, *])) ?_
 refine WP.aG rfl ?_
 refine WL.call aAe rfl (FM (la := T.val) H.aS ((H.bK 0 rfl).imp fun _ h => h.vsl) (by omega)) ?_
 rintro s2 w5 ⟨hO, gP⟩
 have hs2 := cR.fH (bI.eM gP)
 replace H := H.push hO (aN.iA w.heap.size s2 5 1 _ _) (gC gP H.size) (fun b hb => (gP.lt b hb).1)
 refine WL.nil ⟨(fa (nw 5 4) (fa (fun _ _ => (aM.aF (H.l 1 rfl) (aJ.l (aJ.l (aJ.all _))) rfl)) c5)), ?_⟩
 refine WP.aC rfl rfl (PV.dD rfl wI kO (Fl.cons rfl rfl (by simp only [aR, aU, aB]; omega) (Laid.left (Laid.all (by simp only [aR, aU, aB]; omega))) (Fl.cons rfl (cells_one hs2) (by simp only [aR, aU, aB]) (Laid.right (Laid.all (by simp only [aR, aU, aB])) (by simp only [aR, aU, aB]; omega)) Fl.nil))) ?_
 refine WP.aG rfl ?_
 refine WL.aT H 2 rfl rfl rfl (new := kc T.key ++ [s2]) rfl (cH fK (by simp only [aR, aU, aB]; omega)) (bO (bJ _) (bE _ (by simp [hs2]))) (Laid.at (Laid.all (by simp only [aR, aU, aB]; omega)) rfl) rfl ?_
 intro w6 H
 refine WL.nil ⟨(fa (nw 7 4) (fa (nw 7 2) c5)), ?_⟩
 refine WP.done (WE.ret ⟨[_], _, .nil _, ⟨⟨_, rfl, aW oU (aM.aF (H.l 2 rfl) (aJ.all _) rfl) (cH fK (by simp only [aR, aU, aB]; omega))⟩, trivial⟩, ?_⟩)
 exact ⟨s2, rfl, H.aL, H.l 0 rfl⟩
theorem LV (s t : Sh) : (jX s t).fU = s.fU + t.fU := by cases s <;> cases t <;> simp [jX, Sh.fU]
theorem aIE {m : Nat} (h : m < 256) : IntKind.u8.wrap ((BitVec.ofInt IntKind.u8.bits (m : Int) &&& BitVec.ofInt IntKind.u8.bits 1).toNat : Int) = ((m % 2 : Nat) : Int) := by
 rw [IL]
 have e : (BitVec.ofInt IntKind.u8.bits (m : Int) &&& BitVec.ofInt IntKind.u8.bits 1).toNat = m % 2 := by
  show (BitVec.ofInt 8 (m : Int) &&& 1#8).toNat = _
  rw [BitVec.ofInt_natCast, BitVec.toNat_and]
  simp [Nat.and_one_is_mod]
 rw [e]
 omega
theorem jJ {X : Nat → Prop} {w : World} {k : List UInt8} {d : Nat} (hX : cU X w) (hk : k.length = 32) (hd : d < 256) :
  bF prog 74 [.agg (kc k).toArray, .int .i64 (d : Int)].toArray w fun v w' => v = .int .i64 (bH k d : Int) ∧ Out Nil w w' := by
 refine bF.aI (N := 21) func74 rfl rfl (by simp) ?_
 have H := St.begin hX
 have hx := (k.getD (d / 8) 0).toNat_lt
 have hb2 := eD k d
 refine WE.aA ?_
 refine WL.box (l := kc k) H rfl rfl rfl ?_
 intro b2 w1 H
 refine WL.as rfl rfl (WL.nil (WE.seq (WE.aA (WL.mv rfl rfl (WL.pv (PV.lss rfl rfl rfl) rfl (WL.mv rfl rfl (WL.known (t := 7) (c := false) rfl (by simp) ?_)))))))
 refine WL.mv rfl rfl (WL.pv (PV.geq rfl rfl rfl) rfl (WL.pv (PV.cZ rfl rfl rfl) rfl (WL.nil ?_)))
 refine WE.bB rfl (by (simp; omega)) ?_
 refine WE.skip (WE.aA (WL.mv rfl rfl ?_))
 refine WL.pv (PV.eq (v' := .int .i64 ((d / 8 : Nat) : Int)) (PV.zD rfl rfl rfl (by omega) (by omega) (by omega)) rfl) rfl ?_
 refine WL.pv (PV.cF rfl gM gY rfl rfl (by omega) (by omega)) rfl (WL.aY rfl CE rfl rfl (aM.R9 (H.l 0 rfl) (d / 8) (by omega) (by omega)) (WL.mv rfl rfl (WL.pv (PV.eq (v' := .int .i64 ((d % 8 : Nat) : Int)) (PV.uJ rfl rfl rfl (by omega) (by omega)) rfl) rfl ?_)))
 refine WL.pv (PV.eq (v' := .int .i64 ((7 - d % 8 : Nat) : Int)) (PV.iS rfl rfl rfl (by omega) (by omega)) (by (congr 1; omega))) rfl ?_
 refine WL.pv (PV.eq (v' := .int .u8 (((k.getD (d / 8) 0).toNat / 2 ^ (7 - d % 8) : Nat) : Int)) (PV.C5 rfl rfl rfl (by show _ < 8; omega)) rfl) rfl ?_
 refine WL.pv (PV.eq (v' := .int .u8 ((bH k d : Nat) : Int)) (PV.HP rfl rfl rfl) (congrArg (Value.int .u8) (aIE (Nat.lt_of_le_of_lt (Nat.div_le_self _ _) hx)))) rfl ?_
 refine WL.pv (PV.mL rfl oW yD rfl (by omega) (by omega)) rfl (WL.as rfl rfl (WL.nil (WE.ret ⟨[_], _, .nil _, ⟨rfl, trivial⟩, ?_⟩)))
 exact ⟨rfl, H.aL⟩
theorem p8 {X : Nat → Prop} {w : World} {bits : Int} {T : Tr} {b : Nat} (hX : cU X w) (bT : aH X (cQ bits T) w) :
  bF prog 73 [T.ptr, .int .i64 (b : Int)].toArray w fun v w' => v = (T.child b).ptr ∧ Out Nil w w' := by
 refine bF.aI (N := 11) func73 rfl rfl (by simp) ?_
 have H := (St.begin hX).add (cE bT)
 refine WE.aA (WL.as rfl rfl (WL.nil (WE.seq (WE.aA (WL.mv rfl rfl (WL.pv (PV.eql rfl rfl rfl) rfl (WL.nil ?_)))))))
 refine WE.cond rfl (fun QT => ?_) (fun QT => ?_)
 ·
  try simp only [bU] at QT
  have hb : b = 0 := by omega
  refine WE.aA (WL.mv rfl rfl ?_)
  refine WL.call aAc rfl (TD (T := T) (bits := bits) H.aS (by exact H.bK 0 rfl) ) ?_
  rintro _ w1 ⟨rfl, hO⟩
  replace H := H.out hO
  refine WL.as rfl rfl (WL.nil (WE.ret ⟨[_], _, .nil _, ⟨rfl, trivial⟩, ?_⟩))
  refine ⟨?_, H.aL⟩
  rw [Tr.child, if_pos hb]; rfl
 ·
  try simp only [bU] at QT
  have hb : b ≠ 0 := by omega
  refine WE.skip (WE.aA (WL.mv rfl rfl ?_))
  refine WL.call aAb rfl (FD (T := T) (bits := bits) H.aS (by exact H.bK 0 rfl) ) ?_
  rintro _ w2 ⟨rfl, hO⟩
  replace H := H.out hO
  refine WL.as rfl rfl (WL.nil (WE.ret ⟨[_], _, .nil _, ⟨rfl, trivial⟩, ?_⟩))
  refine ⟨?_, H.aL⟩
  rw [Tr.child, if_neg hb]; rfl
def aGS (T : Tr) (k : List UInt8) (i : Nat) (xs : List Value) (_ : World) : Prop := xs = [.int .i64 (i : Int), (T.iF k 0 i).ptr]
def aGT (b1 b2 : Nat) : Value := .func (.func 111) [].toArray [.pointer (some ⟨b1, 0, none⟩), .pointer (some ⟨b2, 0, none⟩)].toArray
theorem YP {X : Nat → Prop} {w : World} {T : Tr} {k : List UInt8} (hX : cU X w) (hk : k.length = 32) :
  bF prog 71 [T.ptr, .agg (kc k).toArray].toArray w fun v w' => ∃ b1 b2, v = aGT b1 b2 ∧ Out Nil w w' ∧ w.heap.size ≤ b1 ∧ aM w' b1 39 [T.ptr] ∧ aH (fun c => X c ∨ c = b1) (fun w => cX w ⟨b2, 0, none⟩ (kc k)) w' := by
 refine bF.aI (N := 6) func71 rfl rfl (by simp) ?_
 have H := St.begin hX
 refine WE.aA ?_
 refine WL.box (l := [T.ptr]) H rfl (rfl) rfl ?_
 intro b2 w1 H
 refine WL.box (l := kc k) H rfl rfl rfl ?_
 intro b3 w2 H
 refine WL.as rfl rfl (WL.nil (WE.aA (WL.pv (PV.makeFunc rfl) rfl (WL.as rfl rfl (WL.nil (WE.ret ⟨[_], _, .nil _, ⟨rfl, trivial⟩, ?_⟩))))))
 replace H := H.freeze (i := 0) rfl
 exact ⟨_, _, rfl, H.aL, H.jU _ (List.mem_of_getElem? (i := 0) rfl) _ rfl, H.l 0 rfl, (H.Z0 0 rfl).imp fun _ h => h.rd⟩
theorem CX {C : Nat → Prop} {w : World} {b1 b2 : Nat} {bits : Int} {T : Tr} {k : List UInt8} (hC : ∀ b, C b → b < w.heap.size) (eT : aM w b1 39 ([T.ptr])) (hn0 : ¬ C b1) (bT : aH (fun c_ => C c_ ∨ c_ = b1) (fun w => cX w ⟨b2, 0, none⟩ (kc k)) w) (dA : aH (fun c_ => C c_ ∨ c_ = b1) (cQ bits T) w) (hk : k.length = 32) (hfit : T.er.fit 0) : XZ prog 111 [] [.pointer (some ⟨b1, 0, none⟩), .pointer (some ⟨b2, 0, none⟩)] (T.dp k 0 + 1) (aGS T k) (· = b1) C w := by
 intro f J Jx hst pL aBd mG hf
 show bF prog 111 ([f, .pointer (some ⟨b1, 0, none⟩), .pointer (some ⟨b2, 0, none⟩)] : List Value).toArray w _
 refine bF.aI (N := 21) func111 rfl rfl (by simp) ?_
 have H := ((St.c7 (X := C) (b := b1) (t := 39) (l := [T.ptr]) hC eT).add (bX dA)).add (bX bT)
 have yT := Tr.tT (k := k) _ 0 T rfl hfit (by omega)
 refine WE.aA (WL.as rfl rfl (WL.nil (WE.block ?_)))
 refine WE.loop (α := Nat) (rg [(4, 17)]) (fun i => [(4, .int .i64 i)]) (fun i wl => i ≤ T.dp k 0 ∧ J (· = b1) i wl ∧ St C wl wl [aN.blk b1 39 [(T.iF k 0 i).ptr]] [] [fun w => cX w ⟨b2, 0, none⟩ (kc k), cQ bits T]) (fun i => T.dp k 0 - i) 0 ⟨rfl, trivial⟩ ⟨Nat.zero_le _, hst (· = b1) w (Out.refl _ _) (fun _ h => .inl h) (fun _ h => h), H⟩ ?_
 intro i γ0 w1 hI
 try dsimp only at hI
 obtain ⟨hi, hJ, H⟩ := hI
 have BO : ∃ FY, FY = w1 := ⟨_, rfl⟩
 obtain ⟨FY, BO⟩ := BO
 rw [← BO] at hJ H ⊢
 clear BO
 refine WE.seq (WE.aA (WL.mv rfl rfl (WL.mv rfl rfl (WL.aY rfl gX rfl rfl (aM.aF (H.o 0 rfl) (aJ.all _) rfl) ?_))))
 refine WL.iK rfl rfl (mG (· = b1) i _ FY _ (by omega) hJ H.cL (aH.pure rfl)) ?_
 rintro _ w2 ⟨hk, ⟨rfl, hJ⟩ | ⟨rfl, hJ⟩⟩
 ·
  replace H := St.aB1 (Ps := [fun w => cX w ⟨b2, 0, none⟩ (kc k), cQ bits T]) hC hk (fun _ h => .inl h) rfl (H.o 0 rfl) (by intro p hp; simp at hp; rcases hp with rfl | rfl <;> assumption)
  refine WL.mv rfl rfl (WL.aY rfl gX rfl rfl (aM.aF (H.o 0 rfl) (aJ.all _) rfl) ?_)
  refine WL.call mK rfl (e9 (T := T.iF k 0 i) (bits := bits) H.aS (by exact (H.bK 1 rfl).imp fun _ h => h.iF i) ) ?_
  rintro _ w3 ⟨rfl, hO⟩
  replace H := H.out hO
  refine WL.pv (PV.eql rfl rfl rfl) rfl (WL.pv (PV.dB rfl rfl rfl) rfl (WL.nil ?_))
  refine WE.cond rfl (fun GZ => ?_) (fun GZ => ?_)
  ·
   try simp only [bU] at GZ
   have hlt : i < T.dp k 0 := by rcases Nat.lt_or_ge i (T.dp k 0) with h | h; exact h; exact absurd (show (T.iF k 0 i).er.kind = 2 by exact GZ) (by rw [show i = T.dp k 0 by omega]; exact Tr.p7 _ 0 T rfl)
   refine WE.skip (WE.seq (WE.block ?_))
   refine WE.draw (.take 0 (.take 1 (.take 2 (.aG 3 (.aG 4 (.aG 5 .done)))))) mixed (by kernel_rfl) ?_
   replace H := H.out (Out.drew _)
   refine WP.aQ rfl rfl (RV.aZ rfl gX rfl) (aM.aF (H.o 0 rfl) (aJ.all _) rfl) ?_
   refine WP.dF rfl rfl rfl cV rfl (H.p 0 rfl) (cH cM (by simp only [aR, aU, aB]; omega)) ?_
   refine WP.mv rfl rfl rfl (WP.aG rfl ?_)
   refine WL.call EL rfl (jJ (k := k) (d := i) H.aS  (by assumption) (by omega)) ?_
   rintro _ w4 ⟨rfl, hO⟩
   replace H := H.out hO
   refine WL.nil ⟨(fa (nw 3 1) (fa (rk hO) c5)), ?_⟩
   refine WP.aG rfl ?_
   refine WL.call MG rfl (p8 (T := T.iF k 0 i) (bits := bits) (b := bH k i) H.aS (by exact (H.bK 1 rfl).imp fun _ h => h.iF i) ) ?_
   rintro _ w5 ⟨rfl, hO⟩
   replace H := H.out hO
   refine WL.nil ⟨(fa (nw 4 1) (fa (nw 4 0) c5)), ?_⟩
   refine WP.aG rfl ?_
   refine WL.kZ H 0 rfl rfl rfl (new := _) rfl (by exact lG) (bE _ rfl) (Laid.at (Laid.all (by simp only [aR, aU, aB])) rfl) rfl ?_
   intro w6 H
   refine WL.nil ⟨(fa (nw 5 1) (fa (nw 5 0) c5)), ?_⟩
   refine WP.done (WE.eH (WL.mv rfl rfl (WL.pv (PV.bY rfl rfl rfl (by omega) (by omega)) rfl (WL.as rfl rfl (WL.nil ?_)))))
   exact ⟨i + 1, (by repeat (first | with_reducible exact bQ.refl _ _ | refine bQ.dG rfl ?_ | refine bQ.cC rfl ?_ | refine bQ.cB rfl ?_)), ⟨rfl, trivial⟩, rfl, ⟨by omega, pL _ _ _ _ hJ H.cL, H.aAS⟩, (by omega)⟩
  ·
   try simp only [bU] at GZ
   have aDQ : i = T.dp k 0 := by rcases Nat.lt_or_ge i (T.dp k 0) with h | h; exact absurd (Tr.rF (k := k) i 0 T h) (by exact GZ); omega
   refine WE.exit ?_
   refine ⟨[], _, .nil _, trivial, ?_⟩
   (subst aDQ; exact ⟨rfl, _, .inl (pL _ _ _ _ hJ H.cL)⟩)
 ·
  refine WL.mv rfl rfl (WL.off rfl (WL.off rfl (WL.off rfl (WL.pv (PV.cZ rfl rfl rfl) rfl (WL.nil (WE.iJ rfl (WE.exit ?_)))))))
  refine ⟨[], _, .nil _, trivial, ?_⟩
  exact ⟨rfl, _, .inr hJ⟩
def Y8 (T : Tr) (k : List UInt8) : Nat → Value
 | 0 => .pointer none
 | i + 1 => (T.iF k 0 i).ptr
def Tr.fin (T : Tr) (k : List UInt8) : Tr := T.iF k 0 (T.dp k 0)
theorem sQ {X : Nat → Prop} {w : World} {bits : Int} {T : Tr} {k : List UInt8} (hX : cU X w) (bT : aH X (cQ bits T) w) (hk : k.length = 32) (hfit : T.er.fit 0) :
  bF prog 30 [T.ptr, .agg (kc k).toArray].toArray w fun v w' => v = .tuple [(T.fin k).ptr, .int .i64 (T.dp k 0 : Int)].toArray ∧ Out Nil w w' := by
 refine bF.aI (N := 17) func30 rfl rfl (by simp) ?_
 have H := (St.begin hX).add (cE bT)
 refine WE.aA ?_
 refine WL.box (l := kc k) H rfl rfl rfl ?_
 intro b3 w1 H
 refine WL.alloc H rfl KV rfl ?_
 intro b4 w2 H
 refine WL.alloc H rfl ze3 rfl ?_
 intro b5 w3 H
 refine WL.nil (WE.seq (WE.aA (WL.mv rfl rfl ?_)))
 refine WL.bC rfl cV rfl rfl (aM.aF (H.l 2 rfl) (aJ.all _) rfl) (cH cM (by simp only [aR, aU, aB]; omega)) ?_
 refine WL.call aEK rfl (YP (T := T) (k := k) H.aS  (by assumption)) ?_
 rintro _ w4 ⟨SA, SB, rfl, hO, hge, q7, hR⟩
 replace H := H.OZ hO (aN.set (· = SA)) (fun c hc => by cases hc; exact q7.lt) (fun c hc => by cases hc; exact hge) hR
 refine WL.nil (WE.block ?_)
 refine WE.A6 (α := Unit) (fun i _ => True) (fun i _ => []) (fun i _ => [aN.blk b5 3 [.int .i64 ((i - 1 : Nat) : Int)], aN.blk b4 39 [Y8 T k i], aN.blk b3 24 (kc k)]) (fun i _ => [fun w => cX w ⟨SB, 0, none⟩ (kc k), cQ bits T]) (fun _ _ => False) (fun _ _ => []) (fun _ _ => []) (fun _ _ => []) () H rfl aAd (fun W0 hO => CX (T := T) (k := k) (bits := bits) (H.XE hO) (q7.of_eq (hO.block _ q7.lt id)) (H.aAi rfl) (H.E0 hO 0 rfl) (H.E0 hO 1 rfl) hk hfit) (by intro _ _ _ h; rw [h]; rfl) ⟨trivial, rfl, rfl, rfl⟩ ?_ ?_ ?_
 ·
  intro i _ xs_ l_ d_ o_ T_ sc_ w5 iT zU Q2
  obtain rfl := Q2
  refine WE.aA (WL.as rfl rfl (WL.nil (WE.eH (WL.as rfl rfl (WL.nil ?_)))))
  refine ⟨rfl, rfl, rfl, ?_⟩
  intro w6 H
  refine WE.block (WE.eH (WL.mv rfl rfl (WL.mv rfl rfl ?_)))
  refine WL.aT H 1 rfl rfl rfl (new := _) rfl (by exact lG) (bE _ rfl) (Laid.at (Laid.all (by simp only [aR, aU, aB])) rfl) rfl ?_
  intro w7 H
  refine WL.aT H 0 rfl rfl rfl (new := _) rfl (by exact sz3) (bE _ rfl) (Laid.at (Laid.all (by simp only [aR, aU, aB])) rfl) rfl ?_
  intro w8 H
  refine WL.nil ?_
  replace H := H.conv (L' := [aN.blk b5 3 [.int .i64 ((i + 1 - 1 : Nat) : Int)], aN.blk b4 39 [Y8 T k (i + 1)], aN.blk b3 24 (kc k), aN.obj l_ o_, aN.obj d_ (.deferred (some [])), aN.sn T_ w6]) rfl
  replace H := H.drop (fun p hp => List.mem_cons_of_mem _ hp)
  exact ⟨(), trivial, H⟩
 ·
  intro _ W7 w9 zU H
  refine WE.bG (.take 0 (.take 1 (.aG 2 (.aG 3 .done)))) mixed (by kernel_rfl) ?_
  replace H := H.out (Out.drew _)
  refine WP.aQ rfl rfl (RV.aZ rfl gX rfl) (aM.aF (H.l 2 rfl) (aJ.all _) rfl) (WP.aQ rfl rfl (RV.aZ rfl oZ rfl) (aM.aF (H.l 1 rfl) (aJ.all _) rfl) (WP.aG rfl ?_))
  refine WL.aT H 2 rfl rfl rfl (new := _) rfl (by exact lG) (bE _ rfl) (Laid.at (Laid.all (by simp only [aR, aU, aB])) rfl) rfl ?_
  intro vR H
  refine WL.nil ⟨(fa (fun _ _ => (aM.aF (H.l 1 rfl) (aJ.all _) rfl)) (fa (nw 2 0) c5)), ?_⟩
  refine WP.aG rfl ?_
  refine WL.aT H 1 rfl rfl rfl (new := _) rfl (by exact sz3) (bE _ rfl) (Laid.at (Laid.all (by simp only [aR, aU, aB])) rfl) rfl ?_
  intro y8 H
  refine WL.nil ⟨(fa (nw 3 1) (fa (nw 3 0) c5)), ?_⟩
  refine WP.done (WE.ret ?_)
  (obtain ⟨IQ, wW, H⟩ := H.vS 0 rfl)
  refine ⟨[_, _], _, (wW _ (.nil _)), ⟨⟨_, rfl, cK gX (aM.aF (H.l 1 rfl) (aJ.all _) rfl)⟩, ⟨_, rfl, cK oZ (aM.aF (H.l 0 rfl) (aJ.all _) rfl)⟩, trivial⟩, ?_⟩
  exact ⟨rfl, H.aL⟩
 ·
  intro e_ _ W7 FP QN zU H
  exact zU.elim
theorem cQ.fin {bits : Int} {T : Tr} {w : World} {k : List UInt8} (h : cQ bits T w) : cQ bits (T.fin k) w := h.iF _
def Tr.G2 (T : Tr) (k : List UInt8) : Option (List UInt8) := match T.fin k with
 | .leaf _ q v _ => if q = k then some v else none
 | _ => none
theorem aCn {X : Nat → Prop} {w : World} {bits : Int} {T : Tr} {k : List UInt8} (hX : cU X w) (bT : aH X (cQ bits T) w) (hk : k.length = 32) (hfit : T.er.fit 0) (vD : (T.fin k).er.kind ≠ 1) :
  bF prog 51 [T.ptr, .agg (kc k).toArray].toArray w fun v w' => v = .tuple [.slice none 0 0, .bool false].toArray ∧ Out Nil w w' := by
 refine bF.aI (N := 27) func51 rfl rfl (by simp) ?_
 have H := (St.begin hX).add (cE bT)
 have pT : (T.fin k).key.length = 32 := cQ.gF (cQ.fin (bT.here))
 have JJ := cQ.NZ (cQ.fin (k := k) (bT.here))
 refine WE.aA ?_
 refine WL.box (l := kc k) H rfl rfl rfl ?_
 intro b3 w1 H
 refine WL.as rfl rfl (WL.as rfl rfl (WL.nil (WE.aA (WL.mv rfl rfl ?_))))
 refine WL.bC rfl cV rfl rfl (aM.aF (H.l 0 rfl) (aJ.all _) rfl) (cH cM (by simp only [aR, aU, aB]; omega)) ?_
 refine WL.call WW rfl (sQ (T := T) (k := k) (bits := bits) H.aS (by exact H.bK 0 rfl) (by assumption) (by assumption)) ?_
 rintro _ w2 ⟨rfl, hO⟩
 replace H := H.out hO
 refine WL.mv rfl rfl (WL.pv (PV.extract rfl rfl rfl) rfl (WL.pv (PV.extract rfl rfl rfl) rfl (WL.as rfl rfl (WL.as rfl rfl (WL.nil (WE.seq ?_))))))
 refine WE.bG (.take 0 (.aG 1 (.take 2 (.take 3 (.take 4 (.take 7 (.aG 5 (.take 6 (.take 8 (.take 9 .done)))))))))) mixed (by kernel_rfl) ?_
 replace H := H.out (Out.drew _)
 refine WP.mv rfl rfl rfl (WP.aG rfl ?_)
 refine WL.call mK rfl (e9 (T := T.fin k) (bits := bits) H.aS (by exact (H.bK 0 rfl).imp fun _ h => h.fin) ) ?_
 rintro _ w3 ⟨rfl, hO⟩
 replace H := H.out hO
 refine WL.nil ⟨c5, ?_⟩
 refine WP.aC rfl rfl (PV.neq rfl rfl rfl) (WP.mv rfl rfl rfl ?_)
 refine WP.known (t := 17) (c := true) rfl (by simp [vD]) ?_
 refine WP.dQ rfl rfl (WP.dQ rfl rfl (WP.aG rfl (WL.off rfl ?_)))
 refine WL.nil ⟨c5, ?_⟩
 refine WP.dQ rfl rfl (WP.dQ rfl rfl (WP.aC rfl rfl (PV.dB rfl rfl rfl) (WP.done (WE.kG rfl (WE.aA (WL.as rfl rfl (WL.as rfl rfl ?_)))))))
 refine WL.nil (WE.ret ⟨[_, _], _, .nil _, ⟨rfl, rfl, trivial⟩, ?_⟩)
 exact ⟨rfl, H.aL⟩
theorem aCm {X : Nat → Prop} {w : World} {bits : Int} {T : Tr} {k : List UInt8} (hX : cU X w) (bT : aH X (cQ bits T) w) (hk : k.length = 32) (hfit : T.er.fit 0) (vD : (T.fin k).er.kind = 1) (hkey : (T.fin k).key ≠ k) :
  bF prog 51 [T.ptr, .agg (kc k).toArray].toArray w fun v w' => v = .tuple [.slice none 0 0, .bool false].toArray ∧ Out Nil w w' := by
 refine bF.aI (N := 27) func51 rfl rfl (by simp) ?_
 have H := (St.begin hX).add (cE bT)
 have pT : (T.fin k).key.length = 32 := cQ.gF (cQ.fin (bT.here))
 have JJ := cQ.NZ (cQ.fin (k := k) (bT.here))
 refine WE.aA ?_
 refine WL.box (l := kc k) H rfl rfl rfl ?_
 intro b3 w1 H
 refine WL.as rfl rfl (WL.as rfl rfl (WL.nil (WE.aA (WL.mv rfl rfl ?_))))
 refine WL.bC rfl cV rfl rfl (aM.aF (H.l 0 rfl) (aJ.all _) rfl) (cH cM (by simp only [aR, aU, aB]; omega)) ?_
 refine WL.call WW rfl (sQ (T := T) (k := k) (bits := bits) H.aS (by exact H.bK 0 rfl) (by assumption) (by assumption)) ?_
 rintro _ w2 ⟨rfl, hO⟩
 replace H := H.out hO
 refine WL.mv rfl rfl (WL.pv (PV.extract rfl rfl rfl) rfl (WL.pv (PV.extract rfl rfl rfl) rfl (WL.as rfl rfl (WL.as rfl rfl (WL.nil (WE.seq ?_))))))
 refine WE.bG (.take 0 (.aG 1 (.take 2 (.take 3 (.take 4 (.take 7 (.aG 5 (.take 6 (.take 8 (.take 9 .done)))))))))) mixed (by kernel_rfl) ?_
 replace H := H.out (Out.drew _)
 refine WP.mv rfl rfl rfl (WP.aG rfl ?_)
 refine WL.call mK rfl (e9 (T := T.fin k) (bits := bits) H.aS (by exact (H.bK 0 rfl).imp fun _ h => h.fin) ) ?_
 rintro _ w3 ⟨rfl, hO⟩
 replace H := H.out hO
 refine WL.nil ⟨c5, ?_⟩
 refine WP.aC rfl rfl (PV.neq rfl rfl rfl) (WP.mv rfl rfl rfl ?_)
 refine WP.known (t := 17) (c := false) rfl (by simp [vD]) ?_
 refine WP.mv rfl rfl rfl ?_
 refine WP.dF rfl rfl rfl cV rfl (aM.aF (H.l 0 rfl) (aJ.all _) rfl) (cH cM (by simp only [aR, aU, aB]; omega)) ?_
 refine WP.aG rfl ?_
 refine WL.call EM rfl (mE (T := T.fin k) (bits := bits) H.aS (by exact (H.bK 0 rfl).imp fun _ h => h.fin) ) ?_
 rintro _ w4 ⟨rfl, hO⟩
 replace H := H.out hO
 refine WL.nil ⟨(fa (rk hO) c5), ?_⟩
 refine WP.aC rfl rfl (PV.k4 rfl kE rfl (dS.agg cV (cH cM (by simp only [aR, aU, aB]; omega)) (aJ.l (aJ.all _)))) ?_
 refine WP.aC rfl rfl (PV.PM rfl gM oW gY (by kernel_rfl) rfl rfl (by assumption) (by assumption)) (WP.aC rfl rfl (PV.cZ rfl rfl rfl) (WP.done ?_))
 refine WE.cO rfl (by simp [hkey]) ?_
 refine WE.aA (WL.as rfl rfl (WL.as rfl rfl (WL.nil (WE.ret ⟨[_, _], _, .nil _, ⟨rfl, rfl, trivial⟩, ?_⟩))))
 exact ⟨rfl, H.aL⟩
theorem aCl {X : Nat → Prop} {w : World} {bits : Int} {T : Tr} {k : List UInt8} (hX : cU X w) (bT : aH X (cQ bits T) w) (hk : k.length = 32) (hfit : T.er.fit 0) (vD : (T.fin k).er.kind = 1) (hkey : (T.fin k).key = k) :
  bF prog 51 [T.ptr, .agg (kc k).toArray].toArray w fun v w' => ∃ s, v = .tuple [s, .bool true].toArray ∧ Out Nil w w' ∧ w'.ownsRow w.heap.size 5 1 s (T.fin k).val.length (kc (T.fin k).val) := by
 refine bF.aI (N := 27) func51 rfl rfl (by simp) ?_
 have H := (St.begin hX).add (cE bT)
 have pT : (T.fin k).key.length = 32 := cQ.gF (cQ.fin (bT.here))
 have JJ := cQ.NZ (cQ.fin (k := k) (bT.here))
 refine WE.aA ?_
 refine WL.box (l := kc k) H rfl rfl rfl ?_
 intro b3 w1 H
 refine WL.as rfl rfl (WL.as rfl rfl (WL.nil (WE.aA (WL.mv rfl rfl ?_))))
 refine WL.bC rfl cV rfl rfl (aM.aF (H.l 0 rfl) (aJ.all _) rfl) (cH cM (by simp only [aR, aU, aB]; omega)) ?_
 refine WL.call WW rfl (sQ (T := T) (k := k) (bits := bits) H.aS (by exact H.bK 0 rfl) (by assumption) (by assumption)) ?_
 rintro _ w2 ⟨rfl, hO⟩
 replace H := H.out hO
 refine WL.mv rfl rfl (WL.pv (PV.extract rfl rfl rfl) rfl (WL.pv (PV.extract rfl rfl rfl) rfl (WL.as rfl rfl (WL.as rfl rfl (WL.nil (WE.seq ?_))))))
 refine WE.bG (.take 0 (.aG 1 (.take 2 (.take 3 (.take 4 (.take 7 (.aG 5 (.take 6 (.take 8 (.take 9 .done)))))))))) mixed (by kernel_rfl) ?_
 replace H := H.out (Out.drew _)
 refine WP.mv rfl rfl rfl (WP.aG rfl ?_)
 refine WL.call mK rfl (e9 (T := T.fin k) (bits := bits) H.aS (by exact (H.bK 0 rfl).imp fun _ h => h.fin) ) ?_
 rintro _ w3 ⟨rfl, hO⟩
 replace H := H.out hO
 refine WL.nil ⟨c5, ?_⟩
 refine WP.aC rfl rfl (PV.neq rfl rfl rfl) (WP.mv rfl rfl rfl ?_)
 refine WP.known (t := 17) (c := false) rfl (by simp [vD]) ?_
 refine WP.mv rfl rfl rfl ?_
 refine WP.dF rfl rfl rfl cV rfl (aM.aF (H.l 0 rfl) (aJ.all _) rfl) (cH cM (by simp only [aR, aU, aB]; omega)) ?_
 refine WP.aG rfl ?_
 refine WL.call EM rfl (mE (T := T.fin k) (bits := bits) H.aS (by exact (H.bK 0 rfl).imp fun _ h => h.fin) ) ?_
 rintro _ w4 ⟨rfl, hO⟩
 replace H := H.out hO
 refine WL.nil ⟨(fa (rk hO) c5), ?_⟩
 refine WP.aC rfl rfl (PV.k4 rfl kE rfl (dS.agg cV (cH cM (by simp only [aR, aU, aB]; omega)) (aJ.l (aJ.all _)))) ?_
 refine WP.aC rfl rfl (PV.PM rfl gM oW gY (by kernel_rfl) rfl rfl (by assumption) (by assumption)) (WP.aC rfl rfl (PV.cZ rfl rfl rfl) (WP.done ?_))
 refine WE.bB rfl (by simp [hkey]) ?_
 refine WE.skip (WE.aA (WL.mv rfl rfl ?_))
 refine WL.call aEM rfl (KO (T := T.fin k) (bits := bits) H.aS (by exact (H.bK 0 rfl).imp fun _ h => h.fin)) ?_
 rintro _ w5 ⟨s4, rfl, hO, gP⟩
 replace H := H.push hO (aN.iA w.heap.size s4 5 1 _ _) (gC gP H.size) (fun b hb => (gP.lt b hb).1)
 refine WL.pv (PV.k4 rfl pY rfl (dS.one eN (aJ.r (aJ.all _) (by simp only [aR, aU, aB]; omega)))) rfl ?_
 refine WL.as rfl rfl (WL.as rfl rfl (WL.nil (WE.ret ⟨[_, _], _, .nil _, ⟨rfl, rfl, trivial⟩, ?_⟩)))
 exact ⟨s4, rfl, H.aL, H.l 0 rfl⟩
theorem YA {X : Nat → Prop} {w : World} {bits : Int} {T : Tr} {k : List UInt8} (hX : cU X w) (bT : aH X (cQ bits T) w) (hk : k.length = 32) (hfit : T.er.fit 0) (hg : T.G2 k = none) :
  bF prog 51 [T.ptr, .agg (kc k).toArray].toArray w fun v w' => v = .tuple [.slice none 0 0, .bool false].toArray ∧ Out Nil w w' := by
 by_cases h1 : (T.fin k).er.kind = 1
 ·
  refine aCm hX bT hk hfit h1 fun h2 => ?_
  obtain ⟨a, q, v, s, e⟩ := Tr.Y9 h1
  unfold Tr.G2 at hg
  rw [e] at hg h2
  exact absurd hg (by simp [show q = k from h2])
 ·
  exact aCn hX bT hk hfit h1
theorem TL {X : Nat → Prop} {w : World} {bits : Int} {T : Tr} {k v0 : List UInt8} (hX : cU X w) (bT : aH X (cQ bits T) w) (hk : k.length = 32) (hfit : T.er.fit 0) (hg : T.G2 k = some v0) :
  bF prog 51 [T.ptr, .agg (kc k).toArray].toArray w fun v w' => ∃ s, v = .tuple [s, .bool true].toArray ∧ Out Nil w w' ∧ w'.ownsRow w.heap.size 5 1 s v0.length (kc v0) := by
 have h : (T.fin k).er.kind = 1 ∧ (T.fin k).key = k ∧ (T.fin k).val = v0 := by
  unfold Tr.G2 at hg
  cases e : T.fin k with
  | nil => rw [e] at hg; cases hg
  | inner => rw [e] at hg; cases hg
  | leaf a q v s =>
   rw [e] at hg
   dsimp only at hg
   split at hg
   ·
    injection hg with hg; exact ⟨rfl, by assumption, hg⟩
   ·
    cases hg
 have := aCl hX bT hk hfit h.1 h.2.1
 rw [h.2.2] at this
 exact this
theorem EI {T : Tr} {m : List En} {k : List UInt8} (hT : T.er = grow 0 m) (hp : Pm 0 m) : T.G2 k = (getM m k).map (·.v) := by
 have h := AM (k := k) hT hp _ (Nat.le_refl _)
 have hl := CB (k := k) hT hp
 rw [← BX (k := k) (d := 0) (T.dp k 0)]
 have hf : (T.fin k).er = _ := h.1
 unfold Tr.G2
 match hm : CD k 0 m (T.dp k 0), hl with
 | [], _ =>
  rw [hm, eG] at hf
  rw [Tr.PK hf]
  rfl
 | [e], _ =>
  rw [hm, dI] at hf
  obtain ⟨a, s, e2⟩ := Tr.u9 hf
  rw [e2]
  by_cases hk : e.k = k
  ·
   simp [getM, hk]
  ·
   simp [getM, hk]
 | _ :: _ :: _, h => simp at h
theorem MB {m : List En} {k : List UInt8} {i : Nat} (hi : i < m.length) (h : ∀ x ∈ m.take i, x.k ≠ k) (he : m[i].k = k) : getM m k = some m[i] := by
 unfold getM
 rw [List.find?_eq_some_iff_append]
 refine ⟨by simp [he], m.take i, m.drop (i + 1), ?_, fun x hx => by simpa using h x hx⟩
 rw [← List.drop_eq_getElem_cons hi, List.take_append_drop]
theorem getM_none {m : List En} {k : List UInt8} (h : ∀ x ∈ m, x.k ≠ k) : getM m k = none := by
 unfold getM
 rw [List.find?_eq_none]
 intro x hx
 simpa using h x hx
def Q9 (m : List En) (k : List UInt8) : Value := match getM m k with
 | none => .tuple [.slice none 0 0, .bool false].toArray
 | some e => .tuple [e.s, .bool true].toArray
theorem OU {X : Nat → Prop} {w : World} {s : Value} {m : List En} {k : List UInt8} (hX : cU X w) (bT : aH X (fY s m) w) (pT : KL m) (hlen : m.length ≤ 1000000) (hk : k.length = 32) :
  bF prog 40 [s, .agg (kc k).toArray].toArray w fun v w' => v = Q9 m k ∧ Out Nil w w' := by
 refine bF.aI (N := 25) func40 rfl rfl (by simp) ?_
 have H := (St.begin hX).add (cE bT)
 refine WE.aA ?_
 refine WL.box (l := kc k) H rfl rfl rfl ?_
 intro b3 w1 H
 refine WL.as rfl rfl (WL.as rfl rfl (WL.nil (WE.seq (WE.aA (WL.as rfl rfl (WL.nil (WE.block ?_)))))))
 refine WE.loop (α := Nat) (rg [(4, 21)]) (fun i => [(6, .int .i64 i)]) (fun i wl => i ≤ m.length ∧ (∀ x ∈ m.take i, x.k ≠ k) ∧ St X w wl [] [aN.blk b3 24 (kc k)] [fY s m]) (fun i => m.length - i) 0 ⟨rfl, trivial⟩ ⟨Nat.zero_le _, by simp, H⟩ ?_
 intro i γ0 w2 hI
 try dsimp only at hI
 obtain ⟨hi, hall, H⟩ := hI
 refine WE.seq (WE.aA (WL.mv rfl rfl (WL.mv rfl rfl ?_)))
 refine WL.pv (PV.dO (by exact H.p 0 rfl : fY s m _) s7 rfl) rfl ?_
 refine WL.pv (PV.lss rfl rfl rfl) rfl (WL.nil ?_)
 refine WE.cond rfl (fun kW => ?_) (fun kW => ?_)
 ·
  try simp only [bU] at kW
  have hlt : i < m.length := by omega
  have hkk := pT _ (List.getElem_mem hlt)
  refine WE.skip (WE.seq (WE.block ?_))
  refine WE.bG (.take 0 (.take 1 (.take 2 (.take 3 (.take 4 (.take 5 (.take 6 .done))))))) mixed (by kernel_rfl) ?_
  replace H := H.out (Out.drew _)
  refine WP.mv rfl rfl rfl (WP.mv rfl rfl rfl ?_)
  refine WP.aC rfl rfl (PV.eO rfl (by exact H.p 0 rfl : fY s m _) s7 fK rfl rfl (by omega) (by omega)) ?_
  refine WP.aC rfl rfl (PV.dL rfl gR rfl) ?_
  refine WP.dF rfl rfl rfl cV rfl (fY.rdk (H.p 0 rfl) pT i hlt) (cH cM (by simp only [aR, aU, aB]; omega)) ?_
  refine WP.dF rfl rfl rfl cV rfl (aM.aF (H.l 0 rfl) (aJ.all _) rfl) (cH cM (by simp only [aR, aU, aB]; omega)) ?_
  refine WP.aC rfl rfl (PV.B8 rfl gM oW gY (by kernel_rfl) rfl rfl (by assumption) (by assumption)) (WP.done ?_)
  refine WE.cond rfl (fun jL => ?_) (fun jL => ?_)
  ·
   try simp only [bU] at jL
   have he : m[i].k = k := by exact jL
   refine WE.aA (WL.mv rfl rfl (WL.mv rfl rfl ?_))
   refine WL.pv (PV.eO rfl (by exact H.p 0 rfl : fY s m _) s7 fK rfl rfl (by omega) (by omega)) rfl ?_
   refine WL.pv (PV.dL rfl pY rfl) rfl (WL.aY rfl eN rfl rfl (fY.rdv (H.p 0 rfl) pT i hlt) (WL.as rfl rfl (WL.as rfl rfl (WL.nil (WE.ret ⟨[_, _], _, .nil _, ⟨rfl, rfl, trivial⟩, ?_⟩)))))
   refine ⟨?_, H.aL⟩
   rw [Q9, MB hlt hall he]; rfl
  ·
   try simp only [bU] at jL
   have he : m[i].k ≠ k := by exact jL
   refine WE.skip (WE.eH (WL.mv rfl rfl (WL.pv (PV.bY rfl rfl rfl (by omega) (by omega)) rfl (WL.as rfl rfl (WL.nil ?_)))))
   exact ⟨i + 1, (by repeat (first | with_reducible exact bQ.refl _ _ | refine bQ.dG rfl ?_ | refine bQ.cC rfl ?_ | refine bQ.cB rfl ?_)), ⟨rfl, trivial⟩, rfl, ⟨by omega, (by rw [List.take_succ_eq_append_getElem hlt]; intro x hx; rcases List.mem_append.1 hx with h | h; exact hall x h; simp at h; subst h; exact he), H⟩, (by omega)⟩
 ·
  try simp only [bU] at kW
  have T4 : m.take i = m := List.take_of_length_le (by omega)
  refine WE.exit (WE.aA (WL.as rfl rfl (WL.as rfl rfl (WL.nil (WE.ret ⟨[_, _], _, .nil _, ⟨rfl, rfl, trivial⟩, ?_⟩)))))
  refine ⟨?_, H.aL⟩
  rw [T4] at hall
  rw [Q9, getM_none hall]; rfl
def nX (T : Tr) (k : List UInt8) (n : Nat) : List Value := (List.range n).map fun j => ((T.iF k 0 j).beside k j).ptr
theorem pA (T : Tr) (k : List UInt8) (n : Nat) : (nX T k n).length = n := by simp [nX]
theorem LA (T : Tr) (k : List UInt8) (n : Nat) : nX T k (n + 1) = nX T k n ++ [((T.iF k 0 n).beside k n).ptr] := by simp [nX, List.range_succ]
theorem OC (T : Tr) (k : List UInt8) (n i : Nat) (h : i < (nX T k n).length) : (nX T k n)[i] = ((T.iF k 0 i).beside k i).ptr := by simp [nX]
theorem HX {X : Nat → Prop} {w : World} {bits : Int} {T : Tr} {k : List UInt8} (hX : cU X w) (bT : aH X (cQ bits T) w) (hk : k.length = 32) (hfit : T.er.fit 0) :
  bF prog 33 [T.ptr, .agg (kc k).toArray].toArray w fun v w' => Out Nil w w' ∧ aH X (jW v (nX T k (T.dp k 0))) w' := by
 refine bF.aI (N := 26) func33 rfl rfl (by simp) ?_
 have H := (St.begin hX).add (cE bT)
 have yT := Tr.tT (k := k) _ 0 T rfl hfit (by omega)
 refine WE.aA ?_
 refine WL.box (l := kc k) H rfl rfl rfl ?_
 intro b3 w1 H
 refine WL.as rfl rfl (WL.nil (WE.aA ?_))
 refine WL.alloc H rfl aCt rfl ?_
 intro b5 w2 H
 replace H := H.lK 39 1
 refine WL.nil (WE.seq (WE.aA (WL.mv rfl rfl ?_)))
 refine WL.bC rfl cV rfl rfl (aM.aF (H.l 2 rfl) (aJ.all _) rfl) (cH cM (by simp only [aR, aU, aB]; omega)) ?_
 refine WL.call aEK rfl (YP (T := T) (k := k) H.aS  (by assumption)) ?_
 rintro _ w3 ⟨SA, SB, rfl, hO, hge, q7, hR⟩
 replace H := H.OZ hO (aN.set (· = SA)) (fun c hc => by cases hc; exact q7.lt) (fun c hc => by cases hc; exact hge) hR
 refine WL.nil (WE.block ?_)
 refine WE.A6 (α := Value) (fun i q => True) (fun i q => []) (fun i q => [aN.iA w.heap.size q 39 1 (min i (T.dp k 0)) (nX T k (min i (T.dp k 0))), aN.blk b5 86 [q], aN.blk b3 24 (kc k)]) (fun i q => [fun w => cX w ⟨SB, 0, none⟩ (kc k), cQ bits T]) (fun _ _ => False) (fun _ _ => []) (fun _ _ => []) (fun _ _ => []) (.slice none 0 0) H rfl aAd (fun W0 hO => CX (T := T) (k := k) (bits := bits) (H.XE hO) (q7.of_eq (hO.block _ q7.lt id)) (H.aAi rfl) (H.E0 hO 0 rfl) (H.E0 hO 1 rfl) hk hfit) (by intro _ _ _ h; rw [h]; rfl) ⟨trivial, rfl, by rw [Nat.zero_min]; rfl, rfl⟩ ?_ ?_ ?_
 ·
  intro i q xs_ l_ d_ o_ T_ sc_ w4 iT zU Q2
  obtain rfl := Q2
  refine WE.aA (WL.as rfl rfl (WL.nil (WE.eH (WL.as rfl rfl (WL.nil ?_)))))
  refine ⟨rfl, rfl, rfl, ?_⟩
  intro w5 H
  refine WE.block (WE.aA (WL.mv rfl rfl ?_))
  refine WL.call mK rfl (e9 (T := T.iF k 0 i) (bits := bits) H.aS (by exact (H.bK 2 rfl).imp fun _ h => h.iF i)) ?_
  rintro _ w6 ⟨rfl, hO⟩
  replace H := H.out hO
  refine WL.pv (PV.eql rfl rfl rfl) rfl (WL.nil ?_)
  refine WE.cond rfl (fun Q1 => ?_) (fun Q1 => ?_)
  ·
   try simp only [bU] at Q1
   have hlt : i < T.dp k 0 := by rcases Nat.lt_or_ge i (T.dp k 0) with h | h; exact h; exact absurd (show (T.iF k 0 i).er.kind = 2 by exact Q1) (by rw [show i = T.dp k 0 by omega]; exact Tr.p7 _ 0 T rfl)
   have hb2 := eD k i
   have hmi : min i (T.dp k 0) = i := by omega
   rw [hmi] at H
   refine WE.draw (.take 0 (.take 1 (.take 2 (.take 3 (.aG 4 (.take 5 (.aG 6 (.aG 7 (.aG 8 (.aG 9 .done)))))))))) mixed (by kernel_rfl) ?_
   replace H := H.out (Out.drew _)
   refine WP.aQ rfl rfl (RV.aZ rfl MY rfl) (aM.aF (H.l 1 rfl) (aJ.all _) rfl) (WP.mv rfl rfl rfl ?_)
   refine WP.dF rfl rfl rfl cV rfl (aM.aF (H.l 2 rfl) (aJ.all _) rfl) (cH cM (by simp only [aR, aU, aB]; omega)) ?_
   refine WP.mv rfl rfl rfl (WP.aG rfl ?_)
   refine WL.call EL rfl (jJ (k := k) (d := i) H.aS  (by assumption) (by omega)) ?_
   rintro _ w7 ⟨rfl, hO⟩
   replace H := H.out hO
   refine WL.nil ⟨(fa (nw 4 2) (fa (rk hO) c5)), ?_⟩
   refine WP.aC rfl rfl (PV.eq (v' := .int .i64 ((1 - bH k i : Nat) : Int)) (PV.iS rfl rfl rfl (by omega) (by omega)) (by congr 1; omega)) ?_
   refine WP.aG rfl ?_
   refine WL.call MG rfl (p8 (T := T.iF k 0 i) (bits := bits) (b := 1 - bH k i) H.aS (by exact (H.bK 2 rfl).imp fun _ h => h.iF i)) ?_
   rintro _ w8 ⟨rfl, hO⟩
   replace H := H.out hO
   refine WL.nil ⟨(fa (nw 6 2) (fa (rk hO) c5)), ?_⟩
   refine WP.aG rfl ?_
   refine WL.bL (l0 := [.pointer none]) H rfl UT (by decide) (dH _ _) (Fl.cons rfl rfl (by simp only [aR, aU, aB]) Laid.head Fl.nil) rfl ?_
   intro b23 w9 H
   refine WL.nil ⟨(fa (nw 7 2) (fa (fun _ _ => (aM.aF (H.l 2 rfl) (aJ.all _) rfl)) c5)), ?_⟩
   refine WP.aG rfl ?_
   refine WL.append (m := 1) H 1 UT (by decide) rfl rfl rfl (cR.bZ (n := 1) (H.l 0 rfl) rfl) (bE _ rfl) (by omega) (by decide) rfl ?_
   intro v24 vR H
   replace H := H.forget 0
   refine WL.nil ⟨(fa (nw 8 2) (fa (nw 8 0) c5)), ?_⟩
   refine WP.aG rfl ?_
   refine WL.aT H 1 rfl rfl rfl (new := [v24]) (cells_one (iN (H.l 0 rfl))) (by exact aCL) (dW (iN (H.l 0 rfl))) (Laid.at (Laid.all (by simp only [aR, aU, aB])) rfl) rfl ?_
   intro y8 H
   refine WL.nil ⟨(fa (nw 9 2) (fa (nw 9 0) c5)), ?_⟩
   refine WP.done ?_
   replace H := H.conv (L' := [aN.iA w.heap.size v24 39 1 (min (i + 1) (T.dp k 0)) (nX T k (min (i + 1) (T.dp k 0))), aN.blk b5 86 [v24], aN.blk b3 24 (kc k), aN.obj l_ o_, aN.obj d_ (.deferred (some [])), aN.sn T_ w5]) (by rw [show min (i + 1) (T.dp k 0) = i + 1 by omega, LA]; rfl)
   replace H := H.drop (fun p hp => List.mem_cons_of_mem _ hp)
   exact ⟨_, trivial, H⟩
  ·
   try simp only [bU] at Q1
   have aDQ : T.dp k 0 ≤ i := by rcases Nat.lt_or_ge i (T.dp k 0) with h | h; exact absurd (Tr.rF (k := k) i 0 T h) (by exact Q1); exact h
   refine WE.skip ?_
   replace H := H.conv (L' := [aN.iA w.heap.size q 39 1 (min (i + 1) (T.dp k 0)) (nX T k (min (i + 1) (T.dp k 0))), aN.blk b5 86 [q], aN.blk b3 24 (kc k), aN.obj l_ o_, aN.obj d_ (.deferred (some [])), aN.sn T_ w5]) (by rw [show min (i + 1) (T.dp k 0) = min i (T.dp k 0) by omega]; rfl)
   replace H := H.drop (fun p hp => List.mem_cons_of_mem _ hp)
   exact ⟨_, trivial, H⟩
 ·
  intro q W7 IQ zU H
  refine WE.aA (WL.aY rfl MY rfl rfl (aM.aF (H.l 2 rfl) (aJ.all _) rfl) (WL.as rfl rfl (WL.nil (WE.ret ?_))))
  (obtain ⟨FP, wW, H⟩ := H.vS 0 rfl)
  refine ⟨[_], _, (wW _ (.nil _)), ⟨rfl, trivial⟩, ?_⟩
  have hmd : min (T.dp k 0 + 1) (T.dp k 0) = T.dp k 0 := by omega
  rw [hmd] at H
  replace H := H.freeze (i := 0) rfl
  exact ⟨H.aL, H.gQ ((H.bK 0 rfl).imp fun _ h => by show cR _ q 1 (nX T k (T.dp k 0)).length _; rw [pA]; exact cR.eM h)⟩
 ·
  intro e_ q W7 K2 QN zU H
  exact zU.elim
def XA (a b : List UInt8) : Nat → Nat → Nat
 | 0, i => i
 | f + 1, i => if bH a i = bH b i then XA a b f (i + 1) else i
def fB (a b : List UInt8) : Nat := XA a b 256 0
structure AU (a b : List UInt8) (c : Nat) : Prop where
 le : c ≤ 256
 eq : ∀ i, i < c → bH a i = bH b i
 ne : c < 256 → bH a c ≠ bH b c
theorem W9 (a b : List UInt8) : ∀ (f i : Nat), f + i = 256 → (∀ j, j < i → bH a j = bH b j) → AU a b (XA a b f i) := by
 intro f
 induction f with
 | zero => intro i h he; exact ⟨by show i ≤ 256; omega, he, fun hl => absurd hl (by show ¬ i < 256; omega)⟩
 | succ f ih =>
  intro i h he
  unfold XA
  by_cases hb : bH a i = bH b i
  ·
   rw [if_pos hb]
   refine ih (i + 1) (by omega) fun j hj => ?_
   by_cases e : j = i
   ·
    subst e; exact hb
   ·
    exact he j (by omega)
  ·
   rw [if_neg hb]
   exact ⟨by omega, he, fun _ => hb⟩
theorem oL (a b : List UInt8) : AU a b (fB a b) := W9 a b 256 0 rfl fun _ h => by omega
theorem AU.uniq {a b : List UInt8} {c d : Nat} (h : AU a b c) (g : AU a b d) : c = d := by
 have h1 := h.le
 have h2 := g.le
 rcases Nat.lt_trichotomy c d with hl | hl | hl
 ·
  exact absurd (g.eq c hl) (h.ne (by omega))
 ·
  exact hl
 ·
  exact absurd (h.eq d hl) (g.ne (by omega))
theorem J4 (a b : List UInt8) : fB a b ≤ 256 := (oL a b).le
theorem AD {a b : List UInt8} {c : Nat} (hc : c < 256) : c + 1 ≤ fB a b ↔ c ≤ fB a b ∧ bH a c = bH b c := by
 have h := oL a b
 constructor
 ·
  intro hl; exact ⟨by omega, h.eq c (by omega)⟩
 ·
  rintro ⟨h1, h2⟩
  rcases Nat.lt_or_ge c (fB a b) with hl | hl
  ·
   exact hl
  ·
   have e : fB a b = c := by omega
   exact absurd (e ▸ h2 : bH a (fB a b) = bH b (fB a b)) (h.ne (by omega))
theorem A9 {a b : List UInt8} (ha : a.length = 32) (hb : b.length = 32) : ∀ d, d ≤ 256 → (pre d a = pre d b ↔ d ≤ fB a b) := by
 intro d
 induction d with
 | zero => intro _; rw [mV a ha, mV b hb]; simp
 | succ d ih =>
  intro hd
  have h1 := eD a d
  have h2 := eD b d
  rw [kT a ha d (by omega), kT b hb d (by omega), AD (by omega), ← ih (by omega)]
  constructor
  ·
   intro h; omega
  ·
   rintro ⟨h3, h4⟩; rw [h3, h4]
theorem nJ {a b : List UInt8} (ha : a.length = 32) (hb : b.length = 32) : 256 ≤ fB a b ↔ a = b := by
 rw [← A9 ha hb 256 (by omega), pF, pF]
 exact ⟨r9 a b (by rw [ha, hb]), fun h => by rw [h]⟩
end Go.Sp.Tryz
