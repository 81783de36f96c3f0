/- Part of the proof of this claim: walks through the program's functions and the plain laws that they need, printed by a program of this session. -/
import Derived.Test.YthkombhebdjamaaGreatDoorTy
import Derived.Test.YthkombhebdjamaaGreatDoorWords
import Derived.Test.YthkombhebdjamaaGreatDoorBytes
set_option maxRecDepth 100000
set_option maxHeartbeats 1000000
set_option linter.unusedVariables false
set_option linter.unusedSimpArgs false
namespace Go.Sp.Tryz
open Go.Proofs Go.RowKit Go.Sp Go.Sp.TryzT Go.Proofs.Tryz
variable {X : Nat → Prop} {w : World}
def lI (x : UInt32) (n : Nat) : UInt32 := (x >>> UInt32.ofNat n) ||| (x <<< UInt32.ofNat (32 - n))
def kR (x : UInt32) (l : List Nat) : UInt32 := l.foldl (fun s n => s ^^^ lI x n) 0
theorem EI (x : UInt32) (l : List Nat) (k : Nat) (h : k < l.length) : kR x (l.take (k + 1)) = kR x (l.take k) ^^^ lI x l[k] := by
 unfold kR
 rw [List.take_succ_eq_append_getElem h, List.foldl_append]; rfl
theorem aHB : ∀ n : Fin 32, 0 < n.val → IntKind.u64.wrap ((BitVec.ofInt IntKind.u64.bits (IntKind.u64.wrap (-(n.val : Int))) &&& BitVec.ofInt IntKind.u64.bits 31).toNat) = ((32 - n.val : Nat) : Int) := by decide +kernel
def DV (v : Value) (l : List Nat) (w : World) : Prop := kK v (l.map fun (n : Nat) => Value.int .i64 (n : Int)) w
theorem DV.rd {v : Value} {l : List Nat} {w : World} (h : DV v l w) (i : Nat) (hi : i < l.length) : dA w (jN v (i * 1)) [.int .i64 (l[i] : Int)] := by
 have := kK.rd h i (by simpa using hi)
 simpa using this
theorem DV.sl {v : Value} {l : List Nat} {w : World} (h : DV v l w) : cN w v 1 l.length (l.map fun (n : Nat) => Value.int .i64 (n : Int)) := by
 have : cN w v 1 (l.map fun (n : Nat) => Value.int .i64 (n : Int)).length (l.map fun (n : Nat) => Value.int .i64 (n : Int)) := h
 simpa using this
def oH (n : Int) : Int := if n < 0 ∨ 1152921504606846976 < n then 0 else (n + 72) / 64
theorem nD {X : Nat → Prop} {w : World} {x : UInt32} {n : Nat} (hX : cY X w) (hn0 : 0 < n) (hn : n < 32) :
  bC prog 158 [.int .u32 (x.toNat : Int), .int .u64 (n : Int)].toArray w fun v w' => v = .int .u32 ((lI x n).toNat : Int) ∧ Out Nil w w' := by
 refine bC.aH (N := 13) func158 rfl rfl (by simp) ?_
 have H := St.begin hX
 refine WE.aA (WL.as rfl rfl (WL.nil (WE.aA (WL.mv rfl rfl (WL.mv rfl rfl (WL.pv (PV.u9 (n := n) rfl rfl rfl (by omega)) rfl (WL.mv rfl rfl ?_)))))))
 refine WL.mv rfl rfl ?_
 refine WL.pv (PV.eq (v' := .int .u64 ((32 - n : Nat) : Int)) (PV.aBM rfl rfl rfl) (by rw [oP]; congr 1; omega)) rfl ?_
 refine WL.pv (PV.AG (n := 32 - n) rfl rfl rfl (by omega)) rfl (WL.pv (PV.ET rfl rfl rfl) rfl (WL.as rfl rfl (WL.nil (WE.ret ⟨[_], _, .nil _, ⟨rfl, trivial⟩, ?_⟩))))
 exact ⟨rfl, H.aL⟩
theorem y4 {X : Nat → Prop} {w : World} {x : UInt32} {n : Nat} (hX : cY X w) (hn0 : 0 < n) (hn : n < 32) :
  bC prog 205 [.int .u32 (x.toNat : Int), .int .i64 (-(n : Int))].toArray w fun v w' => v = .int .u32 ((lI x n).toNat : Int) ∧ Out Nil w w' := by
 refine bC.aH (N := 17) func205 rfl rfl (by simp) ?_
 have H := St.begin hX
 refine WE.aA (WL.as rfl rfl (WL.nil (WE.aA (WL.mv rfl rfl (WL.pv (PV.conv rfl sZ zR rfl) rfl ?_)))))
 refine WL.pv (PV.eq (v' := .int .u64 ((32 - n : Nat) : Int)) (PV.JT rfl rfl rfl) (congrArg (Value.int .u64) (aHB ⟨n, hn⟩ hn0))) rfl ?_
 refine WL.as rfl rfl (WL.nil (WE.aA (WL.mv rfl rfl (WL.mv rfl rfl (WL.pv (PV.AG (n := 32 - n) rfl rfl rfl (by omega)) rfl (WL.mv rfl rfl (WL.mv rfl rfl ?_)))))))
 refine WL.pv (PV.eq (v' := .int .u64 ((n : Nat) : Int)) (PV.aBM rfl rfl rfl) (by rw [oP]; congr 1; omega)) rfl ?_
 refine WL.pv (PV.u9 (n := n) rfl rfl rfl (by omega)) rfl (WL.pv (PV.ET rfl rfl rfl) rfl (WL.as rfl rfl (WL.nil (WE.ret ⟨[_], _, .nil _, ⟨rfl, trivial⟩, ?_⟩))))
 refine ⟨?_, H.aL⟩
 show Value.int .u32 _ = _
 rw [UInt32.or_comm]; rfl
theorem mV {X : Nat → Prop} {w : World} {x : UInt32} {s : Value} {l : List Nat} (hX : cY X w) (bU : aJ X (DV s l) w) (hl : ∀ n ∈ l, 0 < n ∧ n < 32) (G5 : l.length ≤ 1000) :
  bC prog 192 [.int .u32 (x.toNat : Int), s].toArray w fun v w' => v = .int .u32 ((kR x l).toNat : Int) ∧ Out Nil w w' := by
 refine bC.aH (N := 22) func192 rfl rfl (by simp) ?_
 have H := (St.begin hX).add (cE bU)
 refine WE.aA (WL.as rfl rfl (WL.nil (WE.aA (WL.as rfl rfl (WL.nil (WE.seq (WE.aA ?_)))))))
 refine WL.mv rfl rfl (WL.pv (PV.dR (DV.sl (H.p 0 rfl)) EC rfl) rfl (WL.mv rfl rfl (WL.nil (WE.block ?_))))
 refine WE.loop (α := Nat) (rg [(5, 1), (7, 1), (10, 11)]) (fun k => [(10, .int .i64 k), (5, .int .u32 ((kR x (l.take k)).toNat : Int))]) (fun k wl => k ≤ l.length ∧ St X w wl [] [] [DV s l]) (fun k => l.length - k) 0 ⟨rfl, rfl, trivial⟩ ⟨Nat.zero_le _, H⟩ ?_
 intro k γ0 w1 hI
 try dsimp only at hI
 obtain ⟨hk, H⟩ := hI
 refine WE.aA (WL.pv (PV.lss rfl rfl rfl) rfl (WL.nil (WE.seq ?_)))
 refine WE.cond rfl (fun jU => ?_) (fun jU => ?_)
 ·
  try simp only [bW] at jU
  have hlt : k < l.length := by omega
  have hR := EI x l k hlt
  refine WE.skip (WE.seq (WE.block (WE.aA (WL.pv (PV.eA rfl (DV.sl (H.p 0 rfl)) EC sz3 rfl rfl (by omega) (by omega)) rfl (WL.aY rfl pR rfl rfl (DV.rd (H.p 0 rfl) k hlt) (WL.as rfl rfl (WL.nil ?_)))))))
  refine WE.dY (WL.mv rfl rfl (WL.mv rfl rfl (WL.mv rfl rfl ?_)))
  refine WL.pv (PV.eq (v' := .int .i64 (-(l[k] : Int))) (PV.aIu rfl rfl) (by have := hl _ (List.getElem_mem hlt); rw [wrap64_in (by omega) (by omega)]; congr 1; omega)) rfl ?_
  refine WL.call aGk rfl (y4 (x := x) (n := l[k]) H.aR (hl _ (List.getElem_mem hlt)).1 (hl _ (List.getElem_mem hlt)).2) ?_
  rintro _ w2 ⟨rfl, hO⟩
  replace H := H.out hO
  refine WL.pv (PV.jW rfl rfl rfl) rfl (WL.as rfl rfl (WL.nil (WE.dY (WL.pv (PV.bT rfl rfl rfl (by omega) (by omega)) rfl (WL.mv rfl rfl (WL.nil ?_))))))
  exact ⟨k + 1, (by repeat (first | with_reducible exact bM.refl _ _ | refine bM.dD rfl ?_ | refine bM.bY rfl ?_ | refine bM.bV rfl ?_)), ⟨rfl, by rw [hR]; rfl, trivial⟩, rfl, ⟨by omega, H⟩, (by omega)⟩
 ·
  try simp only [bW] at jU
  have hge : k = l.length := by omega
  refine WE.exit (WE.aA (WL.mv rfl rfl (WL.as rfl rfl (WL.nil (WE.ret ⟨[_], _, .nil _, ⟨rfl, trivial⟩, ?_⟩)))))
  refine ⟨?_, H.aL⟩
  subst hge
  show Value.int .u32 _ = _
  rw [List.take_length]
theorem V1 {X : Nat → Prop} {w : World} {n : Int} (hX : cY X w) (hn : -9223372036854775808 ≤ n ∧ n ≤ 9223372036854775807) :
  bC prog 194 [.int .i64 n].toArray w fun v w' => v = .int .i64 (oH n) ∧ Out Nil w w' := by
 refine bC.aH (N := 13) func194 rfl rfl (by simp) ?_
 have H := St.begin hX
 refine WE.aA (WL.as rfl rfl (WL.nil (WE.seq (WE.aA (WL.mv rfl rfl (WL.pv (PV.lss rfl rfl rfl) rfl (WL.mv rfl rfl ?_)))))))
 refine WL.split (t := 5) rfl (fun SJ => ?_) (fun SJ => ?_)
 ·
  refine WL.known (t := 4) (c := true) rfl SJ ?_
  try simp only [bW] at SJ
  refine WL.off rfl (WL.off rfl (WL.pv (PV.dP rfl rfl rfl) rfl (WL.nil (WE.lN rfl (WE.aA (WL.as rfl rfl (WL.nil ?_)))))))
  refine WE.ret ⟨[_], _, .nil _, ⟨rfl, trivial⟩, ?_⟩
  refine ⟨?_, H.aL⟩
  rw [oH, if_pos (by omega)]; rfl
 ·
  refine WL.known (t := 4) (c := false) rfl SJ ?_
  try simp only [bW] at SJ
  refine WL.mv rfl rfl (WL.pv (PV.gtr rfl rfl rfl) rfl (WL.pv (PV.dF rfl rfl rfl) rfl (WL.nil ?_)))
  refine WE.cond rfl (fun lT => ?_) (fun lT => ?_)
  ·
   try simp only [bW] at lT
   refine WE.aA (WL.as rfl rfl (WL.nil (WE.ret ⟨[_], _, .nil _, ⟨rfl, trivial⟩, ?_⟩)))
   refine ⟨?_, H.aL⟩
   rw [oH, if_pos (by omega)]; rfl
  ·
   try simp only [bW] at lT
   refine WE.skip (WE.aA (WL.mv rfl rfl (WL.pv (PV.bT rfl rfl rfl (by omega) (by omega)) rfl (WL.pv (PV.bT rfl rfl rfl (by omega) (by omega)) rfl (WL.pv (PV.p6 rfl rfl rfl (by omega) (by omega) (by omega)) rfl (WL.as rfl rfl (WL.nil ?_)))))))
   refine WE.ret ⟨[_], _, .nil _, ⟨rfl, trivial⟩, ?_⟩
   refine ⟨?_, H.aL⟩
   rw [oH, if_neg (by omega)]
   show Value.int .i64 _ = _
   congr 1; omega
theorem WZ {X : Nat → Prop} {w : World}  (hX : cY X w) :
  bC prog 159 [].toArray w fun v w' => v = .agg (kw [1779033703, 3144134277, 1013904242, 2773480762, 1359893119, 2600822924, 528734635, 1541459225]).toArray ∧ Out Nil w w' := by
 refine bC.aH (N := 2) func159 rfl rfl (by decide +revert) ?_
 have H := St.begin hX
 refine WE.aA ?_
 refine WL.alloc H rfl PN rfl ?_
 intro b0 w1 H
 refine WL.nil (WE.aA ?_)
 refine WL.pv (PV.lP rfl pM c7 PN (Fl.cons rfl rfl rfl (Laid.fE (x := 1779033703) 0 (by simp)) (Fl.cons rfl rfl rfl (Laid.fE (x := 3144134277) 1 (by simp)) (Fl.cons rfl rfl rfl (Laid.fE (x := 1013904242) 2 (by simp)) (Fl.cons rfl rfl rfl (Laid.fE (x := 2773480762) 3 (by simp)) (Fl.cons rfl rfl rfl (Laid.fE (x := 1359893119) 4 (by simp)) (Fl.cons rfl rfl rfl (Laid.fE (x := 2600822924) 5 (by simp)) (Fl.cons rfl rfl rfl (Laid.fE (x := 528734635) 6 (by simp)) (Fl.cons rfl rfl rfl (Laid.fE (x := 1541459225) 7 (by simp)) Fl.nil))))))))) rfl ?_
 refine WL.aW H 0 rfl rfl rfl (new := _) rfl (by exact QH) (uK _) (Laid.at (Laid.all (by simp [aI, aQ, *])) rfl) rfl ?_
 intro w2 H
 refine WL.nil (WE.ret ⟨[_], _, .nil _, ⟨⟨_, rfl, aU aHH (aN.aF (H.l 0 rfl) (aK.all _) rfl) (by exact QH)⟩, trivial⟩, ?_⟩)
 exact ⟨rfl, H.aL⟩
theorem aDY {x y : UInt8} : ((x.toNat : Int) = (y.toNat : Int)) ↔ x = y := ⟨fun h => UInt8.toNat_inj.1 (by omega), fun h => by rw [h]⟩
theorem VC {X : Nat → Prop} {w : World} {a b : Value} {la lb : List UInt8} (hX : cY X w) (bU : aJ X (bJ a la) w) (dI : aJ X (bJ b lb) w) (rR : la.length ≤ 9223372036854775807) :
  bC prog 46 [a, b].toArray w fun v w' => v = .bool (decide (la = lb)) ∧ Out Nil w w' := by
 refine bC.aH (N := 26) func46 rfl rfl (by simp) ?_
 have H := ((St.begin hX).add (cE dI)).add (cE bU)
 refine WE.aA (WL.as rfl rfl (WL.nil (WE.seq (WE.aA (WL.mv rfl rfl (WL.pv (PV.dR (H.p 0 rfl) eM rfl) rfl (WL.mv rfl rfl ?_)))))))
 refine WL.pv (PV.dR (H.p 1 rfl) eM rfl) rfl (WL.pv (PV.neq rfl rfl rfl) rfl (WL.nil ?_))
 refine WE.cond rfl (fun j5 => ?_) (fun j5 => ?_)
 ·
  try simp only [bW] at j5
  have hne : la ≠ lb := fun e => j5 (by rw [e])
  refine WE.aA (WL.as rfl rfl (WL.nil (WE.ret ⟨[_], _, .nil _, ⟨rfl, trivial⟩, ?_⟩)))
  exact ⟨by simp [B6, hne]; rfl, H.aL⟩
 ·
  try simp only [bW] at j5
  have hlen : la.length = lb.length := by omega
  refine WE.skip (WE.seq (WE.aA (WL.as rfl rfl (WL.nil (WE.block ?_)))))
  refine WE.loop (α := Nat) (rg [(4, 2), (11, 15)]) (fun k => [(5, .int .i64 k)]) (fun k wl => k ≤ la.length ∧ (∀ j (h : j < la.length) (h' : j < lb.length), j < k → la[j] = lb[j]) ∧ St X w wl [] [] [bJ a la, bJ b lb]) (fun k => la.length - k) 0 ⟨rfl, trivial⟩ ⟨Nat.zero_le _, fun j _ _ h => by omega, H⟩ ?_
  intro k γ0 w1 hI
  try dsimp only at hI
  obtain ⟨hk, hpre, H⟩ := hI
  refine WE.seq (WE.aA (WL.mv rfl rfl (WL.mv rfl rfl (WL.pv (PV.dR (H.p 0 rfl) eM rfl) rfl (WL.pv (PV.lss rfl rfl rfl) rfl (WL.nil ?_))))))
  refine WE.cond rfl (fun rT => ?_) (fun rT => ?_)
  ·
   try simp only [bW] at rT
   have hlt : k < la.length := by omega
   refine WE.skip (WE.seq (WE.block ?_))
   refine WE.bH (.take 0 (.take 1 (.take 2 (.take 3 (.take 4 (.take 5 (.take 6 (.take 7 (.take 8 .done))))))))) mixed (by kernel_rfl) ?_
   replace H := H.out (Out.drew _)
   refine WP.mv rfl rfl rfl (WP.mv rfl rfl rfl (WP.aC rfl rfl (PV.eA rfl (H.p 0 rfl) eM gO rfl rfl (by omega) (by omega)) (WP.aM rfl rfl (RV.aV rfl u3 rfl) (bJ.rd (H.p 0 rfl) k hlt) (WP.mv rfl rfl rfl (WP.mv rfl rfl rfl (WP.aC rfl rfl (PV.eA rfl (H.p 1 rfl) eM gO rfl rfl (by omega) (by omega)) (WP.aM rfl rfl (RV.aV rfl u3 rfl) (bJ.rd (H.p 1 rfl) k (by omega)) ?_)))))))
   refine WP.aC rfl rfl (PV.neq rfl rfl rfl) (WP.done ?_)
   refine WE.cond rfl (fun rS => ?_) (fun rS => ?_)
   ·
    try simp only [bW] at rS
    have hne : la ≠ lb := fun e => by subst e; exact rS rfl
    refine WE.aA (WL.as rfl rfl (WL.nil (WE.ret ⟨[_], _, .nil _, ⟨rfl, trivial⟩, ?_⟩)))
    exact ⟨by simp [B6, hne]; rfl, H.aL⟩
   ·
    try simp only [bW] at rS
    have heq : la[k] = lb[k] := aDY.1 rS
    refine WE.skip (WE.dY (WL.mv rfl rfl (WL.pv (PV.bT rfl rfl rfl (by omega) (by omega)) rfl (WL.as rfl rfl (WL.nil ?_)))))
    exact ⟨k + 1, (by repeat (first | with_reducible exact bM.refl _ _ | refine bM.dD rfl ?_ | refine bM.bY rfl ?_ | refine bM.bV rfl ?_)), ⟨rfl, trivial⟩, rfl, ⟨by omega, fun j h h' hj => by (by_cases e : j = k; (subst e; exact heq); exact hpre j h h' (by omega)), H⟩, (by omega)⟩
  ·
   try simp only [bW] at rT
   have hge : ¬ k < la.length := by omega
   refine WE.exit (WE.aA (WL.as rfl rfl (WL.nil (WE.ret ⟨[_], _, .nil _, ⟨rfl, trivial⟩, ?_⟩))))
   have e : la = lb := List.ext_getElem hlen fun i h h' => hpre i h h' (by omega)
   exact ⟨by simp [B6, e]; rfl, H.aL⟩
theorem VT {X : Nat → Prop} {w : World} {n : Nat} (hX : cY X w) (hn : n ≤ 70368744177664) :
  bC prog 78 [.slice none 0 0, .int .i64 n].toArray w fun v w' => Out Nil w w' ∧ w'.ownsRow w.heap.size 5 1 v 0 [] := by
 refine bC.aH (N := 27) func78 rfl rfl (by simp) ?_
 have H := St.begin hX
 refine WE.aA (WL.as rfl rfl (WL.nil (WE.seq (WE.aA (WL.mv rfl rfl (WL.pv (PV.lss rfl rfl rfl) rfl (WL.nil ?_)))))))
 refine WE.bD rfl (by simp) ?_
 refine WE.skip (WE.seq (WE.aA (WL.mv rfl rfl (WL.mv rfl rfl (WL.pv (PV.L2 eM rfl) rfl (WL.mv rfl rfl (WL.pv (PV.A0 eM rfl) rfl ?_)))))))
 refine WL.pv (PV.gC rfl rfl rfl (by omega) (by omega)) rfl (WL.pv (PV.gC rfl rfl rfl (by omega) (by omega)) rfl (WL.as rfl rfl (WL.nil (WE.aA (WL.mv rfl rfl (WL.pv (PV.gtr rfl rfl rfl) rfl (WL.nil ?_)))))))
 refine WE.cond rfl (fun nG => ?_) (fun nG => ?_)
 ·
  try simp only [bW] at nG
  have hpos : 0 < n := by omega
  refine WE.dY (WL.mv rfl rfl (WL.mv rfl rfl (WL.pv (PV.L2 eM rfl) rfl (WL.pv (PV.WU rfl (cN.nil w 1) eM gO rfl rfl (by omega) (by omega)) rfl (WL.mv rfl rfl ?_)))))
  refine WL.GL (n := n) H iD sZ (by decide) rfl (by simp [ev]; rfl) hpos (by omega) (by decide) rfl ?_
  intro g cap cs w2 H
  refine WL.mv rfl rfl (WL.pv (PV.A0 eM rfl) rfl ?_)
  refine WL.aIt H 0 rfl eM rfl rfl rfl rfl rfl ?_
  intro H
  refine WL.as rfl rfl (WL.nil (WE.aA (WL.mv rfl rfl (WL.as rfl rfl (WL.nil (WE.ret ⟨[_], _, .nil _, ⟨rfl, trivial⟩, ?_⟩))))))
  exact ⟨H.aL, H.l 0 rfl⟩
 ·
  try simp only [bW] at nG
  have hz : n = 0 := by omega
  refine WE.skip (WE.aA (WL.mv rfl rfl (WL.as rfl rfl (WL.nil (WE.ret ⟨[_], _, .nil _, ⟨rfl, trivial⟩, ?_⟩)))))
  exact ⟨H.aL, World.ownsRow_nil _ _ _ _⟩
theorem gU (ls : List (List UInt8)) (k : Nat) (h : k < ls.length) : (ls.take (k + 1)).flatten = (ls.take k).flatten ++ ls[k] := by
 rw [List.take_succ_eq_append_getElem h, List.flatten_append]; simp
theorem gP (ls : List (List UInt8)) (k : Nat) : (ls.take k).flatten.length ≤ ls.flatten.length := by
 have h : ls.flatten = (ls.take k).flatten ++ (ls.drop k).flatten := by rw [← List.flatten_append, List.take_append_drop]
 rw [h, List.length_append]; omega
theorem V0 {X : Nat → Prop} {w : World} {s : Value} {vs : List Value} {ls : List (List UInt8)} (hX : cY X w) (bU : aJ X (kK s vs) w) (dI : aJ X (qH vs ls) w) (hvs : vs.length ≤ 1000000) (aEP : ls.flatten.length ≤ 70368744177664) :
  bC prog 37 [s].toArray w fun v w' => Out Nil w w' ∧ aJ X (bJ v ls.flatten) w' := by
 refine bC.aH (N := 36) func37 rfl rfl (by simp) ?_
 have H := ((St.begin hX).add (cE dI)).add (cE bU)
 have hlen : vs.length = ls.length := (H.p 1 rfl : qH vs ls w).1
 refine WE.aA (WL.as rfl rfl (WL.nil (WE.aA (WL.as rfl rfl (WL.nil (WE.seq (WE.aA ?_)))))))
 refine WL.mv rfl rfl (WL.pv (PV.dR (H.p 0 rfl) sG rfl) rfl (WL.mv rfl rfl (WL.nil (WE.block ?_))))
 refine WE.loop (α := Nat) (rg [(3, 1), (5, 1), (11, 12)]) (fun k => [(11, .int .i64 k), (3, .int .i64 ((ls.take k).flatten.length : Int))]) (fun k wl => k ≤ vs.length ∧ St X w wl [] [] [kK s vs, qH vs ls]) (fun k => vs.length - k) 0 ⟨rfl, rfl, trivial⟩ ⟨Nat.zero_le _, H⟩ ?_
 intro k γ0 w1 hI
 try dsimp only at hI
 obtain ⟨hk, H⟩ := hI
 refine WE.aA (WL.pv (PV.lss rfl rfl rfl) rfl (WL.nil (WE.seq ?_)))
 refine WE.cond rfl (fun lJ => ?_) (fun lJ => ?_)
 ·
  try simp only [bW] at lJ
  have hlt : k < vs.length := by omega
  have hF := gU ls k (by omega)
  have hG := gP ls (k + 1)
  rw [hF, List.length_append] at hG
  refine WE.skip (WE.seq (WE.block (WE.aA (WL.pv (PV.eA rfl (H.p 0 rfl) sG B0 rfl rfl (by omega) (by omega)) rfl (WL.aY rfl eU rfl rfl (kK.rd (H.p 0 rfl) k hlt) (WL.as rfl rfl (WL.nil ?_)))))))
  refine WE.aA (WL.mv rfl rfl (WL.mv rfl rfl (WL.pv (PV.dR ((H.p 1 rfl : qH vs ls _).2 k hlt (by omega)) eM rfl) rfl (WL.pv (PV.bT rfl rfl rfl (by omega) (by omega)) rfl (WL.as rfl rfl (WL.nil (WE.aA ?_)))))))
  refine WL.mv rfl rfl (WL.pv (PV.lss rfl rfl rfl) rfl (WL.nil ?_))
  refine WE.bD rfl (by simp; omega) ?_
  refine WE.skip (WE.dY (WL.pv (PV.bT rfl rfl rfl (by omega) (by omega)) rfl (WL.mv rfl rfl (WL.nil ?_))))
  exact ⟨k + 1, (by repeat (first | with_reducible exact bM.refl _ _ | refine bM.dD rfl ?_ | refine bM.bY rfl ?_ | refine bM.bV rfl ?_)), ⟨rfl, by rw [hF, List.length_append]; rfl, trivial⟩, rfl, ⟨by omega, H⟩, (by omega)⟩
 ·
  try simp only [bW] at lJ
  have hge : k = vs.length := by omega
  refine WE.exit (WE.aA (WL.mv rfl rfl ?_))
  refine WL.call aFT rfl (VT (n := (ls.take k).flatten.length) H.aR (by have := gP ls k; omega)) ?_
  rintro v24 w2 ⟨hO, iB⟩
  replace H := H.push hO (aP.hU w.heap.size v24 5 1 0 []) (gR iB H.size) (fun b hb => (iB.lt b hb).1)
  refine WL.as rfl rfl (WL.nil (WE.seq (WE.aA (WL.mv rfl rfl (WL.pv (PV.dR (H.p 0 rfl) sG rfl) rfl (WL.mv rfl rfl (WL.nil ?_)))))))
  refine WE.block ?_
  refine WE.loop (α := Nat × Value) (rg [(6, 1), (8, 1), (27, 8)]) (fun p => [(27, .int .i64 p.1), (6, p.2)]) (fun p wl => p.1 ≤ vs.length ∧ St X w wl [] [aP.hU w.heap.size p.2 5 1 (ls.take p.1).flatten.length (kc (ls.take p.1).flatten)] [kK s vs, qH vs ls]) (fun p => vs.length - p.1) (0, v24) ⟨rfl, rfl, trivial⟩ ⟨Nat.zero_le _, H⟩ ?_
  intro ⟨k, v⟩ γ1 w3 hI
  try dsimp only at hI
  obtain ⟨hk, H⟩ := hI
  refine WE.aA (WL.pv (PV.lss rfl rfl rfl) rfl (WL.nil (WE.seq ?_)))
  refine WE.cond rfl (fun JA => ?_) (fun JA => ?_)
  ·
   try simp only [bW] at JA
   have hlt : k < vs.length := by omega
   have hF := gU ls k (by omega)
   have hG := gP ls (k + 1)
   rw [hF, List.length_append] at hG
   refine WE.skip (WE.seq (WE.block (WE.aA (WL.pv (PV.eA rfl (H.p 0 rfl) sG B0 rfl rfl (by omega) (by omega)) rfl (WL.aY rfl eU rfl rfl (kK.rd (H.p 0 rfl) k hlt) (WL.as rfl rfl (WL.nil ?_)))))))
   refine WE.dY (WL.mv rfl rfl (WL.mv rfl rfl ?_))
   refine WL.append (m := (ls[k]'(by omega)).length) H 0 iD (by decide) rfl rfl rfl ((H.p 1 rfl : qH vs ls _).2 k hlt (by omega)) (bG _) (by omega) (by decide) rfl ?_
   intro v33 w4 H
   refine WL.as rfl rfl (WL.nil (WE.dY (WL.pv (PV.bT rfl rfl rfl (by omega) (by omega)) rfl (WL.mv rfl rfl (WL.nil ?_)))))
   replace H : St X w w4 [] [aP.hU w.heap.size v33 5 1 (ls.take (k+1)).flatten.length (kc (ls.take (k+1)).flatten)] [kK s vs, qH vs ls] := by rw [hF, List.length_append, iO]; exact H
   exact ⟨(k + 1, v33), (by repeat (first | with_reducible exact bM.refl _ _ | refine bM.dD rfl ?_ | refine bM.bY rfl ?_ | refine bM.bV rfl ?_)), ⟨rfl, rfl, trivial⟩, rfl, ⟨by dsimp only; omega, H⟩, (by dsimp only; omega)⟩
  ·
   try simp only [bW] at JA
   have hge : k = vs.length := by omega
   refine WE.exit (WE.aA (WL.mv rfl rfl (WL.as rfl rfl (WL.nil (WE.ret ⟨[_], _, .nil _, ⟨rfl, trivial⟩, ?_⟩)))))
   replace H := H.freeze (i := 0) rfl
   have hall : ls.take k = ls := List.take_of_length_le (by omega)
   exact ⟨H.aL, H.gF ((H.bK 0 rfl).imp fun _ h => by have := bJ.dJ h; rwa [hall] at this)⟩
def zc (n : Nat) : Nat := (119 - n % 64) % 64
def PM (N : Nat) : List UInt8 := (List.range 8).map fun i => UInt8.ofNat (N / 2 ^ (56 - 8 * i))
def cQ (l : List UInt8) : List UInt8 := l ++ 128 :: (List.replicate (zc l.length) 0 ++ PM (8 * l.length))
theorem kX (N : Nat) : (PM N).length = 8 := by simp [PM]
theorem L8 (N i : Nat) (h : i < (PM N).length) : (PM N)[i] = UInt8.ofNat (N / 2 ^ (56 - 8 * i)) := by simp [PM]
theorem lW (l : List UInt8) : (cQ l).length = l.length + 9 + zc l.length := by
 simp [cQ, kX]; omega
def fL : List UInt32 := [1116352408, 1899447441, 3049323471, 3921009573, 961987163, 1508970993, 2453635748, 2870763221, 3624381080, 310598401, 607225278, 1426881987, 1925078388, 2162078206, 2614888103, 3248222580, 3835390401, 4022224774, 264347078, 604807628, 770255983, 1249150122, 1555081692, 1996064986, 2554220882, 2821834349, 2952996808, 3210313671, 3336571891, 3584528711, 113926993, 338241895, 666307205, 773529912, 1294757372, 1396182291, 1695183700, 1986661051, 2177026350, 2456956037, 2730485921, 2820302411, 3259730800, 3345764771, 3516065817, 3600352804, 4094571909, 275423344, 430227734, 506948616, 659060556, 883997877, 958139571, 1322822218, 1537002063, 1747873779, 1955562222, 2024104815, 2227730452, 2361852424, 2428436474, 2756734187, 3204031479, 3329325298]
theorem Q2 {X : Nat → Prop} {w : World} {a : Value} {la : List UInt8} (hX : cY X w) (bU : aJ X (bJ a la) w) (rR : la.length ≤ 1000000000) :
  bC prog 156 [a].toArray w fun v w' => Out Nil w w' ∧ aJ X (bJ v (cQ la)) w' := by
 refine bC.aH (N := 36) func156 rfl rfl (by simp) ?_
 have H := (St.begin hX).add (cE bU)
 have aCh : zc la.length < 64 ∧ (la.length + 1 + zc la.length) % 64 = 56 := by unfold zc; omega
 refine WE.aA (WL.as rfl rfl (WL.nil (WE.aA ?_)))
 refine WL.bB (l0 := []) H rfl iD (by decide) (cT _ _) Fl.nil rfl ?_
 intro b6 w1 H
 replace H := H.AE (n := 0) (sz := 1) (i := 0) rfl rfl (by decide)
 refine WL.mv rfl rfl ?_
 refine WL.append H 0 iD (by decide) rfl rfl rfl (by exact H.p 0 rfl) (bG _) (by omega) (by decide) rfl ?_
 intro v8 w2 H
 refine WL.as rfl rfl (WL.nil (WE.aA (WL.mv rfl rfl ?_)))
 refine WL.bB (l0 := [.int .u8 (0)]) H rfl iD (by decide) (cT _ _) (Fl.cons rfl rfl (by simp only [aS]) Laid.head Fl.nil) rfl ?_
 intro u0 w3 H
 refine WL.append H 1 iD (by decide) rfl rfl rfl (cN.bZ (n := 1) (H.l 0 rfl) rfl) (bA _ rfl) (by omega) (by decide) rfl ?_
 intro v11 w4 H
 refine WL.as rfl rfl (WL.nil (WE.seq (WE.block ?_)))
 replace H := H.forget 0
 have e0 : kc (la ++ 128 :: List.replicate 0 0) = ([] ++ kc la) ++ [.int .u8 128] := by rw [iO]; rfl
 refine WE.loop (α := Nat × Value) (rg [(3, 1), (12, 7)]) (fun p => [(3, p.2)]) (fun p wl => p.1 ≤ zc la.length ∧ St X w wl [] [aP.hU w.heap.size p.2 5 1 (la.length + 1 + p.1) (kc (la ++ 128 :: List.replicate p.1 0))] [bJ a la]) (fun p => zc la.length - p.1) (0, v11) ⟨rfl, trivial⟩ ⟨Nat.zero_le _, H.conv (by rw [e0, Nat.add_zero]; rw [show 0 + la.length + 1 = la.length + 1 by omega]; rfl)⟩ ?_
 intro ⟨j, v⟩ γ0 w5 hI
 try dsimp only at hI
 obtain ⟨hj, H⟩ := hI
 refine WE.seq (WE.aA (WL.mv rfl rfl (WL.pv (PV.dR (cN.dJ (H.l 0 rfl)) eM rfl) rfl (WL.pv (PV.p5 rfl rfl rfl (by omega) (by omega)) rfl (WL.pv (PV.neq rfl rfl rfl) rfl (WL.nil ?_))))))
 refine WE.cond rfl (fun uP => ?_) (fun uP => ?_)
 ·
  try simp only [bW] at uP
  have hlt : j < zc la.length := by omega
  refine WE.skip (WE.block (WE.dY (WL.mv rfl rfl ?_)))
  refine WL.bB (l0 := [.int .u8 (0)]) H rfl iD (by decide) (cT _ _) (Fl.cons rfl rfl (by simp only [aS]) Laid.head Fl.nil) rfl ?_
  intro b17 w6 H
  refine WL.append H 1 iD (by decide) rfl rfl rfl (cN.bZ (n := 1) (H.l 0 rfl) rfl) (bA _ rfl) (by omega) (by decide) rfl ?_
  intro v18 w7 H
  refine WL.as rfl rfl (WL.nil ?_)
  replace H := H.forget 0
  have e : kc (la ++ 128 :: List.replicate (j + 1) 0) = kc (la ++ 128 :: List.replicate j 0) ++ [.int .u8 0] := by rw [List.replicate_succ', ← List.cons_append, ← List.append_assoc, iO]; rfl
  exact ⟨(j + 1, v18), (by repeat (first | with_reducible exact bM.refl _ _ | refine bM.dD rfl ?_ | refine bM.bY rfl ?_ | refine bM.bV rfl ?_)), ⟨rfl, trivial⟩, rfl, ⟨by dsimp only; omega, H.conv (by rw [e]; rfl)⟩, (by dsimp only; omega)⟩
 ·
  try simp only [bW] at uP
  obtain rfl : j = zc la.length := by omega
  refine WE.exit (WE.aA (WL.mv rfl rfl (WL.pv (PV.dR (H.p 0 rfl) eM rfl) rfl (WL.pv (PV.BJ (n := la.length) rfl sZ LB rfl rfl (by omega)) rfl (WL.pv (PV.IJ (m := la.length) (n := 8) (q := 8 * la.length) rfl rfl rfl (by omega) (by omega)) rfl (WL.as rfl rfl (WL.nil ?_)))))))
  refine WE.seq (WE.aA (WL.as rfl rfl (WL.nil (WE.block ?_))))
  refine WE.loop (α := Nat × Value) (rg [(3, 1), (5, 1), (23, 12)]) (fun p => [(5, .int .i64 (56 - 8 * (p.1 : Int))), (3, p.2)]) (fun p wl => p.1 ≤ 8 ∧ St X w wl [] [aP.hU w.heap.size p.2 5 1 (la.length + 1 + zc la.length + p.1) (kc ((la ++ 128 :: List.replicate (zc la.length) 0) ++ (PM (8 * la.length)).take p.1))] [bJ a la]) (fun p => 8 - p.1) (0, v) ⟨rfl, rfl, trivial⟩ ⟨Nat.zero_le _, by dsimp only; rw [List.take_zero, List.append_nil]; exact H⟩ ?_
  intro ⟨i, u⟩ γ1 w8 hI
  try dsimp only at hI
  obtain ⟨hi, H⟩ := hI
  refine WE.seq (WE.aA (WL.mv rfl rfl (WL.pv (PV.geq rfl rfl rfl) rfl (WL.nil ?_))))
  refine WE.cond rfl (fun CV => ?_) (fun CV => ?_)
  ·
   try simp only [bW] at CV
   have hi8 : i < 8 := by omega
   refine WE.skip (WE.seq (WE.block (WE.dY (WL.mv rfl rfl (WL.mv rfl rfl (WL.mv rfl rfl (WL.pv (PV.BJ (n := 56 - 8 * i) rfl sZ zR rfl (by omega) (by omega)) rfl ?_)))))))
   refine WL.pv (PV.B3 (m := 8 * la.length) (n := 56 - 8 * i) rfl rfl rfl (show _ < 64 by omega)) rfl (WL.pv (PV.JJ (n := 8 * la.length / 2 ^ (56 - 8 * i)) rfl LB mC rfl) rfl ?_)
   refine WL.bB (l0 := [.int .u8 (0)]) H rfl iD (by decide) (cT _ _) (Fl.cons rfl rfl (by simp only [aS]) Laid.head Fl.nil) rfl ?_
   intro b33 w9 H
   refine WL.append H 1 iD (by decide) rfl rfl rfl (cN.bZ (n := 1) (H.l 0 rfl) rfl) (bA _ rfl) (by omega) (by decide) rfl ?_
   intro v34 tM H
   refine WL.as rfl rfl (WL.nil (WE.dY (WL.mv rfl rfl ?_)))
   refine WL.pv (PV.eq (v' := .int .i64 (56 - 8 * ((i + 1 : Nat) : Int))) (PV.gC rfl rfl rfl (by omega) (by omega)) (by congr 1; omega)) rfl ?_
   refine WL.as rfl rfl (WL.nil ?_)
   replace H := H.forget 0
   have e := CK (la ++ 128 :: List.replicate (zc la.length) 0) (PM (8 * la.length)) i (by rw [kX]; omega)
   rw [L8] at e
   exact ⟨(i + 1, v34), (by repeat (first | with_reducible exact bM.refl _ _ | refine bM.dD rfl ?_ | refine bM.bY rfl ?_ | refine bM.bV rfl ?_)), ⟨rfl, rfl, trivial⟩, rfl, ⟨by dsimp only; omega, H.conv (by rw [e]; rfl)⟩, (by dsimp only; omega)⟩
  ·
   try simp only [bW] at CV
   obtain rfl : i = 8 := by omega
   refine WE.exit (WE.aA (WL.mv rfl rfl (WL.as rfl rfl (WL.nil (WE.ret ⟨[_], _, .nil _, ⟨rfl, trivial⟩, ?_⟩)))))
   replace H := H.freeze (i := 0) rfl
   exact ⟨H.aL, H.gF ((H.bK 0 rfl).imp fun _ h => by have := bJ.dJ h; rw [List.take_of_length_le (by rw [kX]; omega), List.append_assoc, List.cons_append] at this; exact this)⟩
def sg0 (x : UInt32) : UInt32 := (lI x 7 ^^^ lI x 18) ^^^ (x >>> UInt32.ofNat 3)
def sg1 (x : UInt32) : UInt32 := (lI x 17 ^^^ lI x 19) ^^^ (x >>> UInt32.ofNat 10)
def word (b : List UInt8) (i : Nat) : UInt32 := (((b.getD (4 * i) 0).toUInt32 <<< UInt32.ofNat 24 ||| (b.getD (4 * i + 1) 0).toUInt32 <<< UInt32.ofNat 16) ||| (b.getD (4 * i + 2) 0).toUInt32 <<< UInt32.ofNat 8) ||| (b.getD (4 * i + 3) 0).toUInt32
def ext (w : List UInt32) : List UInt32 := w ++ [((w.getD (w.length - 16) 0 + sg0 (w.getD (w.length - 15) 0)) + w.getD (w.length - 7) 0) + sg1 (w.getD (w.length - 2) 0)]
def sched (b : List UInt8) : Nat → List UInt32
 | 0 => (List.range 16).map (word b)
 | k + 1 => ext (sched b k)
theorem cO (b : List UInt8) (k : Nat) : (sched b k).length = 16 + k := by
 induction k with
 | zero => simp [sched]
 | succ k ih => simp [sched, ext, ih]; omega
theorem e9 {α : Type} {l : List α} {d : α} {i : Nat} (h : i < l.length) : l.getD i d = l[i] := by simp [h]
theorem HQ (b : List UInt8) (k : Nat) (h0 : k < (sched b k).length) (h1 : k + 1 < (sched b k).length) (h9 : k + 9 < (sched b k).length) (h14 : k + 14 < (sched b k).length) :
  sched b (k + 1) = sched b k ++ [(((sched b k)[k] + sg0 (sched b k)[k + 1]) + (sched b k)[k + 9]) + sg1 (sched b k)[k + 14]] := by
 have hl := cO b k
 show ext (sched b k) = _
 unfold ext
 rw [hl, show 16 + k - 16 = k by omega, show 16 + k - 15 = k + 1 by omega, show 16 + k - 7 = k + 9 by omega, show 16 + k - 2 = k + 14 by omega, e9 h0, e9 h1, e9 h9, e9 h14]
theorem WG (b : List UInt8) (i : Nat) (h : 4 * i + 3 < b.length) : word b i = (((b[4 * i].toUInt32 <<< UInt32.ofNat 24 ||| b[4 * i + 1].toUInt32 <<< UInt32.ofNat 16) ||| b[4 * i + 2].toUInt32 <<< UInt32.ofNat 8) ||| b[4 * i + 3].toUInt32) := by
 unfold word
 rw [e9 (by omega), e9 (by omega), e9 (by omega), e9 h]
theorem RA {X : Nat → Prop} {w : World}  (hX : cY X w) :
  bC prog 155 [].toArray w fun v w' => Out Nil w w' ∧ aJ X (U8 v fL) w' := by
 refine bC.aH (N := 2) func155 rfl rfl (by decide +revert) ?_
 have H := St.begin hX
 refine WE.aA (WL.as rfl rfl (WL.nil (WE.aA ?_)))
 refine WL.bB (l0 := List.replicate 64 (.int .u32 0)) (l := kw fL) H rfl EB (by decide) (cT _ _) (Fl.rows (z := .int .u32 0) (kw fL) [] (fun v hv => cells_one (uK _ v hv))) rfl ?_
 intro b1 w2 H
 refine WL.as rfl rfl (WL.nil (WE.ret ⟨[_], _, .nil _, ⟨rfl, trivial⟩, ?_⟩))
 replace H := H.freeze (i := 0) rfl
 exact ⟨H.aL, H.gF ((H.bK 0 rfl).imp fun _ h => cN.slw (cN.bZ (n := 64) h rfl))⟩
theorem HP {X : Nat → Prop} {w : World} {a : Value} {la : List UInt8} (hX : cY X w) (bU : aJ X (bJ a la) w) (rR : la.length = 64) :
  bC prog 157 [a].toArray w fun v w' => Out Nil w w' ∧ aJ X (U8 v (sched la 48)) w' := by
 refine bC.aH (N := 95) func157 rfl rfl (by simp) ?_
 have H := (St.begin hX).add (cE bU)
 refine WE.aA (WL.as rfl rfl (WL.nil (WE.aA (WL.as rfl rfl (WL.nil (WE.seq (WE.aA ?_)))))))
 refine WL.as rfl rfl (WL.nil (WE.block ?_))
 replace H := H.kS 260 1
 refine WE.loop (α := Nat × Value) (rg [(3, 2), (8, 40)]) (fun p => [(4, .int .i64 p.1), (3, p.2)]) (fun p wl => p.1 ≤ 16 ∧ St X w wl [] [aP.hU w.heap.size p.2 260 1 p.1 (kw ((List.range p.1).map (word la)))] [bJ a la]) (fun p => 16 - p.1) (0, .slice none 0 0) ⟨rfl, rfl, trivial⟩ ⟨Nat.zero_le _, H⟩ ?_
 intro ⟨i, v⟩ γ0 w1 hI
 try dsimp only at hI
 obtain ⟨hi, H⟩ := hI
 refine WE.seq (WE.aA (WL.mv rfl rfl (WL.pv (PV.lss rfl rfl rfl) rfl (WL.nil ?_))))
 refine WE.cond rfl (fun uN => ?_) (fun uN => ?_)
 ·
  try simp only [bW] at uN
  have hlt : i < 16 := by omega
  refine WE.skip (WE.seq (WE.block ?_))
  refine WE.draw (.take 0 (.take 1 (.take 2 (.take 3 (.take 4 (.take 5 (.take 6 (.take 7 (.take 8 (.take 9 (.take 10 (.take 11 (.take 12 (.take 13 (.take 14 (.take 15 (.take 16 (.take 17 (.take 18 (.take 19 (.take 20 (.take 21 (.take 22 (.take 23 (.take 24 (.take 25 (.take 26 (.take 27 (.take 28 (.take 29 (.take 30 (.take 31 (.take 32 (.take 33 (.aG 34 (.aG 35 (.take 36 .done))))))))))))))))))))))))))))))))))))) mixed (by kernel_rfl) ?_
  replace H := H.out (Out.drew _)
  refine WP.mv rfl rfl rfl (WP.mv rfl rfl rfl (WP.mv rfl rfl rfl (WP.aC rfl rfl (PV.mA rfl rfl rfl (by omega) (by omega)) (WP.aC rfl rfl (PV.eA rfl (H.p 0 rfl) eM gO rfl rfl (by omega) (by omega)) (WP.aM rfl rfl (RV.aV rfl u3 rfl) (bJ.rd (H.p 0 rfl) (4 * i) (by omega)) (WP.aC rfl rfl (PV.F9 rfl mC vE rfl) (WP.aC rfl rfl (PV.AG (n := 24) rfl rfl rfl (by omega)) ?_)))))))
  refine WP.mv rfl rfl rfl (WP.mv rfl rfl rfl (WP.aC rfl rfl (PV.mA rfl rfl rfl (by omega) (by omega)) (WP.aC rfl rfl (PV.bT rfl rfl rfl (by omega) (by omega)) (WP.aC rfl rfl (PV.eA rfl (H.p 0 rfl) eM gO rfl rfl (by omega) (by omega)) (WP.aM rfl rfl (RV.aV rfl u3 rfl) (bJ.rd (H.p 0 rfl) (4 * i + 1) (by omega)) (WP.aC rfl rfl (PV.F9 rfl mC vE rfl) (WP.aC rfl rfl (PV.AG (n := 16) rfl rfl rfl (by omega)) ?_)))))))
  refine WP.aC rfl rfl (PV.ET rfl rfl rfl) (WP.mv rfl rfl rfl (WP.mv rfl rfl rfl (WP.aC rfl rfl (PV.mA rfl rfl rfl (by omega) (by omega)) (WP.aC rfl rfl (PV.bT rfl rfl rfl (by omega) (by omega)) (WP.aC rfl rfl (PV.eA rfl (H.p 0 rfl) eM gO rfl rfl (by omega) (by omega)) (WP.aM rfl rfl (RV.aV rfl u3 rfl) (bJ.rd (H.p 0 rfl) (4 * i + 2) (by omega)) (WP.aC rfl rfl (PV.F9 rfl mC vE rfl) ?_)))))))
  refine WP.aC rfl rfl (PV.AG (n := 8) rfl rfl rfl (by omega)) (WP.aC rfl rfl (PV.ET rfl rfl rfl) (WP.mv rfl rfl rfl (WP.mv rfl rfl rfl (WP.aC rfl rfl (PV.mA rfl rfl rfl (by omega) (by omega)) (WP.aC rfl rfl (PV.bT rfl rfl rfl (by omega) (by omega)) (WP.aC rfl rfl (PV.eA rfl (H.p 0 rfl) eM gO rfl rfl (by omega) (by omega)) (WP.aM rfl rfl (RV.aV rfl u3 rfl) (bJ.rd (H.p 0 rfl) (4 * i + 3) (by omega)) ?_)))))))
  refine WP.aC rfl rfl (PV.F9 rfl mC vE rfl) (WP.aC rfl rfl (PV.ET rfl rfl rfl) (WP.aG rfl ?_))
  refine WL.bB (l0 := [.int .u32 (0)]) H rfl EB (by decide) (cT _ _) (Fl.cons rfl rfl (by simp only [aS]) Laid.head Fl.nil) rfl ?_
  intro z1 w2 H
  refine WL.nil ⟨(fa (nw 34 31) (fa (nw 34 22) (fa (nw 34 13) (fa (nw 34 5) c5)))), ?_⟩
  refine WP.aG rfl ?_
  refine WL.append H 1 EB (by decide) rfl rfl rfl (cN.bZ (n := 1) (H.l 0 rfl) rfl) (bA _ rfl) (by omega) (by decide) rfl ?_
  intro v47 w3 H
  refine WL.nil ⟨(fa (nw 35 31) (fa (nw 35 22) (fa (nw 35 13) (fa (nw 35 5) c5)))), ?_⟩
  refine WP.as rfl rfl rfl (WP.done (WE.dY (WL.mv rfl rfl (WL.pv (PV.bT rfl rfl rfl (by omega) (by omega)) rfl (WL.as rfl rfl (WL.nil ?_))))))
  replace H := H.forget 0
  have e : kw ((List.range (i + 1)).map (word la)) = kw ((List.range i).map (word la)) ++ [.int .u32 ((word la i).toNat : Int)] := by rw [List.range_succ, List.map_append, A2]; rfl
  rw [WG la i (by omega)] at e
  exact ⟨(i + 1, v47), (by repeat (first | with_reducible exact bM.refl _ _ | refine bM.dD rfl ?_ | refine bM.bY rfl ?_ | refine bM.bV rfl ?_)), ⟨rfl, rfl, trivial⟩, rfl, ⟨by dsimp only; omega, H.conv (by rw [e]; rfl)⟩, (by dsimp only; omega)⟩
 ·
  try simp only [bW] at uN
  obtain rfl : i = 16 := by omega
  refine WE.exit (WE.seq (WE.aA (WL.as rfl rfl (WL.nil (WE.block ?_)))))
  refine WE.loop (α := Nat × Value) (rg [(3, 1), (5, 3), (48, 46)]) (fun p => [(5, .int .i64 ((16 + p.1 : Nat) : Int)), (3, p.2)]) (fun p wl => p.1 ≤ 48 ∧ St X w wl [] [aP.hU w.heap.size p.2 260 1 (16 + p.1) (kw (sched la p.1))] [bJ a la]) (fun p => 48 - p.1) (0, v) ⟨rfl, rfl, trivial⟩ ⟨Nat.zero_le _, H⟩ ?_
  intro ⟨k, u⟩ γ1 w4 hI
  try dsimp only at hI
  obtain ⟨hk, H⟩ := hI
  have hS := cO la k
  refine WE.seq (WE.aA (WL.mv rfl rfl (WL.pv (PV.lss rfl rfl rfl) rfl (WL.nil ?_))))
  refine WE.cond rfl (fun I6 => ?_) (fun I6 => ?_)
  ·
   try simp only [bW] at I6
   have hlt : k < 48 := by omega
   refine WE.skip (WE.seq (WE.block (WE.aA (WL.mv rfl rfl (WL.mv rfl rfl ?_)))))
   refine WL.pv (PV.eq (v' := .int .i64 ((k + 1 : Nat) : Int)) (PV.gC rfl rfl rfl (by omega) (by omega)) (by congr 1; omega)) rfl ?_
   refine WL.pv (PV.eA rfl (cN.dJ (H.l 0 rfl)) wY c7 rfl rfl (by omega) (by omega)) rfl ?_
   refine WL.aY rfl dS rfl rfl (by exact cN.rdw (cN.dJ (H.l 0 rfl)) (k + 1) (by rw [hS]; omega)) ?_
   refine WL.as rfl rfl (WL.nil (WE.aA (WL.mv rfl rfl (WL.mv rfl rfl ?_))))
   refine WL.pv (PV.eq (v' := .int .i64 ((k + 14 : Nat) : Int)) (PV.gC rfl rfl rfl (by omega) (by omega)) (by congr 1; omega)) rfl ?_
   refine WL.pv (PV.eA rfl (cN.dJ (H.l 0 rfl)) wY c7 rfl rfl (by omega) (by omega)) rfl ?_
   refine WL.aY rfl dS rfl rfl (by exact cN.rdw (cN.dJ (H.l 0 rfl)) (k + 14) (by rw [hS]; omega)) ?_
   refine WL.as rfl rfl (WL.nil ?_)
   refine WE.draw (.take 0 (.take 1 (.take 2 (.take 3 (.take 4 (.take 5 (.take 6 (.take 8 (.take 11 (.take 12 (.take 15 (.take 16 (.take 17 (.take 18 (.take 19 (.take 21 (.take 23 (.take 26 (.take 27 (.aG 7 (.aG 9 (.take 10 (.take 13 (.take 14 (.take 20 (.aG 22 (.aG 24 (.take 25 (.take 28 (.take 29 (.aG 30 (.aG 31 (.take 32 .done))))))))))))))))))))))))))))))))) mixed (by kernel_rfl) ?_
   replace H := H.out (Out.drew _)
   refine WP.mv rfl rfl rfl (WP.mv rfl rfl rfl (WP.mv rfl rfl rfl ?_))
   refine WP.aC rfl rfl (PV.eq (v' := .int .i64 ((k : Nat) : Int)) (PV.gC rfl rfl rfl (by omega) (by omega)) (by congr 1; omega)) ?_
   refine WP.aC rfl rfl (PV.eA rfl (cN.dJ (H.l 0 rfl)) wY c7 rfl rfl (by omega) (by omega)) ?_
   refine WP.aM rfl rfl (RV.aV rfl dS rfl) (by exact cN.rdw (cN.dJ (H.l 0 rfl)) (k) (by rw [hS]; omega)) ?_
   refine WP.mv rfl rfl rfl (WP.mv rfl rfl rfl (WP.mv rfl rfl rfl (WP.aC rfl rfl (PV.u9 (n := 3) rfl rfl rfl (by omega)) (WP.mv rfl rfl rfl (WP.mv rfl rfl rfl ?_)))))
   refine WP.aC rfl rfl (PV.eq (v' := .int .i64 ((k + 9 : Nat) : Int)) (PV.gC rfl rfl rfl (by omega) (by omega)) (by congr 1; omega)) ?_
   refine WP.aC rfl rfl (PV.eA rfl (cN.dJ (H.l 0 rfl)) wY c7 rfl rfl (by omega) (by omega)) ?_
   refine WP.aM rfl rfl (RV.aV rfl dS rfl) (by exact cN.rdw (cN.dJ (H.l 0 rfl)) (k + 9) (by rw [hS]; omega)) ?_
   refine WP.mv rfl rfl rfl (WP.mv rfl rfl rfl (WP.mv rfl rfl rfl (WP.aC rfl rfl (PV.u9 (n := 10) rfl rfl rfl (by omega)) (WP.aG rfl ?_))))
   refine WL.call rC rfl (nD (x := (sched la k)[k + 1]'(by rw [hS]; omega)) (n := 7) H.aR (by decide) (by decide)) ?_
   rintro _ w5 ⟨rfl, hO⟩
   replace H := H.out hO
   refine WL.nil ⟨(fa (rk hO) (fa (rk hO) c5)), ?_⟩
   refine WP.aG rfl ?_
   refine WL.call rC rfl (nD (x := (sched la k)[k + 1]'(by rw [hS]; omega)) (n := 18) H.aR (by decide) (by decide)) ?_
   rintro _ w6 ⟨rfl, hO⟩
   replace H := H.out hO
   refine WL.nil ⟨(fa (rk hO) (fa (rk hO) c5)), ?_⟩
   refine WP.aC rfl rfl (PV.jW rfl rfl rfl) (WP.aC rfl rfl (PV.jW rfl rfl rfl) (WP.aC rfl rfl (PV.hZ rfl rfl rfl) (WP.aC rfl rfl (PV.hZ rfl rfl rfl) (WP.aG rfl ?_))))
   refine WL.call rC rfl (nD (x := (sched la k)[k + 14]'(by rw [hS]; omega)) (n := 17) H.aR (by decide) (by decide)) ?_
   rintro _ w7 ⟨rfl, hO⟩
   replace H := H.out hO
   refine WL.nil ⟨(fa (rk hO) (fa (rk hO) c5)), ?_⟩
   refine WP.aG rfl ?_
   refine WL.call rC rfl (nD (x := (sched la k)[k + 14]'(by rw [hS]; omega)) (n := 19) H.aR (by decide) (by decide)) ?_
   rintro _ w8 ⟨rfl, hO⟩
   replace H := H.out hO
   refine WL.nil ⟨(fa (rk hO) (fa (rk hO) c5)), ?_⟩
   refine WP.aC rfl rfl (PV.jW rfl rfl rfl) (WP.aC rfl rfl (PV.jW rfl rfl rfl) (WP.aC rfl rfl (PV.hZ rfl rfl rfl) (WP.aG rfl ?_)))
   refine WL.bB (l0 := [.int .u32 (0)]) H rfl EB (by decide) (cT _ _) (Fl.cons rfl rfl (by simp only [aS]) Laid.head Fl.nil) rfl ?_
   intro b92 w9 H
   refine WL.nil ⟨(fa (nw 30 19) (fa (nw 30 5) c5)), ?_⟩
   refine WP.aG rfl ?_
   refine WL.append H 1 EB (by decide) rfl rfl rfl (cN.bZ (n := 1) (H.l 0 rfl) rfl) (bA _ rfl) (by omega) (by decide) rfl ?_
   intro v93 tM H
   refine WL.nil ⟨(fa (nw 31 19) (fa (nw 31 5) c5)), ?_⟩
   refine WP.as rfl rfl rfl (WP.done (WE.dY (WL.mv rfl rfl (WL.pv (PV.bT rfl rfl rfl (by omega) (by omega)) rfl (WL.as rfl rfl (WL.nil ?_))))))
   replace H := H.forget 0
   have e := HQ la k (by omega) (by omega) (by omega) (by omega)
   exact ⟨(k + 1, v93), (by repeat (first | with_reducible exact bM.refl _ _ | refine bM.dD rfl ?_ | refine bM.bY rfl ?_ | refine bM.bV rfl ?_)), ⟨rfl, rfl, trivial⟩, rfl, ⟨by dsimp only; omega, H.conv (by rw [e, X2]; rfl)⟩, (by dsimp only; omega)⟩
  ·
   try simp only [bW] at I6
   obtain rfl : k = 48 := by omega
   refine WE.exit (WE.aA (WL.mv rfl rfl (WL.as rfl rfl (WL.nil (WE.ret ⟨[_], _, .nil _, ⟨rfl, trivial⟩, ?_⟩)))))
   replace H := H.freeze (i := 0) rfl
   exact ⟨H.aL, H.gF ((H.bK 0 rfl).imp fun _ h => cN.slw (cN.dJ h))⟩
theorem aIs {n : Nat} (h : n ≤ 1152921504606846976) : 64 * oH (n : Int) = ((n + 9 + zc n : Nat) : Int) := by
 unfold oH zc
 rw [if_neg (by omega)]
 omega
def xO (l : List UInt8) (i : Nat) : List UInt8 := (l ++ 128 :: List.replicate (zc l.length + (8 - i)) 0) ++ (PM (8 * l.length)).drop (8 - i)
theorem NC (l : List UInt8) : xO l 0 = l ++ 128 :: List.replicate (zc l.length + 8) 0 := by
 unfold xO
 rw [List.drop_eq_nil_of_le (by rw [kX]; omega), List.append_nil]
theorem ID (l : List UInt8) : xO l 8 = cQ l := by simp [xO, cQ]
theorem ES (l : List UInt8) (i : Nat) (hi : i ≤ 8) : (xO l i).length = l.length + 9 + zc l.length := by
 simp [xO, kX]; omega
theorem RH (l : List UInt8) (i : Nat) (hi : i < 8) : (xO l i).set (l.length + 8 + zc l.length - i) (UInt8.ofNat (8 * l.length / 2 ^ (8 * i))) = xO l (i + 1) := by
 have hb := kX (8 * l.length)
 have h7 : 7 - i < (PM (8 * l.length)).length := by omega
 have hd : (PM (8 * l.length)).drop (8 - (i + 1)) = UInt8.ofNat (8 * l.length / 2 ^ (8 * i)) :: (PM (8 * l.length)).drop (8 - i) := by
  rw [show 8 - (i + 1) = 7 - i by omega, List.drop_eq_getElem_cons h7, L8, show 7 - i + 1 = 8 - i by omega, show 56 - 8 * (7 - i) = 8 * i by omega]
 unfold xO
 rw [hd]
 have hr : l ++ 128 :: List.replicate (zc l.length + (8 - i)) 0 = (l ++ 128 :: List.replicate (zc l.length + (8 - (i + 1))) 0) ++ [0] := by
  rw [show zc l.length + (8 - i) = (zc l.length + (8 - (i + 1))) + 1 by omega, List.replicate_succ', ← List.cons_append, ← List.append_assoc]
 have hlen : (l ++ 128 :: List.replicate (zc l.length + (8 - (i + 1))) (0 : UInt8)).length = l.length + 8 + zc l.length - i := by simp; omega
 rw [hr, List.append_assoc, ← hlen, List.set_append_right _ _ (Nat.le_refl _), Nat.sub_self]
 rfl
theorem JG (l : List UInt8) (m : Nat) : Laid (kc (List.replicate (l.length + m) 0)) 0 ((kc l).take (min l.length (l.length + m))) (kc (l ++ List.replicate m 0)) := by
 have e : (kc l).take (min l.length (l.length + m)) = kc l := by rw [show min l.length (l.length + m) = l.length by omega]; exact List.take_of_length_le (by rw [aI]; omega)
 rw [e, ← List.replicate_append_replicate]
 have : Laid (kc (List.replicate l.length 0)) 0 (kc l) (kc l) := Laid.all (by simp [aI])
 have h2 := Laid.left (b := kc (List.replicate m 0)) this
 rwa [← iO, ← iO] at h2
theorem M3 (l : List UInt8) (m : Nat) : (l ++ List.replicate (m + 1) (0 : UInt8)).set l.length 128 = l ++ 128 :: List.replicate m 0 := by
 rw [List.set_append_right _ _ (Nat.le_refl _), Nat.sub_self]; rfl
theorem aDk {X : Nat → Prop} {w : World} {a : Value} {la : List UInt8} (hX : cY X w) (bU : aJ X (bJ a la) w) (rR : la.length ≤ 1000000000) :
  bC prog 162 [a].toArray w fun v w' => Out Nil w w' ∧ ∃ b, v = .slice (some ⟨b, 0, none⟩) (cQ la).length (cQ la).length ∧ w.heap.size ≤ b ∧ aN w' b 5 (kc (cQ la)) := by
 refine bC.aH (N := 39) func162 rfl rfl (by simp) ?_
 have H := (St.begin hX).add (cE bU)
 have aCh : zc la.length < 64 := by unfold zc; omega
 have hT := aIs (n := la.length) (by omega)
 refine WE.aA (WL.as rfl rfl (WL.nil (WE.aA (WL.mv rfl rfl (WL.pv (PV.dR (H.p 0 rfl) eM rfl) rfl ?_)))))
 refine WL.call aGn rfl (V1 (n := (la.length : Int)) H.aR (by omega)) ?_
 rintro _ w1 ⟨rfl, hO⟩
 replace H := H.out hO
 refine WL.pv (PV.eq (v' := .int .i64 (((la.length + 9 + zc la.length) : Nat) : Int)) (PV.mA rfl rfl rfl (by omega) (by omega)) (by congr 1)) rfl ?_
 refine WL.makeSlice (n := (la.length + 9 + zc la.length)) H rfl iD rfl (by omega) (by omega) rfl ?_
 intro u0 w3 H
 replace H := H.conv (L' := [aP.blk u0 5 (kc (List.replicate (la.length + (8 + zc la.length + 1)) 0))]) (by rw [cT, show la.length + (8 + zc la.length + 1) = (la.length + 9 + zc la.length) by omega]; simp [kc])
 refine WL.as rfl rfl (WL.nil (WE.aA (WL.mv rfl rfl (WL.mv rfl rfl ?_))))
 refine WL.copy H 0 eM gO rfl rfl rfl (H.p 0 rfl) (bG _) (by have := JG la (8 + zc la.length + 1); rw [show la.length + (8 + zc la.length + 1) = (la.length + 9 + zc la.length) by omega] at this ⊢; exact this) rfl ?_
 intro w5 H
 refine WL.nil (WE.aA (WL.mv rfl rfl (WL.mv rfl rfl (WL.pv (PV.dR (H.p 0 rfl) eM rfl) rfl (WL.pv (PV.sY rfl eM gO rfl rfl (by omega) (by omega)) rfl ?_)))))
 refine WL.aW H 0 rfl rfl rfl (new := _) rfl (by exact gO) (bA _ rfl) (Laid.at (Laid.tI (x := 128) la.length (by simp)) (by simp)) rfl ?_
 intro w6 H
 replace H := H.conv (L' := [aP.blk u0 5 (kc (xO la 0))]) (by rw [NC, M3, Nat.add_comm 8]; rfl)
 refine WL.nil (WE.aA (WL.mv rfl rfl (WL.pv (PV.dR (H.p 0 rfl) eM rfl) rfl (WL.pv (PV.BJ (n := la.length) rfl sZ LB rfl rfl (by omega)) rfl (WL.pv (PV.IJ (m := la.length) (n := 8) (q := 8 * la.length) rfl rfl rfl (by omega) (by omega)) rfl (WL.as rfl rfl (WL.nil ?_)))))))
 refine WE.seq (WE.aA (WL.mv rfl rfl (WL.nil (WE.block ?_))))
 refine WE.loop (α := Nat) (rg [(5, 1), (22, 16)]) (fun i => [(22, .int .i64 i)]) (fun i wl => i ≤ 8 ∧ St X w wl [] [aP.blk u0 5 (kc (xO la i))] [bJ a la]) (fun i => 8 - i) 0 ⟨rfl, trivial⟩ ⟨Nat.zero_le _, H⟩ ?_
 intro i γ0 w7 hI
 try dsimp only at hI
 obtain ⟨hi, H⟩ := hI
 refine WE.aA (WL.pv (PV.lss rfl rfl rfl) rfl (WL.nil (WE.seq ?_)))
 refine WE.cond rfl (fun kV => ?_) (fun kV => ?_)
 ·
  try simp only [bW] at kV
  have hi8 : i < 8 := by omega
  refine WE.skip (WE.seq (WE.block (WE.aA (WL.mv rfl rfl (WL.as rfl rfl (WL.nil (WE.dY ?_)))))))
  refine WL.mv rfl rfl (WL.mv rfl rfl (WL.pv (PV.A0 eM rfl) rfl ?_))
  refine WL.pv (PV.eq (v' := .int .i64 ((la.length + 8 + zc la.length : Nat) : Int)) (PV.gC rfl rfl rfl (by omega) (by omega)) (by congr 1; omega)) rfl ?_
  refine WL.mv rfl rfl ?_
  refine WL.pv (PV.eq (v' := .int .i64 ((la.length + 8 + zc la.length - i : Nat) : Int)) (PV.gC rfl rfl rfl (by omega) (by omega)) (by congr 1; omega)) rfl ?_
  refine WL.mv rfl rfl (WL.mv rfl rfl ?_)
  refine WL.pv (PV.eq (v' := .int .i64 ((8 * i : Nat) : Int)) (PV.mA rfl rfl rfl (by omega) (by omega)) (by congr 1)) rfl ?_
  refine WL.pv (PV.B3 (m := 8 * la.length) (n := 8 * i) rfl rfl rfl (show _ < 64 by omega)) rfl (WL.pv (PV.JJ (n := 8 * la.length / 2 ^ (8 * i)) rfl LB mC rfl) rfl (WL.pv (PV.sY rfl eM gO rfl rfl (by omega) (by omega)) rfl ?_))
  refine WL.aW H 0 rfl rfl rfl (new := _) rfl (by exact gO) (bA _ rfl) (Laid.at (Laid.tI (la.length + 8 + zc la.length - i) (by rw [ES _ _ (by omega)]; omega)) (by simp)) rfl ?_
  intro w8 H
  refine WL.nil (WE.dY (WL.pv (PV.bT rfl rfl rfl (by omega) (by omega)) rfl (WL.mv rfl rfl (WL.nil ?_))))
  have e := RH la i hi8
  exact ⟨i + 1, (by repeat (first | with_reducible exact bM.refl _ _ | refine bM.dD rfl ?_ | refine bM.bY rfl ?_ | refine bM.bV rfl ?_)), ⟨rfl, trivial⟩, rfl, ⟨by omega, H.conv (by rw [← e]; rfl)⟩, (by omega)⟩
 ·
  try simp only [bW] at kV
  obtain rfl : i = 8 := by omega
  refine WE.exit (WE.aA (WL.mv rfl rfl (WL.as rfl rfl (WL.nil (WE.ret ⟨[_], _, .nil _, ⟨rfl, trivial⟩, ?_⟩)))))
  rw [ID] at H
  exact ⟨H.aL, u0, by rw [lW]; rfl, H.kF _ (List.mem_of_getElem? (i := 0) rfl) _ rfl, H.l 0 rfl⟩
theorem aHS {X : Nat → Prop} {w : World} {a : Value} {la : List UInt8} (hX : cY X w) (bU : aJ X (bJ a la) w) (rR : la.length ≤ 1000000000) :
  bC prog 162 [a].toArray w fun v w' => Out Nil w w' ∧ aJ X (bJ v (cQ la)) w' :=
 (aDk hX bU rR).mono fun v w' ⟨hO, b, hv, hb, h⟩ => ⟨hO, by subst hv; exact (XB hX hb h).imp fun _ h => bJ.bZ h rfl⟩
def h0L : List UInt32 := [1779033703, 3144134277, 1013904242, 2773480762, 1359893119, 2600822924, 528734635, 1541459225]
def t1f (s : List UInt32) (k w : UInt32) : UInt32 := (((s.getD 7 0 + ((lI (s.getD 4 0) 6 ^^^ lI (s.getD 4 0) 11) ^^^ lI (s.getD 4 0) 25)) + ((s.getD 4 0 &&& s.getD 5 0) ^^^ (~~~(s.getD 4 0) &&& s.getD 6 0))) + k) + w
def t2f (s : List UInt32) : UInt32 := ((lI (s.getD 0 0) 2 ^^^ lI (s.getD 0 0) 13) ^^^ lI (s.getD 0 0) 22) + (((s.getD 0 0 &&& s.getD 1 0) ^^^ (s.getD 0 0 &&& s.getD 2 0)) ^^^ (s.getD 1 0 &&& s.getD 2 0))
def stp (s : List UInt32) (k w : UInt32) : List UInt32 := [t1f s k w + t2f s, s.getD 0 0, s.getD 1 0, s.getD 2 0, s.getD 3 0 + t1f s k w, s.getD 4 0, s.getD 5 0, s.getD 6 0]
def iJ (W s : List UInt32) : Nat → List UInt32
 | 0 => s
 | i + 1 => stp (iJ W s i) (fL.getD i 0) (W.getD i 0)
def lV (s t : List UInt32) (i : Nat) : List UInt32 := (List.range 8).map fun j => if j < i then s.getD j 0 + t.getD j 0 else s.getD j 0
def comp (s : List UInt32) (b : List UInt8) : List UInt32 := lV s (iJ (sched b 48) s 64) 8
def fZ (p : List UInt8) : Nat → List UInt32
 | 0 => h0L
 | n + 1 => comp (fZ p n) ((p.drop (64 * n)).take 64)
def nX (s : List UInt32) : List UInt8 := (List.range 32).map fun i => (s.getD (i / 4) 0 >>> UInt32.ofNat (24 - 8 * (i % 4))).toUInt8
def cX (l : List UInt8) : List UInt8 := nX (fZ (cQ l) ((cQ l).length / 64))
theorem lB (W s : List UInt32) (h : s.length = 8) (i : Nat) : (iJ W s i).length = 8 := by
 cases i with
 | zero => exact h
 | succ i => rfl
theorem fJ (s t : List UInt32) (i : Nat) : (lV s t i).length = 8 := by simp [lV]
theorem oW (p : List UInt8) (n : Nat) : (fZ p n).length = 8 := by
 cases n with
 | zero => rfl
 | succ n => exact fJ _ _ _
theorem c6 (l : List UInt8) : (cX l).length = 32 := by simp [cX, nX]
theorem ER (l : List UInt8) : (cQ l).length % 64 = 0 := by rw [lW]; unfold zc; omega
theorem yX (s t : List UInt32) (h : s.length = 8) : lV s t 0 = s := by
 apply List.ext_getElem
 ·
  rw [fJ, h]
 ·
  intro i h1 h2
  simp [lV, h2]
theorem OW (s t : List UInt32) (i : Nat) (h : s.length = 8) (hi : i < (lV s t i).length) (hs : i < s.length) : (lV s t i)[i] = s[i] := by
 simp [lV, hs]
theorem BV (s t : List UInt32) (i : Nat) (h : s.length = 8) (ht : t.length = 8) (hi : i < 8) : (lV s t i).set i ((lV s t i)[i]'(by rw [fJ]; exact hi) + t[i]'(by omega)) = lV s t (i + 1) := by
 rw [OW s t i h (by rw [fJ]; exact hi) (by omega)]
 apply List.ext_getElem
 ·
  simp [lV]
 ·
  intro j h1 h2
  rw [fJ] at h2
  rw [List.getElem_set]
  by_cases hij : i = j
  ·
   subst hij
   simp [lV, h, ht, hi]
  ·
   simp only [hij, if_false]
   simp only [lV, List.getElem_map, List.getElem_range]
   by_cases h3 : j < i
   ·
    rw [if_pos h3, if_pos (by omega)]
   ·
    rw [if_neg h3, if_neg (by omega)]
theorem AQ (s : List UInt32) (i : Nat) (hi : i < (nX s).length) (hs : i / 4 < s.length) : (nX s)[i] = (s[i / 4] >>> UInt32.ofNat (24 - 8 * (i % 4))).toUInt8 := by
 simp [nX, hs]
theorem jF (s : List UInt32) : (nX s).length = 32 := by simp [nX]
theorem aBO (s : List UInt32) (h : s.length = 8) (k w : UInt32) : stp s k w = (
  let t1 := (((s[7] + ((lI s[4] 6 ^^^ lI s[4] 11) ^^^ lI s[4] 25)) + ((s[4] &&& s[5]) ^^^ (~~~s[4] &&& s[6]))) + k) + w
  let t2 := ((lI s[0] 2 ^^^ lI s[0] 13) ^^^ lI s[0] 22) + (((s[0] &&& s[1]) ^^^ (s[0] &&& s[2])) ^^^ (s[1] &&& s[2]))
  [t1 + t2, s[0], s[1], s[2], s[3] + t1, s[4], s[5], s[6]]) := by
 match s, h with
 | [a, b, c, d, e, f, g, i], _ => rfl
theorem M5 (W s : List UInt32) (h : s.length = 8) (i : Nat) (hi : i < 64) (hW : i < W.length) : iJ W s (i + 1) = stp (iJ W s i) (fL[i]'hi) W[i] := by
 show stp _ _ _ = _
 rw [e9 (show i < fL.length from hi), e9 hW]
 rfl
theorem Q1 {X : Nat → Prop} {w : World} {a : Value} {la : List UInt8} (hX : cY X w) (bU : aJ X (bJ a la) w) (rR : la.length ≤ 1000000000) :
  bC prog 104 [a].toArray w fun v w' => v = .agg (kc (cX la)).toArray ∧ Out Nil w w' := by
 refine bC.aH (N := 152) func104 rfl rfl (by simp) ?_
 have H := (St.begin hX).add (cE bU)
 have aIR := ER la
 have vS := lW la
 have aCh : zc la.length < 64 := by unfold zc; omega
 have hK : fL.length = 64 := rfl
 refine WE.aA ?_
 refine WL.alloc H rfl k6 rfl ?_
 intro b2 w1 H
 refine WL.nil (WE.aA ?_)
 refine WL.pv (PV.lP rfl gA c7 DX (Fl.cons rfl rfl rfl (Laid.fE (x := 1779033703) 0 (by simp)) (Fl.cons rfl rfl rfl (Laid.fE (x := 3144134277) 1 (by simp)) (Fl.cons rfl rfl rfl (Laid.fE (x := 1013904242) 2 (by simp)) (Fl.cons rfl rfl rfl (Laid.fE (x := 2773480762) 3 (by simp)) (Fl.cons rfl rfl rfl (Laid.fE (x := 1359893119) 4 (by simp)) (Fl.cons rfl rfl rfl (Laid.fE (x := 2600822924) 5 (by simp)) (Fl.cons rfl rfl rfl (Laid.fE (x := 528734635) 6 (by simp)) (Fl.cons rfl rfl rfl (Laid.fE (x := 1541459225) 7 (by simp)) Fl.nil))))))))) rfl ?_
 refine WL.alloc H rfl DX rfl ?_
 intro b3 w2 H
 refine WL.aW H 0 rfl rfl rfl (new := _) rfl (by exact KN) (uK _) (Laid.at (Laid.all (by simp [aI, aQ, *])) rfl) rfl ?_
 intro w3 H
 replace H := H.conv (L' := [aP.blk b3 261 (kw (fZ (cQ la) 0)), aP.blk b2 30 (kc (List.replicate 32 0))]) rfl
 refine WL.nil (WE.aA ?_)
 refine WL.call aGG rfl (RA  H.aR  ) ?_
 rintro v16 w4 ⟨hO, hR⟩
 replace H := (H.out hO).add hR
 refine WL.as rfl rfl (WL.nil (WE.aA (WL.mv rfl rfl ?_)))
 refine WL.call aGF rfl (Q2 (la := la) H.aR (H.bK 1 rfl) rR) ?_
 rintro v18 w5 ⟨hO, hR⟩
 replace H := (H.out hO).add hR
 refine WL.as rfl rfl (WL.nil (WE.seq (WE.aA (WL.as rfl rfl (WL.nil (WE.block ?_))))))
 refine WE.loop (α := Nat) (rg [(6, 7), (19, 115)]) (fun n => [(6, .int .i64 ((64 * n : Nat) : Int))]) (fun n wl => 64 * n ≤ (cQ la).length ∧ St X w wl [] [aP.blk b3 261 (kw (fZ (cQ la) n)), aP.blk b2 30 (kc (List.replicate 32 0))] [bJ v18 (cQ la), U8 v16 fL, bJ a la]) (fun n => (cQ la).length - 64 * n) 0 ⟨rfl, trivial⟩ ⟨Nat.zero_le _, H⟩ ?_
 intro n γ0 w6 hI
 try dsimp only at hI
 obtain ⟨hn, H⟩ := hI
 have hS := oW (cQ la) n
 refine WE.seq (WE.aA (WL.mv rfl rfl (WL.mv rfl rfl (WL.pv (PV.dR (H.p 0 rfl) eM rfl) rfl (WL.pv (PV.lss rfl rfl rfl) rfl (WL.nil ?_))))))
 refine WE.cond rfl (fun JB => ?_) (fun JB => ?_)
 ·
  try simp only [bW] at JB
  have hlt : 64 * n + 64 ≤ (cQ la).length := by omega
  refine WE.skip (WE.seq (WE.block (WE.aA (WL.mv rfl rfl (WL.mv rfl rfl (WL.mv rfl rfl ?_))))))
  refine WL.pv (PV.eq (v' := .int .i64 ((64 * n + 64 : Nat) : Int)) (PV.bT rfl rfl rfl (by omega) (by omega)) rfl) rfl ?_
  refine WL.pv (PV.aAw rfl (H.p 0 rfl) eM gO rfl rfl rfl (by omega) (by omega)) rfl ?_
  refine WL.call aGE rfl (HP (la := (((cQ la).drop (64 * n)).take 64)) H.aR ((H.bK 0 rfl).imp fun _ h => by have := bJ.sub (lo := 64 * n) (hi := 64 * n + 64) h (by omega) (by omega); rw [show 64 * n + 64 - 64 * n = 64 by omega] at this; exact this) (by simp; omega)) ?_
  rintro v30 w7 ⟨hO, hR⟩
  replace H := (H.out hO).add hR
  refine WL.as rfl rfl (WL.nil (WE.aA ?_))
  refine WL.bE rfl aHI rfl rfl (aN.aF (H.l 0 rfl) (aK.all _) rfl) (cK KN (by simp only [aS]; omega)) ?_
  refine WL.alloc H rfl DX rfl ?_
  intro b8 w8 H
  refine WL.aW H 0 rfl rfl rfl (new := _) rfl (cK KN (by simp only [aS]; omega)) (uK _) (Laid.at (Laid.all (by simp only [aS]; omega)) rfl) rfl ?_
  intro w9 H
  refine WL.nil (WE.seq (WE.aA (WL.as rfl rfl (WL.nil (WE.block ?_)))))
  have hW : (sched (((cQ la).drop (64 * n)).take 64) 48).length = 64 := cO _ _
  refine WE.loop (α := Nat) (rg [(9, 3), (32, 90)]) (fun i => [(9, .int .i64 i)]) (fun i wl => i ≤ 64 ∧ St X w wl [] [aP.blk b8 261 (kw (iJ (sched (((cQ la).drop (64 * n)).take 64) 48) (fZ (cQ la) n) i)), aP.blk b3 261 (kw (fZ (cQ la) n)), aP.blk b2 30 (kc (List.replicate 32 0))] (U8 v30 (sched (((cQ la).drop (64 * n)).take 64) 48) :: [bJ v18 (cQ la), U8 v16 fL, bJ a la])) (fun i => 64 - i) 0 ⟨rfl, trivial⟩ ⟨Nat.zero_le _, H⟩ ?_
  intro i γ1 tM hI
  try dsimp only at hI
  obtain ⟨hi, H⟩ := hI
  have hR := lB (sched (((cQ la).drop (64 * n)).take 64) 48) (fZ (cQ la) n) hS i
  refine WE.seq (WE.aA (WL.mv rfl rfl (WL.pv (PV.lss rfl rfl rfl) rfl (WL.nil ?_))))
  refine WE.cond rfl (fun I9 => ?_) (fun I9 => ?_)
  ·
   try simp only [bW] at I9
   have x7 : i < 64 := by omega
   refine WE.skip (WE.seq (WE.block ?_))
   refine WE.bH (.take 0 (.take 1 (.take 2 (.take 3 (.take 5 (.take 6 (.take 9 (.take 10 (.take 14 (.take 15 (.take 16 (.take 17 (.take 18 (.take 19 (.take 20 (.take 21 (.take 22 (.take 23 (.take 24 (.take 25 (.take 27 (.take 28 (.take 29 (.take 30 (.take 32 (.take 33 (.take 34 (.take 35 (.aG 4 (.aG 7 (.take 8 (.aG 11 (.take 12 (.take 13 (.take 26 (.take 31 (.take 36 (.take 37 .done)))))))))))))))))))))))))))))))))))))) mixed (by kernel_rfl) ?_
   replace H := H.out (Out.drew _)
   refine WP.aC rfl rfl (PV.bF rfl gA c7 rfl rfl (by omega) (by omega)) ?_
   refine WP.aM rfl rfl (RV.aV rfl dS rfl) (aN.aF (H.l 0 rfl) (aK.word 7 (by simp [aI, aQ, *])) rfl) ?_
   refine WP.aC rfl rfl (PV.bF rfl gA c7 rfl rfl (by omega) (by omega)) ?_
   refine WP.aM rfl rfl (RV.aV rfl dS rfl) (aN.aF (H.l 0 rfl) (aK.word 4 (by simp [aI, aQ, *])) rfl) ?_
   refine WP.aC rfl rfl (PV.bF rfl gA c7 rfl rfl (by omega) (by omega)) ?_
   refine WP.aM rfl rfl (RV.aV rfl dS rfl) (aN.aF (H.l 0 rfl) (aK.word 4 (by simp [aI, aQ, *])) rfl) ?_
   refine WP.aC rfl rfl (PV.bF rfl gA c7 rfl rfl (by omega) (by omega)) ?_
   refine WP.aM rfl rfl (RV.aV rfl dS rfl) (aN.aF (H.l 0 rfl) (aK.word 4 (by simp [aI, aQ, *])) rfl) ?_
   refine WP.aC rfl rfl (PV.bF rfl gA c7 rfl rfl (by omega) (by omega)) ?_
   refine WP.aM rfl rfl (RV.aV rfl dS rfl) (aN.aF (H.l 0 rfl) (aK.word 4 (by simp [aI, aQ, *])) rfl) ?_
   refine WP.aC rfl rfl (PV.bF rfl gA c7 rfl rfl (by omega) (by omega)) ?_
   refine WP.aM rfl rfl (RV.aV rfl dS rfl) (aN.aF (H.l 0 rfl) (aK.word 5 (by simp [aI, aQ, *])) rfl) ?_
   refine WP.aC rfl rfl (PV.rG rfl rfl rfl) (WP.aC rfl rfl (PV.bF rfl gA c7 rfl rfl (by omega) (by omega)) ?_)
   refine WP.aM rfl rfl (RV.aV rfl dS rfl) (aN.aF (H.l 0 rfl) (aK.word 4 (by simp [aI, aQ, *])) rfl) ?_
   refine WP.aC rfl rfl (PV.aEA rfl rfl) (WP.aC rfl rfl (PV.bF rfl gA c7 rfl rfl (by omega) (by omega)) ?_)
   refine WP.aM rfl rfl (RV.aV rfl dS rfl) (aN.aF (H.l 0 rfl) (aK.word 6 (by simp [aI, aQ, *])) rfl) ?_
   refine WP.aC rfl rfl (PV.rG rfl rfl rfl) (WP.aC rfl rfl (PV.jW rfl rfl rfl) (WP.mv rfl rfl rfl (WP.mv rfl rfl rfl (WP.aC rfl rfl (PV.eA rfl (H.p 2 rfl) wY c7 rfl rfl (by omega) (by omega)) (WP.aM rfl rfl (RV.aV rfl dS rfl) (cN.rdw (H.p 2 rfl : U8 v16 fL _) i (by omega)) (WP.mv rfl rfl rfl (WP.mv rfl rfl rfl ?_)))))))
   refine WP.aC rfl rfl (PV.eA rfl (H.p 0 rfl) wY c7 rfl rfl (by omega) (by omega)) ?_
   refine WP.aM rfl rfl (RV.aV rfl dS rfl) (cN.rdw (H.p 0 rfl : U8 v30 (sched (((cQ la).drop (64 * n)).take 64) 48) _) i (by omega)) ?_
   refine WP.aG rfl ?_
   refine WL.call rC rfl (nD (x := (iJ (sched (((cQ la).drop (64 * n)).take 64) 48) (fZ (cQ la) n) i)[4]'(by rw [hR]; omega)) (n := 6) H.aR (by decide) (by decide)) ?_
   rintro _ wT ⟨rfl, hO⟩
   replace H := H.out hO
   refine WL.nil ⟨(fa (rk hO) (fa (rk hO) (fa (rk hO) (fa (rk hO) (fa (rk hO) (fa (rk hO) (fa (rk hO) (fa (rk hO) (fa (nw 4 3) (fa (rk hO) c5)))))))))), ?_⟩
   refine WP.aG rfl ?_
   refine WL.call rC rfl (nD (x := (iJ (sched (((cQ la).drop (64 * n)).take 64) 48) (fZ (cQ la) n) i)[4]'(by rw [hR]; omega)) (n := 11) H.aR (by decide) (by decide)) ?_
   rintro _ G2 ⟨rfl, hO⟩
   replace H := H.out hO
   refine WL.nil ⟨(fa (rk hO) (fa (rk hO) (fa (rk hO) (fa (rk hO) (fa (rk hO) (fa (rk hO) (fa (rk hO) (fa (nw 7 6) (fa (nw 7 3) (fa (rk hO) c5)))))))))), ?_⟩
   refine WP.aC rfl rfl (PV.jW rfl rfl rfl) (WP.aG rfl ?_)
   refine WL.call rC rfl (nD (x := (iJ (sched (((cQ la).drop (64 * n)).take 64) 48) (fZ (cQ la) n) i)[4]'(by rw [hR]; omega)) (n := 25) H.aR (by decide) (by decide)) ?_
   rintro _ D4 ⟨rfl, hO⟩
   replace H := H.out hO
   refine WL.nil ⟨(fa (rk hO) (fa (rk hO) (fa (rk hO) (fa (rk hO) (fa (rk hO) (fa (rk hO) (fa (nw 11 10) (fa (nw 11 6) (fa (nw 11 3) (fa (rk hO) c5)))))))))), ?_⟩
   refine WP.aC rfl rfl (PV.jW rfl rfl rfl) (WP.aC rfl rfl (PV.hZ rfl rfl rfl) (WP.aC rfl rfl (PV.hZ rfl rfl rfl) (WP.aC rfl rfl (PV.hZ rfl rfl rfl) (WP.aC rfl rfl (PV.hZ rfl rfl rfl) (WP.as rfl rfl rfl (WP.done ?_))))))
   refine WE.bH (.take 0 (.take 1 (.take 3 (.take 4 (.take 7 (.take 8 (.take 11 (.take 12 (.take 13 (.take 14 (.take 15 (.take 16 (.take 17 (.take 18 (.take 19 (.take 20 (.take 21 (.take 22 (.take 23 (.take 24 (.take 25 (.take 26 (.take 27 (.aG 2 (.aG 5 (.take 6 (.aG 9 (.take 10 (.take 28 (.take 29 .done)))))))))))))))))))))))))))))) mixed (by kernel_rfl) ?_
   replace H := H.out (Out.drew _)
   refine WP.aC rfl rfl (PV.bF rfl gA c7 rfl rfl (by omega) (by omega)) ?_
   refine WP.aM rfl rfl (RV.aV rfl dS rfl) (aN.aF (H.l 0 rfl) (aK.word 0 (by simp [aI, aQ, *])) rfl) ?_
   refine WP.aC rfl rfl (PV.bF rfl gA c7 rfl rfl (by omega) (by omega)) ?_
   refine WP.aM rfl rfl (RV.aV rfl dS rfl) (aN.aF (H.l 0 rfl) (aK.word 0 (by simp [aI, aQ, *])) rfl) ?_
   refine WP.aC rfl rfl (PV.bF rfl gA c7 rfl rfl (by omega) (by omega)) ?_
   refine WP.aM rfl rfl (RV.aV rfl dS rfl) (aN.aF (H.l 0 rfl) (aK.word 0 (by simp [aI, aQ, *])) rfl) ?_
   refine WP.aC rfl rfl (PV.bF rfl gA c7 rfl rfl (by omega) (by omega)) ?_
   refine WP.aM rfl rfl (RV.aV rfl dS rfl) (aN.aF (H.l 0 rfl) (aK.word 0 (by simp [aI, aQ, *])) rfl) ?_
   refine WP.aC rfl rfl (PV.bF rfl gA c7 rfl rfl (by omega) (by omega)) ?_
   refine WP.aM rfl rfl (RV.aV rfl dS rfl) (aN.aF (H.l 0 rfl) (aK.word 1 (by simp [aI, aQ, *])) rfl) ?_
   refine WP.aC rfl rfl (PV.rG rfl rfl rfl) (WP.aC rfl rfl (PV.bF rfl gA c7 rfl rfl (by omega) (by omega)) ?_)
   refine WP.aM rfl rfl (RV.aV rfl dS rfl) (aN.aF (H.l 0 rfl) (aK.word 0 (by simp [aI, aQ, *])) rfl) ?_
   refine WP.aC rfl rfl (PV.bF rfl gA c7 rfl rfl (by omega) (by omega)) ?_
   refine WP.aM rfl rfl (RV.aV rfl dS rfl) (aN.aF (H.l 0 rfl) (aK.word 2 (by simp [aI, aQ, *])) rfl) ?_
   refine WP.aC rfl rfl (PV.rG rfl rfl rfl) (WP.aC rfl rfl (PV.jW rfl rfl rfl) (WP.aC rfl rfl (PV.bF rfl gA c7 rfl rfl (by omega) (by omega)) ?_))
   refine WP.aM rfl rfl (RV.aV rfl dS rfl) (aN.aF (H.l 0 rfl) (aK.word 1 (by simp [aI, aQ, *])) rfl) ?_
   refine WP.aC rfl rfl (PV.bF rfl gA c7 rfl rfl (by omega) (by omega)) ?_
   refine WP.aM rfl rfl (RV.aV rfl dS rfl) (aN.aF (H.l 0 rfl) (aK.word 2 (by simp [aI, aQ, *])) rfl) ?_
   refine WP.aC rfl rfl (PV.rG rfl rfl rfl) (WP.aC rfl rfl (PV.jW rfl rfl rfl) (WP.aG rfl ?_))
   refine WL.call rC rfl (nD (x := (iJ (sched (((cQ la).drop (64 * n)).take 64) 48) (fZ (cQ la) n) i)[0]'(by rw [hR]; omega)) (n := 2) H.aR (by decide) (by decide)) ?_
   rintro _ KG ⟨rfl, hO⟩
   replace H := H.out hO
   refine WL.nil ⟨(fa (rk hO) (fa (rk hO) (fa (rk hO) (fa (rk hO) (fa (rk hO) (fa (rk hO) (fa (rk hO) (fa (rk hO) (fa (nw 2 1) c5))))))))), ?_⟩
   refine WP.aG rfl ?_
   refine WL.call rC rfl (nD (x := (iJ (sched (((cQ la).drop (64 * n)).take 64) 48) (fZ (cQ la) n) i)[0]'(by rw [hR]; omega)) (n := 13) H.aR (by decide) (by decide)) ?_
   rintro _ PD ⟨rfl, hO⟩
   replace H := H.out hO
   refine WL.nil ⟨(fa (rk hO) (fa (rk hO) (fa (rk hO) (fa (rk hO) (fa (rk hO) (fa (rk hO) (fa (rk hO) (fa (nw 5 4) (fa (nw 5 1) c5))))))))), ?_⟩
   refine WP.aC rfl rfl (PV.jW rfl rfl rfl) (WP.aG rfl ?_)
   refine WL.call rC rfl (nD (x := (iJ (sched (((cQ la).drop (64 * n)).take 64) 48) (fZ (cQ la) n) i)[0]'(by rw [hR]; omega)) (n := 22) H.aR (by decide) (by decide)) ?_
   rintro _ P7 ⟨rfl, hO⟩
   replace H := H.out hO
   refine WL.nil ⟨(fa (rk hO) (fa (rk hO) (fa (rk hO) (fa (rk hO) (fa (rk hO) (fa (rk hO) (fa (nw 9 8) (fa (nw 9 4) (fa (nw 9 1) c5))))))))), ?_⟩
   refine WP.aC rfl rfl (PV.jW rfl rfl rfl) (WP.aC rfl rfl (PV.hZ rfl rfl rfl) (WP.as rfl rfl rfl (WP.done (WE.dY (WL.mv rfl rfl (WL.mv rfl rfl (WL.pv (PV.hZ rfl rfl rfl) rfl ?_)))))))
   refine WL.pv (PV.bF rfl gA c7 rfl rfl (by omega) (by omega)) rfl ?_
   refine WL.aY rfl dS rfl rfl (aN.aF (H.l 0 rfl) (aK.word 0 (by simp [aI, aQ, *])) rfl) ?_
   refine WL.pv (PV.bF rfl gA c7 rfl rfl (by omega) (by omega)) rfl ?_
   refine WL.aY rfl dS rfl rfl (aN.aF (H.l 0 rfl) (aK.word 1 (by simp [aI, aQ, *])) rfl) ?_
   refine WL.pv (PV.bF rfl gA c7 rfl rfl (by omega) (by omega)) rfl ?_
   refine WL.aY rfl dS rfl rfl (aN.aF (H.l 0 rfl) (aK.word 2 (by simp [aI, aQ, *])) rfl) ?_
   refine WL.pv (PV.bF rfl gA c7 rfl rfl (by omega) (by omega)) rfl ?_
   refine WL.aY rfl dS rfl rfl (aN.aF (H.l 0 rfl) (aK.word 3 (by simp [aI, aQ, *])) rfl) ?_
   refine WL.mv rfl rfl (WL.pv (PV.hZ rfl rfl rfl) rfl (WL.pv (PV.bF rfl gA c7 rfl rfl (by omega) (by omega)) rfl ?_))
   refine WL.aY rfl dS rfl rfl (aN.aF (H.l 0 rfl) (aK.word 4 (by simp [aI, aQ, *])) rfl) ?_
   refine WL.pv (PV.bF rfl gA c7 rfl rfl (by omega) (by omega)) rfl ?_
   refine WL.aY rfl dS rfl rfl (aN.aF (H.l 0 rfl) (aK.word 5 (by simp [aI, aQ, *])) rfl) ?_
   refine WL.pv (PV.bF rfl gA c7 rfl rfl (by omega) (by omega)) rfl ?_
   refine WL.aY rfl dS rfl rfl (aN.aF (H.l 0 rfl) (aK.word 6 (by simp [aI, aQ, *])) rfl) ?_
   refine WL.pv (PV.lP rfl gA c7 DX (Fl.cons rfl rfl (by simp only [aS]) (Laid.fE 0 (by simp only [aS]; omega)) (Fl.cons rfl rfl (by simp only [aS]) (Laid.fE 1 (by simp [aI, aQ, *])) (Fl.cons rfl rfl (by simp only [aS]) (Laid.fE 2 (by simp [aI, aQ, *])) (Fl.cons rfl rfl (by simp only [aS]) (Laid.fE 3 (by simp [aI, aQ, *])) (Fl.cons rfl rfl (by simp only [aS]) (Laid.fE 4 (by simp [aI, aQ, *])) (Fl.cons rfl rfl (by simp only [aS]) (Laid.fE 5 (by simp [aI, aQ, *])) (Fl.cons rfl rfl (by simp only [aS]) (Laid.fE 6 (by simp [aI, aQ, *])) (Fl.cons rfl rfl (by simp only [aS]) (Laid.fE 7 (by simp [aI, aQ, *])) Fl.nil))))))))) rfl ?_
   refine WL.aW H 0 rfl rfl rfl (new := _) rfl (by exact KN) (uK _) (Laid.at (Laid.all (by (simp [aI, aQ]; omega))) rfl) rfl ?_
   intro P6 H
   refine WL.nil (WE.dY (WL.mv rfl rfl (WL.pv (PV.bT rfl rfl rfl (by omega) (by omega)) rfl (WL.as rfl rfl (WL.nil ?_)))))
   have e := M5 (sched (((cQ la).drop (64 * n)).take 64) 48) (fZ (cQ la) n) hS i x7 (by omega)
   rw [aBO _ hR] at e
   exact ⟨i + 1, (by repeat (first | with_reducible exact bM.refl _ _ | refine bM.dD rfl ?_ | refine bM.bY rfl ?_ | refine bM.bV rfl ?_)), ⟨rfl, trivial⟩, rfl, ⟨by omega, H.conv (by rw [e]; rfl)⟩, (by omega)⟩
  ·
   try simp only [bW] at I9
   obtain rfl : i = 64 := by omega
   refine WE.exit (WE.aA (WL.as rfl rfl (WL.nil (WE.block ?_))))
   refine WE.loop (α := Nat) (rg [(12, 1), (122, 12)]) (fun i => [(12, .int .i64 i)]) (fun i wl => i ≤ 8 ∧ St X w wl [] [aP.blk b8 261 (kw (iJ (sched (((cQ la).drop (64 * n)).take 64) 48) (fZ (cQ la) n) 64)), aP.blk b3 261 (kw (lV (fZ (cQ la) n) (iJ (sched (((cQ la).drop (64 * n)).take 64) 48) (fZ (cQ la) n) 64) i)), aP.blk b2 30 (kc (List.replicate 32 0))] (U8 v30 (sched (((cQ la).drop (64 * n)).take 64) 48) :: [bJ v18 (cQ la), U8 v16 fL, bJ a la])) (fun i => 8 - i) 0 ⟨rfl, trivial⟩ ⟨Nat.zero_le _, by rw [yX _ _ hS]; exact H⟩ ?_
   intro i γ2 P5 hI
   try dsimp only at hI
   obtain ⟨hi, H⟩ := hI
   have G8 := lB (sched (((cQ la).drop (64 * n)).take 64) 48) (fZ (cQ la) n) hS 64
   refine WE.seq (WE.aA (WL.mv rfl rfl (WL.pv (PV.lss rfl rfl rfl) rfl (WL.nil ?_))))
   refine WE.cond rfl (fun S5 => ?_) (fun S5 => ?_)
   ·
    try simp only [bW] at S5
    have hlt3 : i < 8 := by omega
    refine WE.skip (WE.seq (WE.block ?_))
    refine WE.draw (.take 0 (.take 1 (.take 2 (.take 3 (.take 4 (.take 5 (.take 6 (.take 7 (.aG 8 .done))))))))) mixed (by kernel_rfl) ?_
    replace H := H.out (Out.drew _)
    refine WP.mv rfl rfl rfl (WP.aC rfl rfl (PV.bF rfl gA c7 rfl rfl (by omega) (by omega)) ?_)
    refine WP.aM rfl rfl (RV.aV rfl dS rfl) (aN.aF (H.l 1 rfl) (aK.word i (by simp [fJ, *])) (by simp)) ?_
    refine WP.mv rfl rfl rfl (WP.aC rfl rfl (PV.bF rfl gA c7 rfl rfl (by omega) (by omega)) ?_)
    refine WP.aM rfl rfl (RV.aV rfl dS rfl) (aN.aF (H.l 0 rfl) (aK.word i (by simp [fJ, *])) (by simp)) ?_
    refine WP.aC rfl rfl (PV.hZ rfl rfl rfl) (WP.aC rfl rfl (PV.bF rfl gA c7 rfl rfl (by omega) (by omega)) (WP.aG rfl ?_))
    refine WL.aW H 1 rfl rfl rfl (new := _) rfl (by exact c7) (bA _ rfl) (Laid.at (Laid.fE i (by simp [fJ, *])) (by simp)) rfl ?_
    intro w19 H
    refine WL.nil ⟨(fa (nw 8 5) (fa (nw 8 2) c5)), ?_⟩
    refine WP.done (WE.dY (WL.mv rfl rfl (WL.pv (PV.bT rfl rfl rfl (by omega) (by omega)) rfl (WL.as rfl rfl (WL.nil ?_)))))
    have e := BV (fZ (cQ la) n) (iJ (sched (((cQ la).drop (64 * n)).take 64) 48) (fZ (cQ la) n) 64) i hS G8 hlt3
    exact ⟨i + 1, (by repeat (first | with_reducible exact bM.refl _ _ | refine bM.dD rfl ?_ | refine bM.bY rfl ?_ | refine bM.bV rfl ?_)), ⟨rfl, trivial⟩, rfl, ⟨by omega, H.conv (by rw [← e]; rfl)⟩, (by omega)⟩
   ·
    try simp only [bW] at S5
    obtain rfl : i = 8 := by omega
    refine WE.exit (WE.dY (WL.mv rfl rfl (WL.pv (PV.bT rfl rfl rfl (by omega) (by omega)) rfl (WL.as rfl rfl (WL.nil ?_)))))
    replace H := H.forget 0
    replace H := H.drop (fun p hp => List.mem_cons_of_mem _ hp)
    exact ⟨n + 1, (by repeat (first | with_reducible exact bM.refl _ _ | refine bM.dD rfl ?_ | refine bM.bY rfl ?_ | refine bM.bV rfl ?_)), ⟨rfl, trivial⟩, rfl, ⟨by omega, H⟩, (by omega)⟩
 ·
  try simp only [bW] at JB
  have hge : n = (cQ la).length / 64 := by omega
  refine WE.exit (WE.aA ?_)
  refine WL.alloc H rfl k6 rfl ?_
  intro b13 w20 H
  refine WL.nil (WE.seq (WE.aA (WL.as rfl rfl (WL.nil (WE.block ?_)))))
  refine WE.loop (α := Nat) (rg [(14, 1), (134, 17)]) (fun i => [(14, .int .i64 i)]) (fun i wl => i ≤ 32 ∧ St X w wl [] [aP.blk b13 30 (kc (qD 32 i (nX (fZ (cQ la) n)))), aP.blk b3 261 (kw (fZ (cQ la) n)), aP.blk b2 30 (kc (List.replicate 32 0))] [bJ v18 (cQ la), U8 v16 fL, bJ a la]) (fun i => 32 - i) 0 ⟨rfl, trivial⟩ ⟨Nat.zero_le _, by rw [yD]; exact H⟩ ?_
  intro i γ3 w21 hI
  try dsimp only at hI
  obtain ⟨hi, H⟩ := hI
  refine WE.seq (WE.aA (WL.mv rfl rfl (WL.pv (PV.lss rfl rfl rfl) rfl (WL.nil ?_))))
  refine WE.cond rfl (fun S4 => ?_) (fun S4 => ?_)
  ·
   try simp only [bW] at S4
   have I3 : i < 32 := by omega
   refine WE.skip (WE.seq (WE.block (WE.dY (WL.mv rfl rfl (WL.mv rfl rfl ?_)))))
   refine WL.pv (PV.eq (v' := .int .i64 ((i / 4 : Nat) : Int)) (PV.p6 rfl rfl rfl (by omega) (by omega) (by omega)) rfl) rfl ?_
   refine WL.pv (PV.bF rfl gA c7 rfl rfl (by omega) (by omega)) rfl ?_
   refine WL.aY rfl dS rfl rfl (aN.aF (H.l 1 rfl) (aK.word (i / 4) (by rw [hS]; omega)) (by omega)) ?_
   refine WL.mv rfl rfl (WL.pv (PV.eq (v' := .int .i64 ((i % 4 : Nat) : Int)) (PV.p5 rfl rfl rfl (by omega) (by omega)) rfl) rfl ?_)
   refine WL.pv (PV.eq (v' := .int .i64 ((8 * (i % 4) : Nat) : Int)) (PV.mA rfl rfl rfl (by omega) (by omega)) rfl) rfl ?_
   refine WL.pv (PV.eq (v' := .int .i64 ((24 - 8 * (i % 4) : Nat) : Int)) (PV.gC rfl rfl rfl (by omega) (by omega)) (by (congr 1; omega))) rfl ?_
   refine WL.pv (PV.BJ (n := 24 - 8 * (i % 4)) rfl sZ zR rfl rfl (by omega)) rfl (WL.pv (PV.u9 (n := 24 - 8 * (i % 4)) rfl rfl rfl (by omega)) rfl (WL.pv (PV.aBl rfl vE mC rfl) rfl (WL.pv (PV.bF rfl oL gO rfl rfl (by omega) (by omega)) rfl ?_)))
   refine WL.aW H 0 rfl rfl rfl (new := _) rfl (by exact gO) (bA _ rfl) (Laid.at (Laid.tI i (by rw [tE (by omega) (by rw [jF]; omega)]; omega)) (by simp)) rfl ?_
   intro w22 H
   refine WL.nil (WE.dY (WL.mv rfl rfl (WL.pv (PV.bT rfl rfl rfl (by omega) (by omega)) rfl (WL.as rfl rfl (WL.nil ?_)))))
   have e := A9 (m := 32) (k := i) (l := nX (fZ (cQ la) n)) (by omega) (by rw [jF]; omega)
   rw [AQ _ _ _ (by rw [hS]; omega)] at e
   exact ⟨i + 1, (by repeat (first | with_reducible exact bM.refl _ _ | refine bM.dD rfl ?_ | refine bM.bY rfl ?_ | refine bM.bV rfl ?_)), ⟨rfl, trivial⟩, rfl, ⟨by omega, H.conv (by rw [← e]; rfl)⟩, (by omega)⟩
  ·
   try simp only [bW] at S4
   obtain rfl : i = 32 := by omega
   refine WE.exit (WE.aA ?_)
   have e32 := BA (m := 32) (l := nX (fZ (cQ la) n)) (jF _)
   rw [e32] at H
   refine WL.bE rfl fO rfl rfl (aN.aF (H.l 0 rfl) (aK.all _) rfl) (by exact c9) ?_
   refine WL.aW H 2 rfl rfl rfl (new := _) rfl (by exact c9) (bG _) (Laid.at (Laid.all rfl) rfl) rfl ?_
   intro w23 H
   refine WL.nil (WE.ret ⟨[_], _, .nil _, ⟨⟨_, rfl, aU fO (aN.aF (H.l 2 rfl) (aK.all _) rfl) (by exact c9)⟩, trivial⟩, ?_⟩)
   subst hge
   exact ⟨rfl, H.aL⟩
theorem aHm (e f g : UInt32) : g ^^^ (e &&& (f ^^^ g)) = (e &&& f) ^^^ (~~~e &&& g) := by
 apply UInt32.toBitVec_inj.1
 apply BitVec.eq_of_getLsbD_eq
 intro i hi
 simp [hi]
 generalize e.toBitVec[i] = p
 generalize f.toBitVec[i] = q
 generalize g.toBitVec[i] = r
 revert p q r; decide
theorem aCb (a b c : UInt32) : (a &&& b) ||| (c &&& (a ||| b)) = ((a &&& b) ^^^ (a &&& c)) ^^^ (b &&& c) := by
 apply UInt32.toBitVec_inj.1
 apply BitVec.eq_of_getLsbD_eq
 intro i hi
 simp [hi]
 generalize a.toBitVec[i] = p
 generalize b.toBitVec[i] = q
 generalize c.toBitVec[i] = r
 revert p q r; decide
theorem KT (x : UInt32) (m n : Nat) : kR x [m, n] = lI x m ^^^ lI x n := by simp [kR]
theorem KR (x : UInt32) (l m n : Nat) : kR x [l, m, n] = (lI x l ^^^ lI x m) ^^^ lI x n := by simp [kR]
def iT (i j : Nat) : Nat := max i 16 - 1 - ((max i 16 - 1 - j) % 16)
def win (W : List UInt32) (i : Nat) : List UInt32 := (List.range 16).map fun j => W.getD (iT i j) 0
theorem jS (W : List UInt32) (i : Nat) : (win W i).length = 16 := by simp [win]
theorem KE (W : List UInt32) (i j m : Nat) (hj : j < (win W i).length) (hm : iT i j = m) (h : m < W.length) : (win W i)[j] = W[m] := by
 subst hm
 simp [win, h]
theorem WH (W : List UInt32) (i : Nat) (hi : 16 ≤ i) (h : i < W.length) : (win W i).set (i % 16) W[i] = win W (i + 1) := by
 apply List.ext_getElem
 ·
  simp [win]
 ·
  intro j h1 h2
  rw [jS] at h2
  rw [List.getElem_set]
  by_cases hj : i % 16 = j
  ·
   rw [if_pos hj]
   rw [KE W (i + 1) j i _ (by unfold iT; omega) h]
  ·
   rw [if_neg hj]
   simp only [win, List.getElem_map, List.getElem_range]
   congr 1
   unfold iT
   omega
theorem MP (W : List UInt32) (i : Nat) (hi : i < 16) : win W (i + 1) = win W i := by
 unfold win
 apply List.map_congr_left
 intro j _
 congr 1
 unfold iT
 omega
theorem U1 (a b c d : UInt32) : ((((0 <<< UInt32.ofNat 8 ||| a) <<< UInt32.ofNat 8 ||| b) <<< UInt32.ofNat 8 ||| c) <<< UInt32.ofNat 8 ||| d) =
  ((a <<< UInt32.ofNat 24 ||| b <<< UInt32.ofNat 16) ||| c <<< UInt32.ofNat 8) ||| d := by
 have h : ∀ x : UInt32, ∀ m n : Nat, m + n < 32 → (x <<< UInt32.ofNat m) <<< UInt32.ofNat n = x <<< UInt32.ofNat (m + n) := by
  intro x m n hmn
  apply UInt32.toNat_inj.1
  rw [UInt32.toNat_shiftLeft, UInt32.toNat_shiftLeft, UInt32.toNat_shiftLeft, toNat_ofNat32 (by omega), toNat_ofNat32 (by omega), toNat_ofNat32 hmn]
  rw [Nat.shiftLeft_add]
  simp only [Nat.shiftLeft_eq]
  rw [Nat.mod_mul_mod]
 have ho : ∀ x y : UInt32, (x ||| y) <<< UInt32.ofNat 8 = x <<< UInt32.ofNat 8 ||| y <<< UInt32.ofNat 8 := by
  intro x y
  apply UInt32.toNat_inj.1
  simp only [UInt32.toNat_shiftLeft, UInt32.toNat_or, toNat_ofNat32 (show 8 < 32 by omega)]
  rw [Nat.shiftLeft_or_distrib, Nat.or_mod_two_pow]
 have h0 : (0 : UInt32) <<< UInt32.ofNat 8 = 0 := by decide
 simp only [h0, ho, h _ 8 8 (by omega), h _ 16 8 (by omega), UInt32.zero_or]
def oQ (b : List UInt8) (i : Nat) : List UInt32 := (List.range 16).map fun j => if j < i then word b j else 0
def OY (b : List UInt8) (i : Nat) : Nat → UInt32
 | 0 => 0
 | j + 1 => OY b i j <<< UInt32.ofNat 8 ||| (b.getD (4 * i + j) 0).toUInt32
theorem OX (b : List UInt8) (i : Nat) : OY b i 4 = word b i := by
 simp only [OY, word, Nat.add_zero]
 exact U1 _ _ _ _
theorem k7 (b : List UInt8) (i : Nat) : (oQ b i).length = 16 := by simp [oQ]
theorem MQ (b : List UInt8) : oQ b 0 = List.replicate 16 0 := by simp [oQ]; rfl
theorem MR (b : List UInt8) (i : Nat) (hi : i < 16) : (oQ b i).set i 0 = oQ b i := by
 apply List.ext_getElem
 ·
  simp
 ·
  intro j h1 h2
  rw [List.getElem_set]
  split
  ·
   rename_i h; subst h; simp [oQ]
  ·
   rfl
theorem P0 (b : List UInt8) (i : Nat) (hi : i < 16) : (oQ b i).set i (word b i) = oQ b (i + 1) := by
 apply List.ext_getElem
 ·
  simp [oQ]
 ·
  intro j h1 h2
  rw [k7] at h2
  rw [List.getElem_set]
  split
  ·
   rename_i h; subst h; simp [oQ]
  ·
   rename_i h
   simp only [oQ, List.getElem_map, List.getElem_range]
   by_cases h3 : j < i
   ·
    rw [if_pos h3, if_pos (by omega)]
   ·
    rw [if_neg h3, if_neg (by omega)]
theorem TD {α : Type} {l m : List α} {d : α} {i : Nat} (h : i < l.length) : (l ++ m).getD i d = l.getD i d := by simp [List.getD, List.getElem?_append_left h]
theorem TC {α : Type} (l : List α) (x d : α) : (l ++ [x]).getD l.length d = x := by simp [List.getD]
theorem jD (b : List UInt8) (k i : Nat) (hi : i < 16 + k) : ∀ m, k ≤ m → (sched b m).getD i 0 = (sched b k).getD i 0 := by
  intro m hm
  induction m with
  | zero => obtain rfl : k = 0 := by omega
            rfl
  | succ m ih =>
    by_cases h : k = m + 1
    · subst h; rfl
    · rw [← ih (by omega)]
      have hl := cO b m
      show (ext (sched b m)).getD i 0 = _
      unfold ext
      rw [TD (by omega)]
theorem B4 (b : List UInt8) (i : Nat) (h : 16 ≤ i) (h2 : i < 64) : (sched b 48).getD i 0 =
  (((sched b 48).getD (i - 16) 0 + sg0 ((sched b 48).getD (i - 15) 0)) + (sched b 48).getD (i - 7) 0) + sg1 ((sched b 48).getD (i - 2) 0) := by
 have hl := cO b (i - 16)
 rw [jD b (i - 16 + 1) i (by omega) 48 (by omega), jD b (i - 16) (i - 16) (by omega) 48 (by omega), jD b (i - 16) (i - 15) (by omega) 48 (by omega),
  jD b (i - 16) (i - 7) (by omega) 48 (by omega), jD b (i - 16) (i - 2) (by omega) 48 (by omega)]
 show (ext (sched b (i - 16))).getD i 0 = _
 unfold ext
 rw [hl, show 16 + (i - 16) - 16 = i - 16 by omega, show 16 + (i - 16) - 15 = i - 15 by omega, show 16 + (i - 16) - 7 = i - 7 by omega, show 16 + (i - 16) - 2 = i - 2 by omega]
 have e : ∀ x : UInt32, (sched b (i - 16) ++ [x]).getD i 0 = x := fun x => by
  have h3 := TC (sched b (i - 16)) x 0
  rwa [show (sched b (i - 16)).length = i by omega] at h3
 exact e _
theorem aBG (R : List UInt32) (k w : UInt32) : (((R.getD 7 0 + kR (R.getD 4 0) [6, 11, 25]) + (R.getD 6 0 ^^^ (R.getD 4 0 &&& (R.getD 5 0 ^^^ R.getD 6 0)))) + k) + w = t1f R k w := by
 rw [t1f, KR, aHm]
theorem aBI (R : List UInt32) (t : UInt32) : (t + kR (R.getD 0 0) [2, 13, 22]) + ((R.getD 0 0 &&& R.getD 1 0) ||| (R.getD 2 0 &&& (R.getD 0 0 ||| R.getD 1 0))) = t + t2f R := by
 rw [t2f, KR, aCb, UInt32.add_assoc]
theorem HL (a x y z : UInt32) : a + (((kR x [7, 18] ^^^ (x >>> UInt32.ofNat 3)) + z) + (kR y [17, 19] ^^^ (y >>> UInt32.ofNat 10))) = ((a + sg0 x) + z) + sg1 y := by
 rw [sg0, sg1, KT, KT, UInt32.add_assoc, UInt32.add_assoc]
 simp only [UInt32.add_assoc]
theorem kw8 (R : List UInt32) (h : R.length = 8) : [Value.int .u32 ((R.getD 0 0).toNat : Int), .int .u32 ((R.getD 1 0).toNat : Int), .int .u32 ((R.getD 2 0).toNat : Int), .int .u32 ((R.getD 3 0).toNat : Int),
  .int .u32 ((R.getD 4 0).toNat : Int), .int .u32 ((R.getD 5 0).toNat : Int), .int .u32 ((R.getD 6 0).toNat : Int), .int .u32 ((R.getD 7 0).toNat : Int)] = kw R := by
 match R, h with
 | [a, b, c, d, e, f, g, i], _ => rfl
theorem X3 (l : List UInt32) (i : Nat) (h : i < l.length) : (kw l)[i]? = some (.int .u32 ((l.getD i 0).toNat : Int)) := by
 simp [kw, h]
theorem D0 (W : List UInt32) (i j m : Nat) (hj : j < 16) (hm : iT i j = m) (h : m < W.length) : (win W i)[j]'(by rw [jS]; exact hj) = W.getD m 0 := by
 rw [KE W i j m _ hm h, e9 h]
theorem DV.bZ {w : World} {b n : Nat} {e : TypeId} {l : List Nat} (h : aN w b e (l.map fun (n : Nat) => Value.int .i64 (n : Int))) (hn : l.length = n) : DV (.slice (some ⟨b, 0, none⟩) n n) l w :=
 kK.bZ h (by simpa using hn)
theorem PZ (b : List UInt8) : oQ b 16 = win (sched b 48) 0 := by
 apply List.ext_getElem
 ·
  rw [k7, jS]
 ·
  intro j h1 h2
  rw [k7] at h1
  rw [D0 (sched b 48) 0 j j h1 (by unfold iT; omega) (by rw [cO]; omega), jD b 0 j (by omega) 48 (by omega)]
  simp [oQ, sched, h1]
theorem aN.lQ {w : World} {b o : Nat} {t : TypeId} {W : List UInt32} {i : Nat} (h : aN w b t (kw (win W i))) (j m : Nat) (hj : j < 16) (ho : o = j) (hm : iT i j = m) (hW : m < W.length) : dA w ⟨b, o, none⟩ [.int .u32 ((W.getD m 0).toNat : Int)] := by
 have h1 := aN.aF h (aK.word j (by rw [jS]; exact hj)) ho
 rwa [D0 W i j m hj hm hW] at h1
theorem wR (W : List UInt32) (i : Nat) (hi : 16 ≤ i) (h : i < W.length) : (win W i).set (i % 16) (W.getD i 0) = win W (i + 1) := by
 rw [e9 h]; exact WH W i hi h
theorem aCc (l : List UInt32) (i : Nat) (h : i < l.length) : (kw l)[i]? = some (.int .u32 (l[i].toNat : Int)) := by simp [kw, h]
theorem bJ.aEp {w : World} {v : Value} {l : List UInt8} {lo hi : Nat} (h : bJ (jJ v 1 lo hi) ((l.drop lo).take (hi - lo)) w) (j : Nat) (hj : j < hi - lo) (hl : hi ≤ l.length) : dA w (jN (jJ v 1 lo hi) (j * 1)) [.int .u8 ((l.getD (lo + j) 0).toNat : Int)] := by
 have h1 := bJ.rd h j (by simp; omega)
 have e : ((l.drop lo).take (hi - lo))[j]'(by simp; omega) = l.getD (lo + j) 0 := by
  rw [e9 (by omega)]; simp
 rwa [e] at h1
theorem aN.rdD {w : World} {b o : Nat} {t : TypeId} {l : List UInt32} (h : aN w b t (kw l)) (i : Nat) (hi : i < l.length) (ho : o = i) : dA w ⟨b, o, none⟩ [.int .u32 ((l.getD i 0).toNat : Int)] := by
 have h1 := aN.aF h (aK.word i hi) ho
 rwa [← e9 (d := 0)] at h1
def aZ (w : World) : Prop := dA w ⟨1, 0, none⟩ (kw fL)
theorem aBH {X : Nat → Prop} {w : World} {b : Nat} {s : List UInt32} {a : Value} {la : List UInt8} (hX : cY X w) (eY : aN w b 266 (kw s)) (bU : aJ (fun c_ => X c_ ∨ c_ = b) (bJ a la) w) (dI : aJ (fun c_ => X c_ ∨ c_ = b) (aZ) w) (rR : la.length = 64) (hs : s.length = 8) :
  bC prog 160 [.pointer (some ⟨b, 0, none⟩), a].toArray w fun v w' => v = .tuple #[] ∧ Out (· = b) w w' ∧ aN w' b 266 (kw (comp s la)) := by
 refine bC.aH (N := 192) func160 rfl rfl (by simp) ?_
 have H := ((St.dG (b := b) (t := 266) (l := kw s) hX eY).add (cC dI)).add (cC bU)
 have hWl : (sched la 48).length = 64 := cO _ _
 refine WE.aA ?_
 refine WL.alloc H rfl aDJ rfl ?_
 intro b4 w1 H
 refine WL.nil (WE.seq (WE.aA (WL.mv rfl rfl ?_)))
 replace H := H.conv (L' := [aP.blk b4 301 (kw (oQ la 0))]) (by rw [MQ])
 refine WL.nil (WE.block ?_)
 refine WE.loop (α := Nat) (rg [(5, 1), (7, 1), (24, 26)]) (fun i => [(24, .int .i64 i)]) (fun i wl => i ≤ 16 ∧ St X w wl [aP.blk b 266 (kw s)] [aP.blk b4 301 (kw (oQ la i))] [bJ a la, aZ]) (fun i => 16 - i) 0 ⟨rfl, trivial⟩ ⟨Nat.zero_le _, H⟩ ?_
 intro i γ0 w2 hI
 try dsimp only at hI
 obtain ⟨hi, H⟩ := hI
 refine WE.aA (WL.pv (PV.lss rfl rfl rfl) rfl (WL.nil (WE.seq ?_)))
 refine WE.cond rfl (fun rS => ?_) (fun rS => ?_)
 ·
  try simp only [bW] at rS
  have hlt : i < 16 := by omega
  refine WE.skip (WE.seq (WE.block (WE.aA (WL.mv rfl rfl (WL.as rfl rfl (WL.nil (WE.aA ?_)))))))
  refine WL.mv rfl rfl (WL.mv rfl rfl (WL.pv (PV.mA rfl rfl rfl (by omega) (by omega)) rfl (WL.mv rfl rfl (WL.pv (PV.mA rfl rfl rfl (by omega) (by omega)) rfl (WL.pv (PV.bT rfl rfl rfl (by omega) (by omega)) rfl ?_)))))
  refine WL.pv (PV.eq (v' := jJ a 1 (4 * i) (4 * i + 4)) (PV.aAw rfl (H.p 0 rfl) eM gO rfl rfl rfl (by omega) (by omega)) (by congr 1 <;> omega)) rfl ?_
  replace H := H.add ((H.bK 0 rfl).imp fun _ h => bJ.sub (lo := 4 * i) (hi := 4 * i + 4) h (by omega) (by omega))
  refine WL.pv (PV.eq (v' := .int .i64 4) (PV.dR (H.p 0 rfl) eM rfl) (by simp; omega)) rfl ?_
  refine WL.mv rfl rfl (WL.nil (WE.block ?_))
  refine WE.loop (α := Nat) (rg [(7, 1), (35, 14)]) (fun j => [(35, .int .i64 j)]) (fun j wl => j ≤ 4 ∧ St X w wl [aP.blk b 266 (kw s)] [aP.blk b4 301 (kw ((oQ la i).set i (OY la i j)))] [bJ (jJ a 1 (4 * i) (4 * i + 4)) ((la.drop (4 * i)).take (4 * i + 4 - 4 * i)), bJ a la, aZ]) (fun j => 4 - j) 0 ⟨rfl, trivial⟩ ⟨Nat.zero_le _, H.conv (by rw [show OY la i 0 = 0 from rfl, MR _ _ hlt])⟩ ?_
  intro j γ1 w3 hI
  try dsimp only at hI
  obtain ⟨hj, H⟩ := hI
  refine WE.aA (WL.pv (PV.lss rfl rfl rfl) rfl (WL.nil (WE.seq ?_)))
  refine WE.cond rfl (fun pA => ?_) (fun pA => ?_)
  ·
   try simp only [bW] at pA
   have hj4 : j < 4 := by omega
   refine WE.skip (WE.seq (WE.block (WE.aA ?_)))
   refine WL.pv (PV.eA rfl (H.p 0 rfl) eM gO rfl rfl (by omega) (by simp; omega)) rfl ?_
   refine WL.aY rfl u3 rfl rfl (bJ.aEp (H.p 0 rfl) j (by omega) (by omega)) (WL.as rfl rfl (WL.nil (WE.dY (WL.mv rfl rfl (WL.mv rfl rfl (WL.pv (PV.bF rfl rF c7 rfl rfl (by omega) (by omega)) rfl ?_))))))
   refine WL.aY rfl dS rfl rfl (by have h1 := aN.aF (o' := 0 + (i : Int).toNat * 1) (H.l 0 rfl) (aK.word i (by simp [k7]; omega)) (by omega); rw [List.getElem_set_self] at h1; exact h1) ?_
   refine WL.pv (PV.AG (n := 8) rfl rfl rfl (by omega)) rfl (WL.mv rfl rfl (WL.pv (PV.F9 rfl mC vE rfl) rfl (WL.pv (PV.ET rfl rfl rfl) rfl (WL.pv (PV.bF rfl rF c7 rfl rfl (by omega) (by omega)) rfl ?_))))
   refine WL.aW H 0 rfl rfl rfl (new := _) rfl (by exact c7) (bA _ rfl) (Laid.at (Laid.fE i (by simp [k7]; omega)) (by simp)) rfl ?_
   intro w4 H
   refine WL.nil (WE.dY (WL.pv (PV.bT rfl rfl rfl (by omega) (by omega)) rfl (WL.mv rfl rfl (WL.nil ?_))))
   replace H := H.conv (L' := [aP.blk b4 301 (kw ((oQ la i).set i (OY la i (j + 1))))]) (by rw [List.set_set]; rfl)
   exact ⟨j + 1, (by repeat (first | with_reducible exact bM.refl _ _ | refine bM.dD rfl ?_ | refine bM.bY rfl ?_ | refine bM.bV rfl ?_)), ⟨rfl, trivial⟩, rfl, ⟨by omega, H⟩, (by omega)⟩
  ·
   try simp only [bW] at pA
   obtain rfl : j = 4 := by omega
   refine WE.exit (WE.dY (WL.pv (PV.bT rfl rfl rfl (by omega) (by omega)) rfl (WL.mv rfl rfl (WL.nil ?_))))
   replace H := H.conv (L' := [aP.blk b4 301 (kw (oQ la (i + 1)))]) (by rw [OX, P0 _ _ hlt])
   replace H := H.drop (fun p hp => List.mem_cons_of_mem _ hp)
   exact ⟨i + 1, (by repeat (first | with_reducible exact bM.refl _ _ | refine bM.dD rfl ?_ | refine bM.bY rfl ?_ | refine bM.bV rfl ?_)), ⟨rfl, trivial⟩, rfl, ⟨by omega, H⟩, (by omega)⟩
 ·
  try simp only [bW] at rS
  obtain rfl : i = 16 := by omega
  refine WE.exit ?_
  refine WE.bH (.take 0 (.take 1 (.take 2 (.take 3 (.take 4 (.take 5 (.take 6 (.take 7 (.take 8 (.take 9 (.take 10 (.take 11 (.take 12 (.take 13 (.take 14 (.take 15 (.take 16 (.take 17 (.take 18 (.take 19 (.take 20 (.take 21 (.take 22 (.take 23 (.take 24 (.take 25 (.take 26 (.take 27 (.take 28 (.take 29 (.take 30 (.take 31 (.take 32 (.take 33 (.take 34 (.take 35 (.take 36 (.take 37 (.take 38 (.take 39 .done)))))))))))))))))))))))))))))))))))))))) mixed (by kernel_rfl) ?_
  replace H := H.out (Out.drew _)
  refine WP.mv rfl rfl rfl (WP.aC rfl rfl (PV.nilCheck rfl rfl) (WP.aC rfl rfl (PV.bF rfl pM c7 rfl rfl (by omega) (by omega)) (WP.aM rfl rfl (RV.aV rfl dS rfl) (aN.rdD (H.o 0 rfl) 0 (by omega) rfl) (WP.mv rfl rfl rfl (WP.aC rfl rfl (PV.nilCheck rfl rfl) (WP.aC rfl rfl (PV.bF rfl pM c7 rfl rfl (by omega) (by omega)) (WP.aM rfl rfl (RV.aV rfl dS rfl) (aN.rdD (H.o 0 rfl) 1 (by omega) rfl) ?_)))))))
  refine WP.mv rfl rfl rfl (WP.aC rfl rfl (PV.nilCheck rfl rfl) (WP.aC rfl rfl (PV.bF rfl pM c7 rfl rfl (by omega) (by omega)) (WP.aM rfl rfl (RV.aV rfl dS rfl) (aN.rdD (H.o 0 rfl) 2 (by omega) rfl) (WP.mv rfl rfl rfl (WP.aC rfl rfl (PV.nilCheck rfl rfl) (WP.aC rfl rfl (PV.bF rfl pM c7 rfl rfl (by omega) (by omega)) (WP.aM rfl rfl (RV.aV rfl dS rfl) (aN.rdD (H.o 0 rfl) 3 (by omega) rfl) ?_)))))))
  refine WP.mv rfl rfl rfl (WP.aC rfl rfl (PV.nilCheck rfl rfl) (WP.aC rfl rfl (PV.bF rfl pM c7 rfl rfl (by omega) (by omega)) (WP.aM rfl rfl (RV.aV rfl dS rfl) (aN.rdD (H.o 0 rfl) 4 (by omega) rfl) (WP.mv rfl rfl rfl (WP.aC rfl rfl (PV.nilCheck rfl rfl) (WP.aC rfl rfl (PV.bF rfl pM c7 rfl rfl (by omega) (by omega)) (WP.aM rfl rfl (RV.aV rfl dS rfl) (aN.rdD (H.o 0 rfl) 5 (by omega) rfl) ?_)))))))
  refine WP.mv rfl rfl rfl (WP.aC rfl rfl (PV.nilCheck rfl rfl) (WP.aC rfl rfl (PV.bF rfl pM c7 rfl rfl (by omega) (by omega)) (WP.aM rfl rfl (RV.aV rfl dS rfl) (aN.rdD (H.o 0 rfl) 6 (by omega) rfl) (WP.mv rfl rfl rfl (WP.aC rfl rfl (PV.nilCheck rfl rfl) (WP.aC rfl rfl (PV.bF rfl pM c7 rfl rfl (by omega) (by omega)) (WP.aM rfl rfl (RV.aV rfl dS rfl) (aN.rdD (H.o 0 rfl) 7 (by omega) rfl) ?_)))))))
  refine WP.as rfl rfl rfl (WP.as rfl rfl rfl (WP.as rfl rfl rfl (WP.as rfl rfl rfl (WP.as rfl rfl rfl (WP.as rfl rfl rfl (WP.as rfl rfl rfl (WP.as rfl rfl rfl ?_)))))))
  refine WP.done (WE.seq (WE.aA ?_))
  refine WL.bE rfl aHF rfl rfl (H.p 1 rfl) (by exact aD1) ?_
  refine WL.mv rfl rfl (WL.nil (WE.block ?_))
  refine WE.loop (α := Nat) (rg [(8, 14), (83, 86)]) (fun i => [(83, .int .i64 i), (8, .int .u32 (((iJ (sched la 48) s i).getD 0 0).toNat : Int)), (9, .int .u32 (((iJ (sched la 48) s i).getD 1 0).toNat : Int)), (10, .int .u32 (((iJ (sched la 48) s i).getD 2 0).toNat : Int)), (11, .int .u32 (((iJ (sched la 48) s i).getD 3 0).toNat : Int)), (12, .int .u32 (((iJ (sched la 48) s i).getD 4 0).toNat : Int)), (13, .int .u32 (((iJ (sched la 48) s i).getD 5 0).toNat : Int)), (14, .int .u32 (((iJ (sched la 48) s i).getD 6 0).toNat : Int)), (15, .int .u32 (((iJ (sched la 48) s i).getD 7 0).toNat : Int))]) (fun i wl => i ≤ 64 ∧ St X w wl [aP.blk b 266 (kw s)] [aP.blk b4 301 (kw (win (sched la 48) (i)))] [bJ a la, aZ]) (fun i => 64 - i) 0 ⟨rfl, rfl, rfl, rfl, rfl, rfl, rfl, rfl, rfl, trivial⟩ ⟨Nat.zero_le _, H.conv (by rw [PZ])⟩ ?_
  intro i γ2 w5 hI
  try dsimp only at hI
  obtain ⟨hi, H⟩ := hI
  refine WE.aA (WL.pv (PV.lss rfl rfl rfl) rfl (WL.nil (WE.seq ?_)))
  refine WE.cond rfl (fun aCA => ?_) (fun aCA => ?_)
  ·
   try simp only [bW] at aCA
   have hlt : i < 64 := by omega
   refine WE.skip (WE.seq (WE.block (WE.aA (WL.mv rfl rfl (WL.pv (PV.IX (l := kw fL) rfl aBm c7 dS rfl rfl (by omega) (X3 fL i hlt)) rfl (WL.as rfl rfl (WL.as rfl rfl ?_)))))))
   refine WL.nil (WE.aA (WL.mv rfl rfl (WL.pv (PV.p5 rfl rfl rfl (by omega) (by omega)) rfl (WL.as rfl rfl (WL.nil ?_)))))
   refine WE.cut (α := Unit) (rg [(19, 2), (89, 36)]) (fun _ => []) (fun _ wl => St X w wl [aP.blk b 266 (kw s)] [aP.blk b4 301 (kw (win (sched la 48) (i + 1)))] [bJ a la, aZ]) ?_ ?_
   ·
    refine WE.aA (WL.mv rfl rfl (WL.pv (PV.geq rfl rfl rfl) rfl (WL.nil ?_)))
    refine WE.cond rfl (fun aCz => ?_) (fun aCz => ?_)
    ·
     try simp only [bW] at aCz
     have WA : 16 ≤ i := by omega
     refine WE.bH (.take 0 (.take 1 (.take 2 (.take 3 (.take 4 (.take 5 (.take 6 (.take 7 (.take 8 (.take 9 (.take 10 (.take 11 .done)))))))))))) mixed (by kernel_rfl) ?_
     replace H := H.out (Out.drew _)
     refine WP.mv rfl rfl rfl (WP.aC rfl rfl (PV.bT rfl rfl rfl (by omega) (by omega)) (WP.aC rfl rfl (PV.p5 rfl rfl rfl (by omega) (by omega)) (WP.aC rfl rfl (PV.bF rfl rF c7 rfl rfl (by omega) (by omega)) ?_)))
     refine WP.aM rfl rfl (RV.aV rfl dS rfl) (aN.lQ (H.l 0 rfl) ((i + 1) % 16) (i - 15) (by omega) (by omega) (by unfold iT; omega) (by rw [cO]; omega)) ?_
     refine WP.mv rfl rfl rfl (WP.aC rfl rfl (PV.bT rfl rfl rfl (by omega) (by omega)) (WP.aC rfl rfl (PV.p5 rfl rfl rfl (by omega) (by omega)) (WP.aC rfl rfl (PV.bF rfl rF c7 rfl rfl (by omega) (by omega)) ?_)))
     refine WP.aM rfl rfl (RV.aV rfl dS rfl) (aN.lQ (H.l 0 rfl) ((i + 14) % 16) (i - 2) (by omega) (by omega) (by unfold iT; omega) (by rw [cO]; omega)) ?_
     refine WP.as rfl rfl rfl (WP.as rfl rfl rfl (WP.done ?_))
     refine WE.draw (.take 0 (.take 1 (.take 2 (.take 3 (.take 6 (.take 7 (.take 9 (.take 10 (.take 11 (.take 12 (.take 13 (.take 15 (.take 18 (.take 19 (.jO 4 (.jO 5 (.take 8 (.take 14 (.aG 16 (.aG 17 (.take 20 (.take 21 (.take 22 (.take 23 (.aG 24 .done))))))))) 16 (.aG 5 (.take 8 (.take 14 (.aG 17 (.take 20 (.take 21 (.take 22 (.take 23 (.aG 24 .done)))))))))) 16 (.aG 4 (.aG 5 (.take 8 (.take 14 (.aG 17 (.take 20 (.take 21 (.take 22 (.take 23 (.aG 24 .done))))))))))))))))))))))))) mixed (by kernel_rfl) ?_
     replace H := H.out (Out.drew _)
     refine WP.mv rfl rfl rfl (WP.aC rfl rfl (PV.bF rfl rF c7 rfl rfl (by omega) (by omega)) ?_)
     refine WP.aM rfl rfl (RV.aV rfl dS rfl) (aN.lQ (H.l 0 rfl) (i % 16) (i - 16) (by omega) (by omega) (by unfold iT; omega) (by rw [cO]; omega)) ?_
     refine WP.mv rfl rfl rfl (WP.mv rfl rfl rfl (WP.aC rfl rfl (PV.u9 (n := 3) rfl rfl rfl (by omega)) (WP.mv rfl rfl rfl (WP.aC rfl rfl (PV.bT rfl rfl rfl (by omega) (by omega)) (WP.aC rfl rfl (PV.p5 rfl rfl rfl (by omega) (by omega)) (WP.aC rfl rfl (PV.bF rfl rF c7 rfl rfl (by omega) (by omega)) ?_))))))
     refine WP.aM rfl rfl (RV.aV rfl dS rfl) (aN.lQ (H.l 0 rfl) ((i + 9) % 16) (i - 7) (by omega) (by omega) (by unfold iT; omega) (by rw [cO]; omega)) ?_
     refine WP.mv rfl rfl rfl (WP.mv rfl rfl rfl (WP.aC rfl rfl (PV.u9 (n := 10) rfl rfl rfl (by omega)) ?_))
     refine WP.jO rfl rfl ?_ ?_ 
     ·
      refine WL.bB (l0 := [.int .i64 (0), .int .i64 (0)]) H rfl sE (by decide) (cT _ _) (Fl.cons rfl rfl (by simp only [aS]) Laid.head (Fl.cons rfl rfl (by simp only [aS]) (Laid.tail Laid.head rfl) Fl.nil)) rfl ?_
      intro aKb w6 H
      replace H := H.freeze (i := 0) rfl
      replace H := H.add ((H.bK 0 rfl).imp fun _ h => DV.bZ (l := [7, 18]) h rfl)
      refine WL.nil ⟨(fa (fun _ _ => (aN.lQ (H.l 0 rfl) ((i + 9) % 16) (i - 7) (by omega) (by omega) (by unfold iT; omega) (by rw [cO]; omega))) (fa (fun _ _ => (aN.lQ (H.l 0 rfl) (i % 16) (i - 16) (by omega) (by omega) (by unfold iT; omega) (by rw [cO]; omega))) c5)), ?_⟩
      refine WP.jO rfl rfl ?_ ?_ 
      ·
       refine WL.call vF rfl (mV (x := (sched la 48).getD (i - 15) 0) (l := [7, 18]) H.aR (by exact H.bK 0 rfl) (by decide) (by decide)) ?_
       rintro _ w7 ⟨rfl, hO⟩
       replace H := H.out hO
       refine WL.nil ⟨(fa (rk hO) (fa (rk hO) c5)), ?_⟩
       refine WP.aC rfl rfl (PV.jW rfl rfl rfl) (WP.aC rfl rfl (PV.hZ rfl rfl rfl) (WP.aG rfl ?_))
       refine WL.bB (l0 := [.int .i64 (0), .int .i64 (0)]) H rfl sE (by decide) (cT _ _) (Fl.cons rfl rfl (by simp only [aS]) Laid.head (Fl.cons rfl rfl (by simp only [aS]) (Laid.tail Laid.head rfl) Fl.nil)) rfl ?_
       intro aHv w8 H
       replace H := H.freeze (i := 0) rfl
       replace H := H.add ((H.bK 0 rfl).imp fun _ h => DV.bZ (l := [17, 19]) h rfl)
       refine WL.nil ⟨(fa (fun _ _ => (aN.lQ (H.l 0 rfl) ((i + 9) % 16) (i - 7) (by omega) (by omega) (by unfold iT; omega) (by rw [cO]; omega))) (fa (fun _ _ => (aN.lQ (H.l 0 rfl) (i % 16) (i - 16) (by omega) (by omega) (by unfold iT; omega) (by rw [cO]; omega))) c5)), ?_⟩
       refine WP.aG rfl ?_
       refine WL.call vF rfl (mV (x := (sched la 48).getD (i - 2) 0) (l := [17, 19]) H.aR (by exact H.bK 0 rfl) (by decide) (by decide)) ?_
       rintro _ w9 ⟨rfl, hO⟩
       replace H := H.out hO
       refine WL.nil ⟨(fa (rk hO) (fa (rk hO) c5)), ?_⟩
       refine WP.aC rfl rfl (PV.jW rfl rfl rfl) (WP.aC rfl rfl (PV.hZ rfl rfl rfl) (WP.aC rfl rfl (PV.hZ rfl rfl rfl) (WP.aC rfl rfl (PV.bF rfl rF c7 rfl rfl (by omega) (by omega)) (WP.aG rfl ?_))))
       refine WL.aW H 0 rfl rfl rfl (new := _) rfl (by exact c7) (bA _ rfl) (Laid.at (Laid.fE (i % 16) (by rw [jS]; omega)) (by omega)) rfl ?_
       intro tM H
       replace H := H.conv (L' := [aP.blk b4 301 (kw (win (sched la 48) (i + 1)))]) (by rw [HL, ← B4 la i WA hlt, wR _ _ WA (by omega)]; rfl)
       refine WL.nil ⟨(fa (nw 24 13) (fa (nw 24 2) c5)), ?_⟩
       refine WP.done ?_
       replace H := H.drop (J1 := [bJ a la, aZ]) (by intro p hp; simp at hp ⊢; rcases hp with h | h <;> simp [h])
       exact ⟨(), (by repeat (first | with_reducible exact bM.refl _ _ | refine bM.dD rfl ?_)), trivial, rfl, H⟩
      ·
       refine WL.bB (l0 := [.int .i64 (0), .int .i64 (0)]) H rfl sE (by decide) (cT _ _) (Fl.cons rfl rfl (by simp only [aS]) Laid.head (Fl.cons rfl rfl (by simp only [aS]) (Laid.tail Laid.head rfl) Fl.nil)) rfl ?_
       intro aHv wT H
       replace H := H.freeze (i := 0) rfl
       replace H := H.add ((H.bK 0 rfl).imp fun _ h => DV.bZ (l := [17, 19]) h rfl)
       refine WL.nil ⟨(fa (fun _ _ => (aN.lQ (H.l 0 rfl) ((i + 9) % 16) (i - 7) (by omega) (by omega) (by unfold iT; omega) (by rw [cO]; omega))) (fa (fun _ _ => (aN.lQ (H.l 0 rfl) (i % 16) (i - 16) (by omega) (by omega) (by unfold iT; omega) (by rw [cO]; omega))) c5)), ?_⟩
       refine WP.aG rfl ?_
       refine WL.call vF rfl (mV (x := (sched la 48).getD (i - 15) 0) (l := [7, 18]) H.aR (by exact H.bK 2 rfl) (by decide) (by decide)) ?_
       rintro _ G2 ⟨rfl, hO⟩
       replace H := H.out hO
       refine WL.nil ⟨(fa (rk hO) (fa (rk hO) c5)), ?_⟩
       refine WP.aC rfl rfl (PV.jW rfl rfl rfl) (WP.aC rfl rfl (PV.hZ rfl rfl rfl) (WP.aG rfl ?_))
       refine WL.call vF rfl (mV (x := (sched la 48).getD (i - 2) 0) (l := [17, 19]) H.aR (by exact H.bK 0 rfl) (by decide) (by decide)) ?_
       rintro _ D4 ⟨rfl, hO⟩
       replace H := H.out hO
       refine WL.nil ⟨(fa (rk hO) (fa (rk hO) c5)), ?_⟩
       refine WP.aC rfl rfl (PV.jW rfl rfl rfl) (WP.aC rfl rfl (PV.hZ rfl rfl rfl) (WP.aC rfl rfl (PV.hZ rfl rfl rfl) (WP.aC rfl rfl (PV.bF rfl rF c7 rfl rfl (by omega) (by omega)) (WP.aG rfl ?_))))
       refine WL.aW H 0 rfl rfl rfl (new := _) rfl (by exact c7) (bA _ rfl) (Laid.at (Laid.fE (i % 16) (by rw [jS]; omega)) (by omega)) rfl ?_
       intro KG H
       replace H := H.conv (L' := [aP.blk b4 301 (kw (win (sched la 48) (i + 1)))]) (by rw [HL, ← B4 la i WA hlt, wR _ _ WA (by omega)]; rfl)
       refine WL.nil ⟨(fa (nw 24 13) (fa (nw 24 2) c5)), ?_⟩
       refine WP.done ?_
       replace H := H.drop (J1 := [bJ a la, aZ]) (by intro p hp; simp at hp ⊢; rcases hp with h | h <;> simp [h])
       exact ⟨(), (by repeat (first | with_reducible exact bM.refl _ _ | refine bM.dD rfl ?_)), trivial, rfl, H⟩
     ·
      refine WL.bB (l0 := [.int .i64 (0), .int .i64 (0)]) H rfl sE (by decide) (cT _ _) (Fl.cons rfl rfl (by simp only [aS]) Laid.head (Fl.cons rfl rfl (by simp only [aS]) (Laid.tail Laid.head rfl) Fl.nil)) rfl ?_
      intro aHv PD H
      replace H := H.freeze (i := 0) rfl
      replace H := H.add ((H.bK 0 rfl).imp fun _ h => DV.bZ (l := [17, 19]) h rfl)
      refine WL.nil ⟨(fa (fun _ _ => (aN.lQ (H.l 0 rfl) ((i + 9) % 16) (i - 7) (by omega) (by omega) (by unfold iT; omega) (by rw [cO]; omega))) (fa (fun _ _ => (aN.lQ (H.l 0 rfl) (i % 16) (i - 16) (by omega) (by omega) (by unfold iT; omega) (by rw [cO]; omega))) c5)), ?_⟩
      refine WP.aG rfl ?_
      refine WL.bB (l0 := [.int .i64 (0), .int .i64 (0)]) H rfl sE (by decide) (cT _ _) (Fl.cons rfl rfl (by simp only [aS]) Laid.head (Fl.cons rfl rfl (by simp only [aS]) (Laid.tail Laid.head rfl) Fl.nil)) rfl ?_
      intro aKb P7 H
      replace H := H.freeze (i := 0) rfl
      replace H := H.add ((H.bK 0 rfl).imp fun _ h => DV.bZ (l := [7, 18]) h rfl)
      refine WL.nil ⟨(fa (fun _ _ => (aN.lQ (H.l 0 rfl) ((i + 9) % 16) (i - 7) (by omega) (by omega) (by unfold iT; omega) (by rw [cO]; omega))) (fa (fun _ _ => (aN.lQ (H.l 0 rfl) (i % 16) (i - 16) (by omega) (by omega) (by unfold iT; omega) (by rw [cO]; omega))) c5)), ?_⟩
      refine WP.aG rfl ?_
      refine WL.call vF rfl (mV (x := (sched la 48).getD (i - 15) 0) (l := [7, 18]) H.aR (by exact H.bK 0 rfl) (by decide) (by decide)) ?_
      rintro _ P6 ⟨rfl, hO⟩
      replace H := H.out hO
      refine WL.nil ⟨(fa (rk hO) (fa (rk hO) c5)), ?_⟩
      refine WP.aC rfl rfl (PV.jW rfl rfl rfl) (WP.aC rfl rfl (PV.hZ rfl rfl rfl) (WP.aG rfl ?_))
      refine WL.call vF rfl (mV (x := (sched la 48).getD (i - 2) 0) (l := [17, 19]) H.aR (by exact H.bK 2 rfl) (by decide) (by decide)) ?_
      rintro _ P5 ⟨rfl, hO⟩
      replace H := H.out hO
      refine WL.nil ⟨(fa (rk hO) (fa (rk hO) c5)), ?_⟩
      refine WP.aC rfl rfl (PV.jW rfl rfl rfl) (WP.aC rfl rfl (PV.hZ rfl rfl rfl) (WP.aC rfl rfl (PV.hZ rfl rfl rfl) (WP.aC rfl rfl (PV.bF rfl rF c7 rfl rfl (by omega) (by omega)) (WP.aG rfl ?_))))
      refine WL.aW H 0 rfl rfl rfl (new := _) rfl (by exact c7) (bA _ rfl) (Laid.at (Laid.fE (i % 16) (by rw [jS]; omega)) (by omega)) rfl ?_
      intro w19 H
      replace H := H.conv (L' := [aP.blk b4 301 (kw (win (sched la 48) (i + 1)))]) (by rw [HL, ← B4 la i WA hlt, wR _ _ WA (by omega)]; rfl)
      refine WL.nil ⟨(fa (nw 24 13) (fa (nw 24 2) c5)), ?_⟩
      refine WP.done ?_
      replace H := H.drop (J1 := [bJ a la, aZ]) (by intro p hp; simp at hp ⊢; rcases hp with h | h <;> simp [h])
      exact ⟨(), (by repeat (first | with_reducible exact bM.refl _ _ | refine bM.dD rfl ?_)), trivial, rfl, H⟩
    ·
     try simp only [bW] at aCz
     have WA : i < 16 := by omega
     replace H := H.conv (L' := [aP.blk b4 301 (kw (win (sched la 48) (i + 1)))]) (by rw [MP _ _ WA])
     refine WE.skip ?_
     replace H := H.drop (J1 := [bJ a la, aZ]) (by intro p hp; simp at hp ⊢; rcases hp with h | h <;> simp [h])
     exact ⟨(), (by repeat (first | with_reducible exact bM.refl _ _ | refine bM.dD rfl ?_)), trivial, rfl, H⟩
   ·
    intro _ γ w20 hI
    try dsimp only at hI
    replace H := hI
    refine WE.bH (.take 0 (.take 1 (.take 5 (.take 6 (.take 7 (.take 8 (.take 9 (.take 10 (.take 11 (.take 13 (.take 15 (.take 16 (.take 17 (.aG 2 (.aG 3 (.take 4 (.take 12 (.take 14 (.take 18 (.take 19 .done)))))))))))))))))))) mixed (by kernel_rfl) ?_
    replace H := H.out (Out.drew _)
    refine WP.mv rfl rfl rfl (WP.mv rfl rfl rfl (WP.mv rfl rfl rfl (WP.mv rfl rfl rfl (WP.mv rfl rfl rfl (WP.mv rfl rfl rfl (WP.aC rfl rfl (PV.jW rfl rfl rfl) (WP.aC rfl rfl (PV.rG rfl rfl rfl) ?_)))))))
    refine WP.aC rfl rfl (PV.jW rfl rfl rfl) (WP.mv rfl rfl rfl (WP.mv rfl rfl rfl (WP.aC rfl rfl (PV.bF rfl rF c7 rfl rfl (by omega) (by omega)) ?_)))
    refine WP.aM rfl rfl (RV.aV rfl dS rfl) (aN.lQ (H.l 0 rfl) (i % 16) (i) (by omega) (by omega) (by unfold iT; omega) (by rw [cO]; omega)) ?_
    refine WP.aG rfl ?_
    refine WL.bB (l0 := [.int .i64 (0), .int .i64 (0), .int .i64 (0)]) H rfl sE (by decide) (cT _ _) (Fl.cons rfl rfl (by simp only [aS]) Laid.head (Fl.cons rfl rfl (by simp only [aS]) (Laid.tail Laid.head rfl) (Fl.cons rfl rfl (by simp only [aS]) (Laid.tail (Laid.tail Laid.head rfl) rfl) Fl.nil))) rfl ?_
    intro aLk w21 H
    replace H := H.freeze (i := 0) rfl
    replace H := H.add ((H.bK 0 rfl).imp fun _ h => DV.bZ (l := [6, 11, 25]) h rfl)
    refine WL.nil ⟨(fa (fun _ _ => (aN.lQ (H.l 0 rfl) (i % 16) (i) (by omega) (by omega) (by unfold iT; omega) (by rw [cO]; omega))) c5), ?_⟩
    refine WP.aG rfl ?_
    refine WL.call vF rfl (mV (x := (iJ (sched la 48) s i).getD 4 0) (l := [6, 11, 25]) H.aR (by exact H.bK 0 rfl) (by decide) (by decide)) ?_
    rintro _ w22 ⟨rfl, hO⟩
    replace H := H.out hO
    refine WL.nil ⟨(fa (rk hO) c5), ?_⟩
    refine WP.aC rfl rfl (PV.hZ rfl rfl rfl) (WP.aC rfl rfl (PV.hZ rfl rfl rfl) (WP.aC rfl rfl (PV.hZ rfl rfl rfl) (WP.aC rfl rfl (PV.hZ rfl rfl rfl) (WP.as rfl rfl rfl (WP.done ?_)))))
    refine WE.norm [8, 9, 10, 11, 12, 13, 14, 15, 16, 17, 18, 19, 20, 21, 83, 84, 85, 86, 87, 88, 89, 90, 91, 92, 93, 94, 95, 96, 97, 98, 99, 100, 101, 102, 103, 104, 105, 106, 107, 108, 109, 110, 111, 112, 113, 114, 115, 116, 117, 118, 119, 120, 121, 122, 123, 124, 125, 126, 127, 128, 129, 130, 131, 132, 133, 134, 135, 136, 137, 138, 139, 140, 141, 142, 143, 144, 145, 146, 147, 148, 149, 150, 151, 152, 153, 154, 155, 156, 157, 158, 159, 160, 161, 162, 163, 164, 165, 166, 167, 168] [(83, .int .i64 i), (21, .int .u32 ((t1f (iJ (sched la 48) s i) (fL.getD i 0) ((sched la 48).getD i 0)).toNat : Int)), (8, .int .u32 (((iJ (sched la 48) s i).getD 0 0).toNat : Int)), (9, .int .u32 (((iJ (sched la 48) s i).getD 1 0).toNat : Int)), (10, .int .u32 (((iJ (sched la 48) s i).getD 2 0).toNat : Int)), (11, .int .u32 (((iJ (sched la 48) s i).getD 3 0).toNat : Int)), (12, .int .u32 (((iJ (sched la 48) s i).getD 4 0).toNat : Int)), (13, .int .u32 (((iJ (sched la 48) s i).getD 5 0).toNat : Int)), (14, .int .u32 (((iJ (sched la 48) s i).getD 6 0).toNat : Int)), (15, .int .u32 (((iJ (sched la 48) s i).getD 7 0).toNat : Int))] (bM.refl _ _) ⟨rfl, (by show Value.int .u32 _ = _; rw [aBG]), rfl, rfl, rfl, rfl, rfl, rfl, rfl, rfl, trivial⟩ ?_
    intro γ_
    refine WE.aA (WL.mv rfl rfl (WL.mv rfl rfl (WL.mv rfl rfl (WL.mv rfl rfl (WL.mv rfl rfl (WL.pv (PV.hZ rfl rfl rfl) rfl (WL.as rfl rfl ?_)))))))
    refine WL.as rfl rfl (WL.as rfl rfl (WL.as rfl rfl (WL.nil (WE.dY (WL.mv rfl rfl (WL.mv rfl rfl (WL.mv rfl rfl ?_)))))))
    refine WL.mv rfl rfl (WL.mv rfl rfl ?_)
    refine WL.bB (l0 := [.int .i64 (0), .int .i64 (0), .int .i64 (0)]) H rfl sE (by decide) (cT _ _) (Fl.cons rfl rfl (by simp only [aS]) Laid.head (Fl.cons rfl rfl (by simp only [aS]) (Laid.tail Laid.head rfl) (Fl.cons rfl rfl (by simp only [aS]) (Laid.tail (Laid.tail Laid.head rfl) rfl) Fl.nil))) rfl ?_
    intro aLj w23 H
    replace H := H.freeze (i := 0) rfl
    replace H := H.add ((H.bK 0 rfl).imp fun _ h => DV.bZ (l := [2, 13, 22]) h rfl)
    refine WL.call vF rfl (mV (x := (iJ (sched la 48) s i).getD 0 0) (l := [2, 13, 22]) H.aR (by exact H.bK 0 rfl) (by decide) (by decide)) ?_
    rintro _ w24 ⟨rfl, hO⟩
    replace H := H.out hO
    refine WL.pv (PV.hZ rfl rfl rfl) rfl (WL.mv rfl rfl (WL.mv rfl rfl (WL.pv (PV.rG rfl rfl rfl) rfl (WL.mv rfl rfl (WL.mv rfl rfl (WL.mv rfl rfl (WL.pv (PV.ET rfl rfl rfl) rfl ?_)))))))
    refine WL.pv (PV.rG rfl rfl rfl) rfl (WL.pv (PV.ET rfl rfl rfl) rfl (WL.pv (PV.hZ rfl rfl rfl) rfl (WL.as rfl rfl (WL.as rfl rfl (WL.as rfl rfl (WL.as rfl rfl (WL.nil ?_)))))))
    refine WE.dY (WL.pv (PV.bT rfl rfl rfl (by omega) (by omega)) rfl (WL.mv rfl rfl (WL.nil ?_)))
    replace H := H.drop (J1 := [bJ a la, aZ]) (by intro p hp; simp at hp ⊢; rcases hp with h | h <;> simp [h])
    exact ⟨i + 1, (by repeat (first | with_reducible exact bM.refl _ _ | refine bM.dD rfl ?_ | refine bM.bY rfl ?_ | refine bM.bV rfl ?_)), ⟨rfl, by show Value.int .u32 _ = _; rw [aBI]; rfl, rfl, rfl, rfl, rfl, rfl, rfl, rfl, trivial⟩, rfl, ⟨by omega, H⟩, (by omega)⟩
  ·
   try simp only [bW] at aCA
   obtain rfl : i = 64 := by omega
   refine WE.exit (WE.aA (WL.mv rfl rfl (WL.mv rfl rfl (WL.mv rfl rfl (WL.mv rfl rfl (WL.mv rfl rfl (WL.mv rfl rfl ?_)))))))
   refine WL.mv rfl rfl (WL.mv rfl rfl ?_)
   refine WL.pv (PV.eq (v' := .agg (kw (iJ (sched la 48) s 64)).toArray) (PV.lP (l := kw (iJ (sched la 48) s 64)) rfl gA c7 DX (by rw [← kw8 _ (lB _ s hs 64)]; exact (Fl.cons rfl rfl (by simp only [aS]) (Laid.fE 0 (by simp only [aS]; omega)) (Fl.cons rfl rfl (by simp only [aS]) (Laid.fE 1 (by simp [aI, aQ, *])) (Fl.cons rfl rfl (by simp only [aS]) (Laid.fE 2 (by simp [aI, aQ, *])) (Fl.cons rfl rfl (by simp only [aS]) (Laid.fE 3 (by simp [aI, aQ, *])) (Fl.cons rfl rfl (by simp only [aS]) (Laid.fE 4 (by simp [aI, aQ, *])) (Fl.cons rfl rfl (by simp only [aS]) (Laid.fE 5 (by simp [aI, aQ, *])) (Fl.cons rfl rfl (by simp only [aS]) (Laid.fE 6 (by simp [aI, aQ, *])) (Fl.cons rfl rfl (by simp only [aS]) (Laid.fE 7 (by simp [aI, aQ, *])) Fl.nil)))))))))) rfl) rfl ?_
   refine WL.mv rfl rfl (WL.nil (WE.block ?_))
   refine WE.loop (α := Nat) (rg [(22, 2), (178, 14)]) (fun i => [(178, .int .i64 i)]) (fun i wl => i ≤ 8 ∧ St X w wl [aP.blk b 266 (kw (lV s (iJ (sched la 48) s 64) i))] [aP.blk b4 301 (kw (win (sched la 48) (64)))] [bJ a la, aZ]) (fun i => 8 - i) 0 ⟨rfl, trivial⟩ ⟨Nat.zero_le _, by rw [yX _ _ hs]; exact H⟩ ?_
   intro i γ3 w25 hI
   try dsimp only at hI
   obtain ⟨hi, H⟩ := hI
   refine WE.aA (WL.pv (PV.lss rfl rfl rfl) rfl (WL.nil (WE.seq ?_)))
   refine WE.cond rfl (fun SZ => ?_) (fun SZ => ?_)
   ·
    try simp only [bW] at SZ
    have hlt : i < 8 := by omega
    refine WE.skip (WE.seq (WE.block (WE.aA (WL.mv rfl rfl ?_))))
    refine WL.pv (PV.IX (l := kw (iJ (sched la 48) s 64)) rfl gA c7 dS rfl rfl (by omega) (aCc _ i (by rw [lB _ s hs]; exact hlt))) rfl ?_
    refine WL.as rfl rfl (WL.as rfl rfl (WL.nil ?_))
    refine WE.draw (.take 0 (.take 1 (.take 2 (.take 3 (.take 4 (.take 5 (.take 6 (.take 7 (.take 8 (.aG 9 .done)))))))))) mixed (by kernel_rfl) ?_
    replace H := H.out (Out.drew _)
    refine WP.mv rfl rfl rfl (WP.mv rfl rfl rfl (WP.aC rfl rfl (PV.nilCheck rfl rfl) (WP.aC rfl rfl (PV.bF rfl pM c7 rfl rfl (by omega) (by omega)) ?_)))
    refine WP.aM rfl rfl (RV.aV rfl dS rfl) (aN.aF (H.o 0 rfl) (aK.word i (by rw [fJ]; exact hlt)) (by simp)) ?_
    refine WP.mv rfl rfl rfl (WP.aC rfl rfl (PV.hZ rfl rfl rfl) (WP.aC rfl rfl (PV.nilCheck rfl rfl) (WP.aC rfl rfl (PV.bF rfl pM c7 rfl rfl (by omega) (by omega)) (WP.aG rfl ?_))))
    refine WL.lH H 0 rfl rfl rfl (new := _) rfl (by exact c7) (bA _ rfl) (Laid.at (Laid.fE i (by rw [fJ]; exact hlt)) (by simp)) rfl ?_
    intro w26 H
    refine WL.nil ⟨(fa (nw 9 4) c5), ?_⟩
    refine WP.done (WE.dY (WL.pv (PV.bT rfl rfl rfl (by omega) (by omega)) rfl (WL.mv rfl rfl (WL.nil ?_))))
    have e := BV s (iJ (sched la 48) s 64) i hs (lB _ s hs 64) hlt
    exact ⟨i + 1, (by repeat (first | with_reducible exact bM.refl _ _ | refine bM.dD rfl ?_ | refine bM.bY rfl ?_ | refine bM.bV rfl ?_)), ⟨rfl, trivial⟩, rfl, ⟨by omega, by rw [← e]; exact H⟩, (by omega)⟩
   ·
    try simp only [bW] at SZ
    obtain rfl : i = 8 := by omega
    refine WE.exit ?_
    refine ⟨[], _, .nil _, trivial, ?_⟩
    exact ⟨rfl, H.cR, H.o 0 rfl⟩
def aCX (v : Value) (i : Nat) (xs : List Value) (_ : World) : Prop := xs = [nE v 1 (64 * i) (64 * i + 64)]
theorem J7 {C : Nat → Prop} {w : World} {bs bn n : Nat} {v : Value} {l : List UInt8} (hC : ∀ b, C b → b < w.heap.size) (bU : aJ C (bJ v l) w) (dI : aJ C (fun w => dA w ⟨bs, 0, none⟩ [v]) w) (fU : aJ C (fun w => dA w ⟨bn, 0, none⟩ [.int .i64 64]) w) (hl : l.length = 64 * n) (hlm : l.length ≤ 2000000000) : U9 prog 193 [] [.pointer (some ⟨bs, 0, none⟩), .pointer (some ⟨bn, 0, none⟩)] (n) (aCX v) Nil C w := by
 intro f J Jx hst j3 NO iH hf
 show bC prog 193 ([f, .pointer (some ⟨bs, 0, none⟩), .pointer (some ⟨bn, 0, none⟩)] : List Value).toArray w _
 refine bC.aH (N := 31) func193 rfl rfl (by simp) ?_
 have H := (((St.begin (X := C) hC).add (cE fU)).add (cE dI)).add (cE bU)
 refine WE.aA (WL.as rfl rfl (WL.nil (WE.block ?_)))
 refine WE.loop (α := Nat) (rg [(4, 27)]) (fun k => [(4, .int .i64 ((64 * k : Nat) : Int))]) (fun k wl => k ≤ n ∧ J Nil k wl ∧ St C wl wl [] [] [bJ v l, fun w => dA w ⟨bs, 0, none⟩ [v], fun w => dA w ⟨bn, 0, none⟩ [.int .i64 64]]) (fun k => n - k) 0 ⟨rfl, trivial⟩ ⟨Nat.zero_le _, hst Nil w (Out.refl _ _) (fun _ h => h.elim) (fun _ h => h), H⟩ ?_
 intro k γ0 w1 hI
 try dsimp only at hI
 obtain ⟨PI, hJ, H⟩ := hI
 have CN : ∃ HI, HI = w1 := ⟨_, rfl⟩
 obtain ⟨HI, CN⟩ := CN
 rw [← CN] at hJ H ⊢
 clear CN
 refine WE.seq (WE.aA (WL.mv rfl rfl (WL.aY rfl eU rfl rfl (H.p 1 rfl) (WL.pv (PV.dR (H.p 0 rfl) eM rfl) rfl (WL.pv (PV.lss rfl rfl rfl) rfl (WL.nil ?_))))))
 refine WE.cond rfl (fun uN => ?_) (fun uN => ?_)
 ·
  try simp only [bW] at uN
  have hlt : k < n := by omega
  refine WE.skip (WE.seq (WE.block ?_))
  refine WE.bH (.take 0 (.take 1 (.take 2 (.take 3 (.take 4 (.take 5 (.take 6 .done))))))) mixed (by kernel_rfl) ?_
  replace H := H.out (Out.drew _)
  refine WP.aM rfl rfl (RV.aV rfl pR rfl) (H.p 2 rfl) (WP.aM rfl rfl (RV.aV rfl eU rfl) (H.p 1 rfl) (WP.mv rfl rfl rfl ?_))
  refine WP.aC rfl rfl (PV.eq (v' := jJ v 1 (64 * k) l.length) (PV.qZ rfl (H.p 0 rfl) eM gO rfl rfl (by omega) (by omega)) (by congr 1)) ?_
  refine WP.aC rfl rfl (PV.eq (v' := .int .i64 ((l.length - 64 * k : Nat) : Int)) (PV.dR (bJ.sub (lo := 64 * k) (hi := l.length) (H.p 0 rfl) (by omega) (Nat.le_refl _)) eM rfl) (by simp)) ?_
  refine WP.aC rfl rfl (PV.eq (v' := .int .i64 64) (PV.aCa rfl rfl) (by congr 1; omega)) ?_
  refine WP.as rfl rfl rfl (WP.done (WE.aA (WL.mv rfl rfl (WL.aY rfl eU rfl rfl (H.p 1 rfl) (WL.mv rfl rfl (WL.mv rfl rfl (WL.mv rfl rfl ?_)))))))
  refine WL.pv (PV.bT rfl rfl rfl (by omega) (by omega)) rfl (WL.mv rfl rfl (WL.mv rfl rfl (WL.pv (PV.bT rfl rfl rfl (by omega) (by omega)) rfl ?_)))
  refine WL.pv (PV.eq (v' := nE v 1 (64 * k) (64 * k + 64)) (PV.aBN rfl (H.p 0 rfl) eM gO rfl rfl rfl rfl (by omega) (by omega)) (by congr 1)) rfl ?_
  refine WL.iW rfl rfl (iH Nil k _ HI _ (by omega) hJ H.aL (aJ.pure rfl)) ?_
  rintro _ w2 ⟨hk, ⟨rfl, hJ⟩ | ⟨rfl, hJ⟩⟩
  ·
   replace H := St.JU (Ps := [bJ v l, fun w => dA w ⟨bs, 0, none⟩ [v], fun w => dA w ⟨bn, 0, none⟩ [.int .i64 64]]) hC hk (fun _ h => h.elim) (by intro p hp; simp at hp; rcases hp with rfl | rfl | rfl <;> assumption)
   refine WL.pv (PV.not rfl rfl) rfl (WL.nil (WE.jB rfl (WE.skip (WE.dY (WL.mv rfl rfl (WL.aY rfl pR rfl rfl (H.p 2 rfl) (WL.pv (PV.bT rfl rfl rfl (by omega) (by omega)) rfl ?_)))))))
   refine WL.as rfl rfl (WL.nil ?_)
   exact ⟨k + 1, (by repeat (first | with_reducible exact bM.refl _ _ | refine bM.dD rfl ?_ | refine bM.bY rfl ?_ | refine bM.bV rfl ?_)), ⟨rfl, trivial⟩, rfl, ⟨by omega, hJ, H⟩, (by omega)⟩
  ·
   refine WL.pv (PV.not rfl rfl) rfl (WL.nil (WE.lN rfl (WE.ret ?_)))
   refine ⟨[], _, .nil _, trivial, ?_⟩
   exact ⟨rfl, Nil, .inr hJ⟩
 ·
  try simp only [bW] at uN
  obtain rfl : k = n := by omega
  refine WE.exit ?_
  refine ⟨[], _, .nil _, trivial, ?_⟩
  exact ⟨rfl, Nil, .inl (j3 _ _ _ _ hJ H.aL)⟩
theorem aAg {X : Nat → Prop} {w : World} {v : Value} {l : List UInt8} (hX : cY X w) (bU : aJ X (bJ v l) w) :
  bC prog 161 [v, .int .i64 64].toArray w fun r w' => ∃ bs bn, r = .func (.func 193) [].toArray [.pointer (some ⟨bs, 0, none⟩), .pointer (some ⟨bn, 0, none⟩)].toArray ∧ Out Nil w w' ∧ aJ X (fun w => dA w ⟨bs, 0, none⟩ [v]) w' ∧ aJ X (fun w => dA w ⟨bn, 0, none⟩ [.int .i64 64]) w' := by
 refine bC.aH (N := 9) func161 rfl rfl (by simp) ?_
 have H := (St.begin hX).add (cE bU)
 refine WE.aA ?_
 refine WL.box (l := [v]) H rfl (by exact cN.cells (H.p 0 rfl)) rfl ?_
 intro b2 w1 H
 refine WL.box (l := _) H rfl rfl rfl ?_
 intro b3 w2 H
 refine WL.as rfl rfl (WL.nil (WE.seq (WE.aA (WL.aY rfl pR rfl rfl (aN.aF (H.l 0 rfl) (aK.all _) rfl) (WL.pv (PV.lss rfl rfl rfl) rfl (WL.nil ?_))))))
 refine WE.bD rfl (by decide) ?_
 refine WE.skip (WE.aA (WL.pv (PV.makeFunc rfl) rfl (WL.as rfl rfl (WL.nil (WE.ret ⟨[_], _, .nil _, ⟨rfl, trivial⟩, ?_⟩)))))
 replace H := (H.freeze (i := 0) rfl).freeze (i := 0) rfl
 exact ⟨b2, b3, rfl, H.aL, H.gF ((H.bK 0 rfl).imp fun _ h => h.rd), H.gF ((H.bK 1 rfl).imp fun _ h => h.rd)⟩
theorem aHQ {X : Nat → Prop} {w : World} {a : Value} {la : List UInt8} (hX : cY X w) (bU : aJ X (bJ a la) w) (dI : aJ X (aZ) w) (rR : la.length ≤ 1000000000) :
  bC prog 109 [a].toArray w fun v w' => v = .agg (kc (cX la)).toArray ∧ Out Nil w w' := by
 refine bC.aH (N := 34) func109 rfl rfl (by simp) ?_
 have H := ((St.begin hX).add (cE dI)).add (cE bU)
 have aIR := ER la
 have vS := lW la
 have aCh : zc la.length < 64 := by unfold zc; omega
 refine WE.aA ?_
 refine WL.alloc H rfl k6 rfl ?_
 intro b2 w1 H
 refine WL.nil (WE.aA ?_)
 refine WL.call aGD rfl (WZ  H.aR  ) ?_
 rintro _ w2 ⟨rfl, hO⟩
 replace H := H.out hO
 refine WL.alloc H rfl PN rfl ?_
 intro b3 w3 H
 refine WL.aW H 0 rfl rfl rfl (new := _) rfl (by exact QH) (uK _) (Laid.at (Laid.all (by simp only [aS])) rfl) rfl ?_
 intro w4 H
 refine WL.nil (WE.aA ?_)
 refine WL.pv (PV.eq (v' := .func (.func 160) [.pointer (some ⟨b3, 0, none⟩)].toArray [].toArray) (PV.makeFunc rfl) rfl) rfl ?_
 refine WL.alloc H rfl aDL rfl ?_
 intro b4 w5 H
 refine WL.aW H 0 rfl rfl rfl (new := _) rfl (by exact aD2) (bA _ rfl) (Laid.at (Laid.all (by simp only [aS])) rfl) rfl ?_
 intro w6 H
 refine WL.nil (WE.seq (WE.aA (WL.mv rfl rfl ?_)))
 refine WL.call aGA rfl (aHS (la := la) H.aR (H.bK 0 rfl) rR) ?_
 rintro v11 w7 ⟨hO, hR⟩
 replace H := (H.out hO).add hR
 refine WL.call aGB rfl (aAg  H.aR (by exact H.bK 0 rfl) ) ?_
 rintro _ w8 ⟨bs, bn, rfl, hO, NX, G8⟩
 replace H := ((H.out hO).add G8).add NX
 refine WL.nil (WE.block ?_)
 replace H := H.wD
 refine WE.xF (α := Unit) (fun i _ => True) (fun i _ => []) (fun i _ => [aP.blk b4 268 [.func (.func 160) [.pointer (some ⟨b3, 0, none⟩)].toArray [].toArray], aP.blk b3 266 (kw (fZ (cQ la) i)), aP.blk b2 30 (kc (List.replicate 32 0))]) (fun i _ => [fun w => dA w ⟨bs, 0, none⟩ [v11], fun w => dA w ⟨bn, 0, none⟩ [.int .i64 64], bJ v11 (cQ la), bJ a la, aZ]) (fun _ _ => False) (fun _ _ => []) (fun _ _ => []) (fun _ _ => []) () H rfl aGo (fun W0 hO => J7 (n := (cQ la).length / 64) (H.UF hO) (H.rZ hO 2 rfl) (H.rZ hO 0 rfl) (H.rZ hO 1 rfl) (by omega) (by omega)) (by intro _ _ _ h; rw [h]; rfl) ⟨trivial, rfl, rfl, rfl⟩ ?_ ?_ ?_
 ·
  intro i _ xs_ l_ d_ o_ T_ sc_ w9 jI tC NW
  obtain rfl := NW
  refine WE.dY (WL.as rfl rfl (WL.nil ?_))
  refine ⟨rfl, rfl, rfl, ?_⟩
  intro tM H
  refine WE.block (WE.dY (WL.aY rfl aHG rfl rfl (aN.aF (H.l 0 rfl) (aK.all _) rfl) (WL.mv rfl rfl ?_)))
  refine WL.rD aGC rfl rfl (aBH (b := b3) (s := fZ (cQ la) i) (la := ((cQ la).drop (64 * i)).take (64 * i + 64 - 64 * i)) H.aR (H.l 1 rfl) ((H.gM 1 rfl 3 rfl).imp fun _ h => bJ.MY h (by omega) (by omega)) (H.gM 1 rfl 5 rfl) (by simp; omega) (oW _ _)) ?_
  rintro _ wT ⟨rfl, hO, hB⟩
  replace H := H.called 1 rfl hO hB
  refine WL.nil ?_
  replace H := H.conv (L' := [aP.blk b4 268 [.func (.func 160) [.pointer (some ⟨b3, 0, none⟩)].toArray [].toArray], aP.blk b3 266 (kw (fZ (cQ la) (i + 1))), aP.blk b2 30 (kc (List.replicate 32 0)), aP.obj l_ o_, aP.obj d_ (.deferred (some [])), aP.sn T_ tM]) (by rw [show 64 * i + 64 - 64 * i = 64 by omega]; rfl)
  replace H := H.drop (fun p hp => List.mem_cons_of_mem _ hp)
  exact ⟨(), trivial, H⟩
 ·
  intro _ T3 G2 tC H
  refine WE.aA ?_
  refine WL.alloc H rfl k6 rfl ?_
  intro b6 D4 H
  refine WL.nil (WE.seq (WE.aA (WL.mv rfl rfl (WL.nil (WE.block ?_)))))
  have hS := oW (cQ la) ((cQ la).length / 64)
  refine WE.loop (α := Nat) (rg [(7, 1), (17, 16)]) (fun k => [(17, .int .i64 k)]) (fun k wl => k ≤ 32 ∧ St X w wl [] [aP.blk b6 30 (kc (qD 32 k (nX (fZ (cQ la) ((cQ la).length / 64))))), aP.obj T3 (.deferred (some [])), aP.blk b4 268 [.func (.func 160) [.pointer (some ⟨b3, 0, none⟩)].toArray [].toArray], aP.blk b3 266 (kw (fZ (cQ la) ((cQ la).length / 64))), aP.blk b2 30 (kc (List.replicate 32 0))] [fun w => dA w ⟨bs, 0, none⟩ [v11], fun w => dA w ⟨bn, 0, none⟩ [.int .i64 64], bJ v11 (cQ la), bJ a la, aZ]) (fun k => 32 - k) 0 ⟨rfl, trivial⟩ ⟨Nat.zero_le _, by rw [yD]; exact H⟩ ?_
  intro k γ0 KG hI
  try dsimp only at hI
  obtain ⟨hi, H⟩ := hI
  refine WE.aA (WL.pv (PV.lss rfl rfl rfl) rfl (WL.nil (WE.seq ?_)))
  refine WE.cond rfl (fun oB => ?_) (fun oB => ?_)
  ·
   try simp only [bW] at oB
   have I3 : k < 32 := by omega
   refine WE.skip (WE.seq (WE.block (WE.aA (WL.mv rfl rfl (WL.as rfl rfl (WL.nil (WE.dY ?_)))))))
   refine WL.mv rfl rfl (WL.mv rfl rfl ?_)
   refine WL.pv (PV.eq (v' := .int .i64 ((k / 4 : Nat) : Int)) (PV.p6 rfl rfl rfl (by omega) (by omega) (by omega)) rfl) rfl ?_
   refine WL.pv (PV.bF rfl pM c7 rfl rfl (by omega) (by omega)) rfl ?_
   refine WL.aY rfl dS rfl rfl (aN.aF (H.l 3 rfl) (aK.word (k / 4) (by rw [hS]; omega)) (by omega)) ?_
   refine WL.mv rfl rfl (WL.pv (PV.eq (v' := .int .i64 ((k % 4 : Nat) : Int)) (PV.p5 rfl rfl rfl (by omega) (by omega)) rfl) rfl ?_)
   refine WL.pv (PV.eq (v' := .int .i64 ((8 * (k % 4) : Nat) : Int)) (PV.mA rfl rfl rfl (by omega) (by omega)) rfl) rfl ?_
   refine WL.pv (PV.eq (v' := .int .i64 ((24 - 8 * (k % 4) : Nat) : Int)) (PV.gC rfl rfl rfl (by omega) (by omega)) (by (congr 1; omega))) rfl ?_
   refine WL.pv (PV.u9 (n := 24 - 8 * (k % 4)) rfl rfl rfl (by omega)) rfl (WL.pv (PV.aBl rfl vE mC rfl) rfl (WL.pv (PV.bF rfl oL gO rfl rfl (by omega) (by omega)) rfl ?_))
   refine WL.aW H 0 rfl rfl rfl (new := _) rfl (by exact gO) (bA _ rfl) (Laid.at (Laid.tI k (by rw [tE (by omega) (by rw [jF]; omega)]; omega)) (by simp)) rfl ?_
   intro PD H
   refine WL.nil (WE.dY (WL.pv (PV.bT rfl rfl rfl (by omega) (by omega)) rfl (WL.mv rfl rfl (WL.nil ?_))))
   have e := A9 (m := 32) (k := k) (l := nX (fZ (cQ la) ((cQ la).length / 64))) (by omega) (by rw [jF]; omega)
   rw [AQ _ _ _ (by rw [hS]; omega)] at e
   exact ⟨k + 1, (by repeat (first | with_reducible exact bM.refl _ _ | refine bM.dD rfl ?_ | refine bM.bY rfl ?_ | refine bM.bV rfl ?_)), ⟨rfl, trivial⟩, rfl, ⟨by omega, H.conv (by rw [← e]; rfl)⟩, (by omega)⟩
  ·
   try simp only [bW] at oB
   obtain rfl : k = 32 := by omega
   refine WE.exit (WE.aA ?_)
   have e32 := BA (m := 32) (l := nX (fZ (cQ la) ((cQ la).length / 64))) (jF _)
   rw [e32] at H
   refine WL.bE rfl fO rfl rfl (aN.aF (H.l 0 rfl) (aK.all _) rfl) (by exact c9) ?_
   refine WL.aW H 4 rfl rfl rfl (new := _) rfl (by exact c9) (bG _) (Laid.at (Laid.all rfl) rfl) rfl ?_
   intro P7 H
   refine WL.nil (WE.ret ?_)
   (obtain ⟨P6, uL, H⟩ := H.tY 1 rfl)
   refine ⟨[_], _, (uL _ (.nil _)), ⟨⟨_, rfl, aU fO (aN.aF (H.l 3 rfl) (aK.all _) rfl) (by exact c9)⟩, trivial⟩, ?_⟩
   exact ⟨rfl, H.aL⟩
 ·
  intro e_ _ T3 P5 PJ tC H
  exact tC.elim
def iU (x : UInt8) (k : Nat) : UInt8 := UInt8.ofNat (x.toNat / 2 ^ (8 - k) * 2 ^ (8 - k))
def gT (j q : Nat) : Nat := min (j - 8 * q) 8
def kJ (l : List UInt8) (j : Nat) : List UInt8 := (List.range 32).map fun q => iU (l.getD q 0) (gT j q)
def gN (b : Int) : Nat := (min (max b 0) 256).toNat
def eB (l : List UInt8) (b : Int) : List UInt8 := kJ l (gN b)
theorem cF (l : List UInt8) (j : Nat) : (kJ l j).length = 32 := by simp [kJ]
theorem cA (l : List UInt8) (b : Int) : (eB l b).length = 32 := cF _ _
theorem mF (l : List UInt8) (j q : Nat) (h : q < (kJ l j).length) : (kJ l j)[q] = iU (l.getD q 0) (gT j q) := by simp [kJ]
theorem BI (l : List UInt8) (j q : Nat) (h : q < 32) : (kJ l j).getD q 0 = iU (l.getD q 0) (gT j q) := by
 rw [e9 (by rw [cF]; exact h), mF]
theorem iQ (x : UInt8) (k : Nat) : (iU x k).toNat = x.toNat / 2 ^ (8 - k) * 2 ^ (8 - k) := by
 have h := Nat.div_mul_le_self x.toNat (2 ^ (8 - k))
 have := x.toNat_lt
 simp [iU]; omega
theorem OE (x : UInt8) : iU x 8 = x := by simp [iU]
theorem OD (l : List UInt8) (hl : l.length = 32) : kJ l 256 = l := by
 apply List.ext_getElem
 ·
  rw [cF, hl]
 ·
  intro i h1 h2
  rw [mF, show gT 256 i = 8 by unfold gT; omega, OE, e9 h2]
theorem ZF (l : List UInt8) (j i : Nat) (hi : i < 32) (hl : l.length = 32) : ((List.range 32).map fun q => if q < i then iU (l.getD q 0) (gT j q) else l.getD q 0).set i (iU (l.getD i 0) (gT j i)) = (List.range 32).map fun q => if q < i + 1 then iU (l.getD q 0) (gT j q) else l.getD q 0 := by
 apply List.ext_getElem
 ·
  simp
 ·
  intro q h1 h2
  simp at h2
  rw [List.getElem_set]
  split
  ·
   rename_i h; subst h; simp
  ·
   rename_i h
   simp only [List.getElem_map, List.getElem_range]
   by_cases h3 : q < i
   ·
    rw [if_pos h3, if_pos (by omega)]
   ·
    rw [if_neg h3, if_neg (by omega)]
def jR (l : List UInt8) (j i : Nat) : List UInt8 := (List.range 32).map fun q => if q < i then iU (l.getD q 0) (gT j q) else l.getD q 0
theorem cG (l : List UInt8) (j i : Nat) : (jR l j i).length = 32 := by simp [jR]
theorem DB (l : List UInt8) (j : Nat) (hl : l.length = 32) : jR l j 0 = l := by
 apply List.ext_getElem
 ·
  rw [cG, hl]
 ·
  intro q h1 h2; simp [jR, h2]
theorem F2 (l : List UInt8) (j : Nat) : jR l j 32 = kJ l j := by
 unfold jR kJ
 apply List.map_congr_left
 intro q hq
 rw [if_pos (by simpa using hq)]
theorem F1 (l : List UInt8) (j i : Nat) (hi : i < (jR l j i).length) : (jR l j i)[i] = l.getD i 0 := by simp [jR]
theorem OS : ∀ k : Fin 9, ∀ x : Fin 256, IntKind.u8.wrap ((BitVec.ofInt IntKind.u8.bits (x.val : Int) &&& BitVec.ofInt IntKind.u8.bits (IntKind.u8.wrap (255 * 2 ^ (min ((8 : Int) - (k.val : Int)).toNat IntKind.u8.bits)))).toNat) = ((x.val / 2 ^ (8 - k.val) * 2 ^ (8 - k.val) : Nat) : Int) := by decide +kernel
theorem UX (x : UInt8) (k : Nat) (hk : k ≤ 8) (z : Int) (hz : z = 8 - (k : Int)) : IntKind.u8.wrap ((BitVec.ofInt IntKind.u8.bits (x.toNat : Int) &&& BitVec.ofInt IntKind.u8.bits (IntKind.u8.wrap (255 * 2 ^ (min z.toNat IntKind.u8.bits)))).toNat) = ((iU x k).toNat : Int) := by
 subst hz
 rw [iQ]
 exact OS ⟨k, by omega⟩ ⟨x.toNat, x.toNat_lt⟩
def bI (l : List UInt8) (i : Nat) : Nat := (l.getD (i / 8) 0).toNat / 2 ^ (7 - i % 8) % 2
def zZ (l : List UInt8) (i : Int) : Int := if i < 0 ∨ 255 < i then -1 else (bI l i.toNat : Int)
theorem aFi (b t : Nat) : ((b / 2 ^ t : Nat) : Int) / 2 = ((b / 2 ^ (t + 1) : Nat) : Int) := by
 rw [Nat.pow_succ, ← Nat.div_div_eq_div_mul]; omega
def jK (l : List UInt8) (i : Nat) : List UInt8 := l.set (i / 8) (if bI l i = 0 then UInt8.ofNat ((l.getD (i / 8) 0).toNat + 2 ^ (7 - i % 8)) else UInt8.ofNat ((l.getD (i / 8) 0).toNat - 2 ^ (7 - i % 8)))
theorem dX (l : List UInt8) (i : Nat) : bI l i < 2 := Nat.mod_lt _ (by decide)
theorem T4 : ∀ r : Fin 8, ∀ x : Fin 256, (x.val / 2 ^ (7 - r.val) * 2 ^ (7 - r.val)) / 2 ^ (7 - r.val) % 2 = 1 → 2 ^ (7 - r.val) ≤ x.val / 2 ^ (7 - r.val) * 2 ^ (7 - r.val) ∧ x.val / 2 ^ (7 - r.val) * 2 ^ (7 - r.val) - 2 ^ (7 - r.val) = x.val / 2 ^ (8 - r.val) * 2 ^ (8 - r.val) := by decide +kernel
theorem OC : ∀ r : Fin 8, ∀ x : Fin 256, (x.val / 2 ^ (7 - r.val) * 2 ^ (7 - r.val)) / 2 ^ (7 - r.val) % 2 = 0 → x.val / 2 ^ (7 - r.val) * 2 ^ (7 - r.val) = x.val / 2 ^ (8 - r.val) * 2 ^ (8 - r.val) := by decide +kernel
theorem GG (l : List UInt8) (j : Nat) (hj : j < 256) : bI (kJ l (j + 1)) j = ((l.getD (j / 8) 0).toNat / 2 ^ (7 - j % 8) * 2 ^ (7 - j % 8)) / 2 ^ (7 - j % 8) % 2 := by
 unfold bI
 rw [BI _ _ _ (by omega), iQ, show 8 - gT (j + 1) (j / 8) = 7 - j % 8 by unfold gT; omega]
theorem BH (l : List UInt8) (j q : Nat) (hq : q ≠ j / 8) : gT (j + 1) q = gT j q := by unfold gT; omega
theorem OB (l : List UInt8) (j : Nat) (hj : j < 256) (h : bI (kJ l (j + 1)) j ≠ 1) : kJ l (j + 1) = kJ l j := by
 have h0 : bI (kJ l (j + 1)) j = 0 := by have := dX (kJ l (j + 1)) j; omega
 rw [GG _ _ hj] at h0
 have h1 := OC ⟨j % 8, by omega⟩ ⟨(l.getD (j / 8) 0).toNat, UInt8.toNat_lt _⟩ h0
 apply List.ext_getElem
 ·
  rw [cF, cF]
 ·
  intro q h2 h3
  rw [mF, mF]
  by_cases hq : q = j / 8
  ·
   subst hq
   apply UInt8.toNat_inj.1
   rw [iQ, iQ, show 8 - gT (j + 1) (j / 8) = 7 - j % 8 by unfold gT; omega, show 8 - gT j (j / 8) = 8 - j % 8 by unfold gT; omega]
   exact h1
  ·
   rw [BH l j q hq]
theorem OA (l : List UInt8) (j : Nat) (hj : j < 256) (h : bI (kJ l (j + 1)) j = 1) : jK (kJ l (j + 1)) j = kJ l j := by
 have h0 := h
 rw [GG _ _ hj] at h0
 have hh := T4 ⟨j % 8, by omega⟩ ⟨(l.getD (j / 8) 0).toNat, UInt8.toNat_lt _⟩ h0
 dsimp only at hh
 obtain ⟨h1a, h1⟩ := hh
 unfold jK
 rw [if_neg (by omega)]
 apply List.ext_getElem
 ·
  simp [cF]
 ·
  intro q h2 h3
  rw [cF] at h3
  rw [List.getElem_set]
  split
  ·
   rename_i hq
   subst hq
   rw [mF]
   apply UInt8.toNat_inj.1
   rw [iQ, show 8 - gT j (j / 8) = 8 - j % 8 by unfold gT; omega, BI _ _ _ (by omega)]
   have e : (iU (l.getD (j / 8) 0) (gT (j + 1) (j / 8))).toNat = (l.getD (j / 8) 0).toNat / 2 ^ (7 - j % 8) * 2 ^ (7 - j % 8) := by
    rw [iQ, show 8 - gT (j + 1) (j / 8) = 7 - j % 8 by unfold gT; omega]
   rw [e]
   rw [h1]
   have h4 := Nat.div_mul_le_self (l.getD (j / 8) 0).toNat (2 ^ (8 - j % 8))
   have h5 := (l.getD (j / 8) 0).toNat_lt
   simp only [UInt8.toNat_ofNat']
   exact Nat.mod_eq_of_lt (Nat.lt_of_le_of_lt h4 h5)
  ·
   rename_i hq
   rw [mF, mF, BH l j q (fun h => hq h.symm)]
theorem aN.JL {w : World} {b o : Nat} {t : TypeId} {l : List UInt8} (h : aN w b t (kc l)) (i : Nat) (hi : i < l.length) (ho : o = i) : dA w ⟨b, o, none⟩ [.int .u8 ((l.getD i 0).toNat : Int)] := by
 have h1 := aN.aF h (aK.byte i hi) ho
 rwa [← e9 (d := 0)] at h1
def fQ (bh bc : Nat) (bits : Int) (w : World) : Prop := dA w ⟨bh, 0, none⟩ [.pointer (some ⟨bc, 0, none⟩), .int .i64 bits]
theorem xE {X : Nat → Prop} {w : World} {l : List UInt8} {i : Int} (hX : cY X w) (hl : l.length = 32) (hi : -9223372036854775808 ≤ i ∧ i ≤ 9223372036854775807) :
  bC prog 107 [.agg (kc l).toArray, .int .i64 i].toArray w fun v w' => v = .int .i64 (zZ l i) ∧ Out Nil w w' := by
 refine bC.aH (N := 28) func107 rfl rfl (by simp) ?_
 have H := St.begin hX
 refine WE.aA ?_
 refine WL.box (l := kc l) H rfl rfl rfl ?_
 intro b2 w1 H
 refine WL.as rfl rfl (WL.nil (WE.seq (WE.aA (WL.mv rfl rfl (WL.pv (PV.lss rfl rfl rfl) rfl (WL.mv rfl rfl ?_))))))
 refine WL.split (t := 9) rfl (fun hg9 => ?_) (fun hg9 => ?_)
 ·
  refine WL.known (t := 8) (c := true) rfl hg9 ?_
  try simp only [bW] at hg9
  refine WL.off rfl (WL.off rfl (WL.pv (PV.dP rfl rfl rfl) rfl (WL.nil (WE.lN rfl (WE.aA (WL.as rfl rfl (WL.nil ?_)))))))
  refine WE.ret ⟨[_], _, .nil _, ⟨rfl, trivial⟩, ?_⟩
  refine ⟨?_, H.aL⟩
  rw [zZ, if_pos (by omega)]; rfl
 ·
  refine WL.known (t := 8) (c := false) rfl hg9 ?_
  try simp only [bW] at hg9
  refine WL.mv rfl rfl (WL.pv (PV.gtr rfl rfl rfl) rfl (WL.pv (PV.dF rfl rfl rfl) rfl (WL.nil ?_)))
  refine WE.cond rfl (fun lJ => ?_) (fun lJ => ?_)
  ·
   try simp only [bW] at lJ
   refine WE.aA (WL.as rfl rfl (WL.nil (WE.ret ⟨[_], _, .nil _, ⟨rfl, trivial⟩, ?_⟩)))
   refine ⟨?_, H.aL⟩
   rw [zZ, if_pos (by omega)]; rfl
  ·
   try simp only [bW] at lJ
   obtain ⟨n, rfl⟩ : ∃ n : Nat, i = (n : Int) := ⟨i.toNat, by omega⟩
   have hn : n < 256 := by omega
   have hx := (l.getD (n / 8) 0).toNat_lt
   refine WE.skip (WE.aA (WL.mv rfl rfl (WL.pv (PV.p6 rfl rfl rfl (by omega) (by omega) (by omega)) rfl (WL.pv (PV.bF rfl gZ gO rfl rfl (by omega) (by omega)) rfl (WL.aY rfl u3 rfl rfl (aN.JL (H.l 0 rfl) (n / 8) (by omega) (by omega)) (WL.pv (PV.lM rfl mC sZ rfl (by omega) (by omega)) rfl (WL.as rfl rfl ?_)))))))
   refine WL.nil (WE.seq (WE.aA (WL.mv rfl rfl (WL.pv (PV.p5 rfl rfl rfl (by omega) (by omega)) rfl (WL.as rfl rfl (WL.nil (WE.block ?_)))))))
   refine WE.loop (α := Nat) (rg [(5, 2), (20, 6)]) (fun j => [(6, .int .i64 j), (5, .int .i64 (((l.getD (n / 8) 0).toNat / 2 ^ (j - n % 8) : Nat) : Int))]) (fun j wl => n % 8 ≤ j ∧ j ≤ 7 ∧ St X w wl [] [aP.blk b2 24 (kc l)] []) (fun j => 7 - j) (n % 8) ⟨rfl, by show Value.int .i64 _ = _; rw [Nat.sub_self, Nat.pow_zero, Nat.div_one], trivial⟩ ⟨Nat.le_refl _, by omega, H⟩ ?_
   intro j γ0 w2 hI
   try dsimp only at hI
   obtain ⟨hj0, hj7, H⟩ := hI
   refine WE.seq (WE.aA (WL.mv rfl rfl (WL.pv (PV.lss rfl rfl rfl) rfl (WL.nil ?_))))
   refine WE.cond rfl (fun pB => ?_) (fun pB => ?_)
   ·
    try simp only [bW] at pB
    have hlt : j < 7 := by omega
    refine WE.skip (WE.seq (WE.block (WE.dY (WL.mv rfl rfl ?_))))
    refine WL.pv (PV.eq (v' := .int .i64 (((l.getD (n / 8) 0).toNat / 2 ^ (j + 1 - n % 8) : Nat) : Int)) (PV.p6 rfl rfl rfl (by generalize (l.getD (n / 8) 0).toNat / 2 ^ (j - n % 8) = Q; omega) (by have h2 := Nat.div_le_self (l.getD (n / 8) 0).toNat (2 ^ (j - n % 8)); generalize (l.getD (n / 8) 0).toNat / 2 ^ (j - n % 8) = Q at *; omega) (by omega)) (by rw [aFi, show j + 1 - n % 8 = (j - n % 8) + 1 by omega])) rfl ?_
    refine WL.as rfl rfl (WL.nil (WE.dY (WL.mv rfl rfl (WL.pv (PV.bT rfl rfl rfl (by omega) (by omega)) rfl (WL.as rfl rfl (WL.nil ?_))))))
    exact ⟨j + 1, (by repeat (first | with_reducible exact bM.refl _ _ | refine bM.dD rfl ?_ | refine bM.bY rfl ?_ | refine bM.bV rfl ?_)), ⟨rfl, rfl, trivial⟩, rfl, ⟨by omega, by omega, H⟩, (by omega)⟩
   ·
    try simp only [bW] at pB
    obtain rfl : j = 7 := by omega
    refine WE.exit (WE.aA (WL.mv rfl rfl (WL.pv (PV.aEo rfl rfl rfl (by omega)) rfl (WL.as rfl rfl (WL.nil (WE.ret ⟨[_], _, .nil _, ⟨rfl, trivial⟩, ?_⟩))))))
    refine ⟨?_, H.aL⟩
    rw [zZ, if_neg (by omega)]
    show Value.int .i64 _ = _
    rw [Int.toNat_natCast]; rfl
theorem KH {X : Nat → Prop} {w : World} {n : Nat} (hX : cY X w) (hn : n < 256) :
  bC prog 204 [.int .i64 (n : Int)].toArray w fun v w' => v = .int .i64 ((2 ^ (7 - n % 8) : Nat) : Int) ∧ Out Nil w w' := by
 refine bC.aH (N := 14) func204 rfl rfl (by simp) ?_
 have H := St.begin hX
 refine WE.aA (WL.as rfl rfl (WL.nil (WE.aA (WL.as rfl rfl (WL.nil (WE.seq (WE.aA ?_)))))))
 refine WL.mv rfl rfl (WL.pv (PV.p5 rfl rfl rfl (by omega) (by omega)) rfl (WL.as rfl rfl (WL.nil (WE.block ?_))))
 refine WE.loop (α := Nat) (rg [(3, 2), (7, 6)]) (fun j => [(4, .int .i64 j), (3, .int .i64 ((2 ^ (j - n % 8) : Nat) : Int))]) (fun j wl => n % 8 ≤ j ∧ j ≤ 7 ∧ St X w wl [] [] []) (fun j => 7 - j) (n % 8) ⟨rfl, by show Value.int .i64 _ = _; rw [Nat.sub_self]; rfl, trivial⟩ ⟨Nat.le_refl _, by omega, H⟩ ?_
 intro j γ0 w1 hI
 try dsimp only at hI
 obtain ⟨hj0, hj7, H⟩ := hI
 refine WE.seq (WE.aA (WL.mv rfl rfl (WL.pv (PV.lss rfl rfl rfl) rfl (WL.nil ?_))))
 refine WE.cond rfl (fun lT => ?_) (fun lT => ?_)
 ·
  try simp only [bW] at lT
  have hlt : j < 7 := by omega
  refine WE.skip (WE.seq (WE.block (WE.dY (WL.mv rfl rfl ?_))))
  refine WL.pv (PV.eq (v' := .int .i64 ((2 ^ (j + 1 - n % 8) : Nat) : Int)) (PV.mA rfl rfl rfl (by generalize 2 ^ (j - n % 8) = P; omega) (by have h1 : 2 ^ (j - n % 8) ≤ 2 ^ 7 := Nat.pow_le_pow_right (by decide) (by omega); generalize 2 ^ (j - n % 8) = P at *; omega)) (by rw [show j + 1 - n % 8 = (j - n % 8) + 1 by omega, Nat.pow_succ]; push_cast; rfl)) rfl ?_
  refine WL.as rfl rfl (WL.nil (WE.dY (WL.mv rfl rfl (WL.pv (PV.bT rfl rfl rfl (by omega) (by omega)) rfl (WL.as rfl rfl (WL.nil ?_))))))
  exact ⟨j + 1, (by repeat (first | with_reducible exact bM.refl _ _ | refine bM.dD rfl ?_ | refine bM.bY rfl ?_ | refine bM.bV rfl ?_)), ⟨rfl, rfl, trivial⟩, rfl, ⟨by omega, by omega, H⟩, (by omega)⟩
 ·
  try simp only [bW] at lT
  obtain rfl : j = 7 := by omega
  refine WE.exit (WE.aA (WL.mv rfl rfl (WL.as rfl rfl (WL.nil (WE.ret ⟨[_], _, .nil _, ⟨rfl, trivial⟩, ?_⟩)))))
  exact ⟨rfl, H.aL⟩
theorem aDw {X : Nat → Prop} {w : World} {l : List UInt8} {n : Nat} (hX : cY X w) (hl : l.length = 32) (hn : n < 256) :
  bC prog 191 [.agg (kc l).toArray, .int .i64 (n : Int)].toArray w fun v w' => v = .agg (kc (jK l n)).toArray ∧ Out Nil w w' := by
 refine bC.aH (N := 37) func191 rfl rfl (by simp) ?_
 have H := St.begin hX
 have hb := dX l n
 have hB : zZ l n = (bI l n : Int) := by rw [zZ, if_neg (by omega), Int.toNat_natCast]
 have hx := (l.getD (n / 8) 0).toNat_lt
 have hp : 2 ^ (7 - n % 8) ≤ 128 := Nat.le_trans (Nat.pow_le_pow_right (by decide) (show 7 - n % 8 ≤ 7 by omega)) (by decide)
 have FC : (jK l n).length = 32 := by simp [jK, hl]
 refine WE.aA ?_
 refine WL.box (l := kc l) H rfl rfl rfl ?_
 intro b2 w1 H
 refine WL.alloc H rfl qY rfl ?_
 intro b4 w2 H
 refine WL.nil (WE.seq (WE.aA ?_))
 refine WL.bE rfl cZ rfl rfl (aN.aF (H.l 1 rfl) (aK.all _) rfl) (cK cL (by simp only [aS, cA, cF, cG, c6]; omega)) ?_
 refine WL.mv rfl rfl ?_
 refine WL.call TQ rfl (xE (l := l) (i := (n : Int)) H.aR hl (by omega)) ?_
 rintro _ w3 ⟨rfl, hO⟩
 replace H := H.out hO
 refine WL.nil (WE.block (WE.aA (WL.pv (PV.eql rfl rfl rfl) rfl (WL.as rfl rfl (WL.nil ?_)))))
 refine WE.cond rfl (fun lT => ?_) (fun lT => ?_)
 ·
  try simp only [bW] at lT
  have h0 : bI l n = 0 := by omega
  refine WE.draw (.take 0 (.take 1 (.take 2 (.take 3 (.take 4 (.take 5 (.take 6 (.take 7 (.aG 8 (.take 9 (.take 10 (.take 11 (.aG 12 .done))))))))))))) mixed (by kernel_rfl) ?_
  replace H := H.out (Out.drew _)
  refine WP.mv rfl rfl rfl (WP.aC rfl rfl (PV.p6 rfl rfl rfl (by omega) (by omega) (by omega)) (WP.mv rfl rfl rfl (WP.aC rfl rfl (PV.p6 rfl rfl rfl (by omega) (by omega) (by omega)) (WP.aC rfl rfl (PV.bF rfl gZ gO rfl rfl (by omega) (by omega)) (WP.aM rfl rfl (RV.aV rfl u3 rfl) (aN.JL (H.l 1 rfl) (n / 8) (by omega) (by omega)) (WP.aC rfl rfl (PV.lM rfl mC sZ rfl (by omega) (by omega)) (WP.mv rfl rfl rfl ?_)))))))
  refine WP.aG rfl ?_
  refine WL.call aA5 rfl (KH (n := n) H.aR hn) ?_
  rintro _ w4 ⟨rfl, hO⟩
  replace H := H.out hO
  refine WL.nil ⟨(fa (rk hO) c5), ?_⟩
  refine WP.aC rfl rfl (PV.eq (v' := .int .i64 (((l.getD (n / 8) 0).toNat + 2 ^ (7 - n % 8) : Nat) : Int)) (PV.bT rfl rfl rfl (by generalize 2 ^ (7 - n % 8) = P at *; omega) (by generalize 2 ^ (7 - n % 8) = P at *; omega)) rfl) ?_
  refine WP.aC rfl rfl (PV.JJ (n := (l.getD (n / 8) 0).toNat + 2 ^ (7 - n % 8)) rfl sZ mC rfl) (WP.aC rfl rfl (PV.bF rfl gZ gO rfl rfl (by omega) (by omega)) (WP.aG rfl ?_))
  refine WL.aW H 1 rfl rfl rfl (new := _) rfl (by exact gO) (bA _ rfl) (Laid.at (Laid.tI (n / 8) (by omega)) (by omega)) rfl ?_
  intro w5 H
  replace H := H.conv (L' := [aP.blk b4 24 (kc (List.replicate 32 0)), aP.blk b2 24 (kc (jK l n))]) (by rw [jK, if_pos h0]; rfl)
  refine WL.nil ⟨(fa (nw 12 5) c5), ?_⟩
  refine WP.done (WE.aA ?_)
  refine WL.bE rfl cZ rfl rfl (aN.aF (H.l 1 rfl) (aK.all _) rfl) (cK cL (by simp only [aS, cA, cF, cG, c6]; omega)) ?_
  refine WL.aW H 0 rfl rfl rfl (new := _) rfl (cK cL (by simp only [aS, cA, cF, cG, c6]; omega)) (bG _) (Laid.at (Laid.all (by simp only [aS, cA, cF, cG, c6]; omega)) rfl) rfl ?_
  intro w6 H
  refine WL.nil (WE.ret ⟨[_], _, .nil _, ⟨⟨_, rfl, aU cZ (aN.aF (H.l 0 rfl) (aK.all _) rfl) (cK cL (by simp only [aS, cA, cF, cG, c6]; omega))⟩, trivial⟩, ?_⟩)
  exact ⟨rfl, H.aL⟩
 ·
  try simp only [bW] at lT
  have h1 : bI l n = 1 := by omega
  have hge : 2 ^ (7 - n % 8) ≤ (l.getD (n / 8) 0).toNat := by unfold bI at h1; rcases Nat.lt_or_ge (l.getD (n / 8) 0).toNat (2 ^ (7 - n % 8)) with h | h; rw [Nat.div_eq_of_lt h] at h1; omega; exact h
  refine WE.aA (WL.pv (PV.eql rfl rfl rfl) rfl (WL.as rfl rfl (WL.nil ?_)))
  refine WE.cS rfl (decide_eq_true (by omega)) ?_
  refine WE.draw (.take 0 (.take 1 (.take 2 (.take 3 (.take 4 (.take 5 (.take 6 (.take 7 (.aG 8 (.take 9 (.take 10 (.take 11 (.aG 12 .done))))))))))))) mixed (by kernel_rfl) ?_
  replace H := H.out (Out.drew _)
  refine WP.mv rfl rfl rfl (WP.aC rfl rfl (PV.p6 rfl rfl rfl (by omega) (by omega) (by omega)) (WP.mv rfl rfl rfl (WP.aC rfl rfl (PV.p6 rfl rfl rfl (by omega) (by omega) (by omega)) (WP.aC rfl rfl (PV.bF rfl gZ gO rfl rfl (by omega) (by omega)) (WP.aM rfl rfl (RV.aV rfl u3 rfl) (aN.JL (H.l 1 rfl) (n / 8) (by omega) (by omega)) (WP.aC rfl rfl (PV.lM rfl mC sZ rfl (by omega) (by omega)) (WP.mv rfl rfl rfl ?_)))))))
  refine WP.aG rfl ?_
  refine WL.call aA5 rfl (KH (n := n) H.aR hn) ?_
  rintro _ w7 ⟨rfl, hO⟩
  replace H := H.out hO
  refine WL.nil ⟨(fa (rk hO) c5), ?_⟩
  refine WP.aC rfl rfl (PV.eq (v' := .int .i64 (((l.getD (n / 8) 0).toNat - 2 ^ (7 - n % 8) : Nat) : Int)) (PV.gC rfl rfl rfl (by generalize 2 ^ (7 - n % 8) = P at *; omega) (by generalize 2 ^ (7 - n % 8) = P at *; omega)) (by (congr 1; omega))) ?_
  refine WP.aC rfl rfl (PV.JJ (n := (l.getD (n / 8) 0).toNat - 2 ^ (7 - n % 8)) rfl sZ mC rfl) (WP.aC rfl rfl (PV.bF rfl gZ gO rfl rfl (by omega) (by omega)) (WP.aG rfl ?_))
  refine WL.aW H 1 rfl rfl rfl (new := _) rfl (by exact gO) (bA _ rfl) (Laid.at (Laid.tI (n / 8) (by omega)) (by omega)) rfl ?_
  intro w8 H
  replace H := H.conv (L' := [aP.blk b4 24 (kc (List.replicate 32 0)), aP.blk b2 24 (kc (jK l n))]) (by rw [jK, if_neg (by omega)]; rfl)
  refine WL.nil ⟨(fa (nw 12 5) c5), ?_⟩
  refine WP.done (WE.aA ?_)
  refine WL.bE rfl cZ rfl rfl (aN.aF (H.l 1 rfl) (aK.all _) rfl) (cK cL (by simp only [aS, cA, cF, cG, c6]; omega)) ?_
  refine WL.aW H 0 rfl rfl rfl (new := _) rfl (cK cL (by simp only [aS, cA, cF, cG, c6]; omega)) (bG _) (Laid.at (Laid.all (by simp only [aS, cA, cF, cG, c6]; omega)) rfl) rfl ?_
  intro w9 H
  refine WL.nil (WE.ret ⟨[_], _, .nil _, ⟨⟨_, rfl, aU cZ (aN.aF (H.l 0 rfl) (aK.all _) rfl) (cK cL (by simp only [aS, cA, cF, cG, c6]; omega))⟩, trivial⟩, ?_⟩)
  exact ⟨rfl, H.aL⟩
theorem VH {X : Nat → Prop} {w : World} {l : List UInt8} {i : Int} (hX : cY X w) (hl : l.length = 32) (hi : -9223372036854775808 ≤ i ∧ i ≤ 9223372036854775807) :
  bC prog 154 [.agg (kc l).toArray, .int .i64 i].toArray w fun v w' => v = .agg (kc (eB l i)).toArray ∧ Out Nil w w' := by
 refine bC.aH (N := 21) func154 rfl rfl (by simp) ?_
 have H := St.begin hX
 have hc : gN i ≤ 256 := by unfold gN; omega
 refine WE.aA ?_
 refine WL.box (l := kc l) H rfl rfl rfl ?_
 intro b2 w1 H
 refine WL.alloc H rfl qY rfl ?_
 intro b4 w2 H
 refine WL.nil ?_
 refine WE.cut (α := Unit) [1, 6, 7] (fun _ => [(1, .int .i64 (max i 0))]) (fun _ wl => St X w wl [] [aP.blk b4 24 (kc (List.replicate 32 0)), aP.blk b2 24 (kc l)] []) ?_ ?_
 ·
  refine WE.aA (WL.mv rfl rfl (WL.pv (PV.lss rfl rfl rfl) rfl (WL.nil ?_)))
  refine WE.cond rfl (fun vU => ?_) (fun vU => ?_)
  ·
   try simp only [bW] at vU
   refine WE.dY (WL.as rfl rfl (WL.nil ?_))
   exact ⟨(), (by repeat (first | with_reducible exact bM.refl _ _ | refine bM.dD rfl ?_)), ⟨by (show Value.int .i64 _ = _; congr 1; omega), trivial⟩, rfl, H⟩
  ·
   try simp only [bW] at vU
   refine WE.skip ?_
   exact ⟨(), (by repeat (first | with_reducible exact bM.refl _ _ | refine bM.dD rfl ?_)), ⟨by (show Value.int .i64 _ = _; congr 1; omega), trivial⟩, rfl, H⟩
 ·
  intro _ γ w3 hI
  try dsimp only at hI
  replace H := hI
  refine WE.seq (WE.aA (WL.as rfl rfl (WL.nil (WE.block ?_))))
  refine WE.loop (α := Nat) (rg [(5, 1), (8, 12)]) (fun j => [(5, .int .i64 ((j : Int) - 1))]) (fun j wl => (max i 0 ≤ (j : Int) ∨ j = 256) ∧ gN i ≤ j ∧ j ≤ 256 ∧ St X w wl [] [aP.blk b4 24 (kc (List.replicate 32 0)), aP.blk b2 24 (kc (kJ l j))] []) (fun j => j) 256 ⟨rfl, trivial⟩ ⟨.inr rfl, hc, Nat.le_refl _, by rw [OD l hl]; exact H⟩ ?_
  intro j γ0 w4 hI
  try dsimp only at hI
  obtain ⟨hm, hj0, hj1, H⟩ := hI
  have qC := cF l j
  refine WE.seq (WE.aA (WL.mv rfl rfl (WL.mv rfl rfl (WL.pv (PV.geq rfl rfl rfl) rfl (WL.nil ?_)))))
  refine WE.cond rfl (fun j5 => ?_) (fun j5 => ?_)
  ·
   try simp only [bW] at j5
   obtain ⟨k, rfl⟩ : ∃ k, j = k + 1 := ⟨j - 1, by omega⟩
   have hk : k < 256 := by omega
   have pT := cF l k
   have hB : zZ (kJ l (k + 1)) ((k + 1 : Nat) - 1 : Int) = (bI (kJ l (k + 1)) k : Int) := by rw [zZ, if_neg (by omega)]; congr 2; omega
   refine WE.skip (WE.seq (WE.block (WE.aA ?_)))
   refine WL.bE rfl cZ rfl rfl (aN.aF (H.l 1 rfl) (aK.all _) rfl) (by exact cL) ?_
   refine WL.mv rfl rfl ?_
   refine WL.call TQ rfl (xE (l := kJ l (k + 1)) (i := ((k + 1 : Nat) - 1 : Int)) H.aR (cF _ _) (by omega)) ?_
   rintro _ w5 ⟨rfl, hO⟩
   replace H := H.out hO
   refine WL.pv (PV.eql rfl rfl rfl) rfl (WL.nil ?_)
   refine WE.cond rfl (fun nG => ?_) (fun nG => ?_)
   ·
    try simp only [bW] at nG
    have h1 : bI (kJ l (k + 1)) k = 1 := by omega
    have hE := OA l k hk h1
    refine WE.dY ?_
    refine WL.bE rfl cZ rfl rfl (aN.aF (H.l 1 rfl) (aK.all _) rfl) (by exact cL) ?_
    refine WL.pv (PV.eq (v' := .int .i64 (k : Int)) (PV.move rfl) (by show Value.int .i64 _ = _; congr 1; omega)) rfl ?_
    refine WL.call aGp rfl (aDw (l := kJ l (k + 1)) (n := k) H.aR (cF _ _) hk) ?_
    rintro _ w6 ⟨rfl, hO⟩
    replace H := H.out hO
    refine WL.aW H 1 rfl rfl rfl (new := _) rfl (by (rw [cL]; refine congrArg some ?_; (simp [aI, aQ, *]; done))) (bG _) (Laid.at (Laid.all (by simp [aI, aQ, *])) rfl) rfl ?_
    intro w7 H
    refine WL.nil (WE.dY (WL.mv rfl rfl ?_))
    refine WL.pv (PV.eq (v' := .int .i64 ((k : Int) - 1)) (PV.gC rfl rfl rfl (by omega) (by omega)) (by congr 1; omega)) rfl ?_
    refine WL.as rfl rfl (WL.nil ?_)
    replace H := H.conv (L' := [aP.blk b4 24 (kc (List.replicate 32 0)), aP.blk b2 24 (kc (kJ l k))]) (by (rw [← hE]; rfl))
    exact ⟨k, (by repeat (first | with_reducible exact bM.refl _ _ | refine bM.dD rfl ?_ | refine bM.bY rfl ?_ | refine bM.bV rfl ?_)), ⟨rfl, trivial⟩, rfl, ⟨by unfold gN at *; omega, by unfold gN at *; omega, by omega, H⟩, (by omega)⟩
   ·
    try simp only [bW] at nG
    have h1 : bI (kJ l (k + 1)) k ≠ 1 := by omega
    have hE := OB l k hk h1
    refine WE.skip (WE.dY (WL.mv rfl rfl ?_))
    refine WL.pv (PV.eq (v' := .int .i64 ((k : Int) - 1)) (PV.gC rfl rfl rfl (by omega) (by omega)) (by congr 1; omega)) rfl ?_
    refine WL.as rfl rfl (WL.nil ?_)
    replace H := H.conv (L' := [aP.blk b4 24 (kc (List.replicate 32 0)), aP.blk b2 24 (kc (kJ l k))]) (by (rw [hE]; done))
    exact ⟨k, (by repeat (first | with_reducible exact bM.refl _ _ | refine bM.dD rfl ?_ | refine bM.bY rfl ?_ | refine bM.bV rfl ?_)), ⟨rfl, trivial⟩, rfl, ⟨by unfold gN at *; omega, by unfold gN at *; omega, by omega, H⟩, (by omega)⟩
  ·
   try simp only [bW] at j5
   have hj : j = gN i := by unfold gN at *; omega
   refine WE.exit (WE.aA ?_)
   refine WL.bE rfl cZ rfl rfl (aN.aF (H.l 1 rfl) (aK.all _) rfl) (by exact cL) ?_
   refine WL.aW H 0 rfl rfl rfl (new := _) rfl (by exact cL) (bG _) (Laid.at (Laid.all (by simp only [aS, cA, cF, cG, c6])) rfl) rfl ?_
   intro w8 H
   refine WL.nil (WE.ret ⟨[_], _, .nil _, ⟨⟨_, rfl, aU cZ (aN.aF (H.l 0 rfl) (aK.all _) rfl) (by exact cL)⟩, trivial⟩, ?_⟩)
   subst hj
   exact ⟨rfl, H.aL⟩
theorem Q4 {X : Nat → Prop} {w : World} {l : List UInt8} {i : Int} (hX : cY X w) (hl : l.length = 32) (hi : -9223372036854775808 ≤ i ∧ i ≤ 9223372036854775807) :
  bC prog 103 [.agg (kc l).toArray, .int .i64 i].toArray w fun v w' => v = .agg (kc (eB l i)).toArray ∧ Out Nil w w' := by
 refine bC.aH (N := 8) func103 rfl rfl (by simp) ?_
 have H := St.begin hX
 refine WE.aA ?_
 refine WL.box (l := kc l) H rfl rfl rfl ?_
 intro b2 w1 H
 refine WL.alloc H rfl k6 rfl ?_
 intro b4 w2 H
 refine WL.nil (WE.aA ?_)
 refine WL.bE rfl fO rfl rfl (aN.aF (H.l 1 rfl) (aK.all _) rfl) (cK c9 (by simp only [aS, cA, cF, cG, c6]; omega)) ?_
 refine WL.mv rfl rfl ?_
 refine WL.call aGH rfl (VH  H.aR  (by assumption) (by assumption)) ?_
 rintro _ w3 ⟨rfl, hO⟩
 replace H := H.out hO
 refine WL.aW H 0 rfl rfl rfl (new := _) rfl (by exact c9) (bG _) (Laid.at (Laid.all (by simp only [aS, cA, cF, cG, c6])) rfl) rfl ?_
 intro w4 H
 refine WL.nil (WE.ret ⟨[_], _, .nil _, ⟨⟨_, rfl, aU fO (aN.aF (H.l 0 rfl) (aK.all _) rfl) (by exact c9)⟩, trivial⟩, ?_⟩)
 exact ⟨rfl, H.aL⟩
theorem qK {X : Nat → Prop} {w : World} {a : Value} {la : List UInt8} {i : Int} (hX : cY X w) (bU : aJ X (bJ a la) w) (rR : la.length ≤ 1000000000) (hi : -9223372036854775808 ≤ i ∧ i ≤ 9223372036854775807) :
  bC prog 63 [.int .i64 i, a].toArray w fun v w' => v = .agg (kc (eB (cX la) i)).toArray ∧ Out Nil w w' := by
 refine bC.aH (N := 9) func63 rfl rfl (by simp) ?_
 have H := (St.begin hX).add (cE bU)
 refine WE.aA ?_
 refine WL.alloc H rfl k6 rfl ?_
 intro b4 w1 H
 refine WL.nil (WE.aA (WL.mv rfl rfl ?_))
 refine WL.call aHc rfl (Q1 (la := la) H.aR (H.bK 0 rfl) rR) ?_
 rintro _ w2 ⟨rfl, hO⟩
 replace H := H.out hO
 refine WL.mv rfl rfl ?_
 refine WL.call aHd rfl (Q4 (l := cX la) (i := i) H.aR (c6 _) hi) ?_
 rintro _ w3 ⟨rfl, hO⟩
 replace H := H.out hO
 refine WL.aW H 0 rfl rfl rfl (new := _) rfl (by exact c9) (bG _) (Laid.at (Laid.all (by simp only [aS, cA, cF, cG, c6])) rfl) rfl ?_
 intro w4 H
 refine WL.nil (WE.ret ⟨[_], _, .nil _, ⟨⟨_, rfl, aU fO (aN.aF (H.l 0 rfl) (aK.all _) rfl) (by exact c9)⟩, trivial⟩, ?_⟩)
 exact ⟨rfl, H.aL⟩
theorem Z3 {X : Nat → Prop} {w : World} {i : Int} (hX : cY X w) :
  bC prog 28 [.int .i64 i].toArray w fun v w' => v = .bool (decide (0 ≤ i ∧ i ≤ 256)) ∧ Out Nil w w' := by
 refine bC.aH (N := 9) func28 rfl rfl (by simp) ?_
 have H := St.begin hX
 refine WE.aA (WL.as rfl rfl (WL.nil (WE.aA (WL.mv rfl rfl (WL.pv (PV.geq rfl rfl rfl) rfl (WL.mv rfl rfl ?_))))))
 refine WL.split (t := 5) rfl (fun SJ => ?_) (fun SJ => ?_)
 ·
  refine WL.known (t := 4) (c := true) rfl SJ ?_
  try simp only [bW] at SJ
  refine WL.mv rfl rfl (WL.pv (PV.leq rfl rfl rfl) rfl (WL.pv (PV.dP rfl rfl rfl) rfl (WL.as rfl rfl (WL.nil (WE.ret ⟨[_], _, .nil _, ⟨rfl, trivial⟩, ?_⟩)))))
  refine ⟨?_, H.aL⟩
  show Value.bool _ = _
  congr 1
  (rw [decide_eq_decide]; omega)
 ·
  refine WL.known (t := 4) (c := false) rfl SJ ?_
  try simp only [bW] at SJ
  refine WL.off rfl (WL.off rfl (WL.pv (PV.dF rfl rfl rfl) rfl (WL.as rfl rfl (WL.nil (WE.ret ⟨[_], _, .nil _, ⟨rfl, trivial⟩, ?_⟩)))))
  refine ⟨?_, H.aL⟩
  show Value.bool _ = _
  congr 1
  (symm; exact decide_eq_false (by omega))
theorem aH4 {X : Nat → Prop} {w : World} {l : List UInt8} {i : Int} (hX : cY X w) (hl : l.length = 32) (hi : -9223372036854775808 ≤ i ∧ i ≤ 9223372036854775807) :
  bC prog 108 [.agg (kc l).toArray, .int .i64 i].toArray w fun v w' => v = .agg (kc (eB l i)).toArray ∧ Out Nil w w' := by
 refine bC.aH (N := 29) func108 rfl rfl (by simp) ?_
 have H := St.begin hX
 have hc : ((gN i : Nat) : Int) = min (max i 0) 256 := by unfold gN; omega
 refine WE.aA ?_
 refine WL.box (l := kc l) H rfl rfl rfl ?_
 intro b2 w1 H
 refine WL.alloc H rfl k6 rfl ?_
 intro b4 w2 H
 refine WL.nil (WE.aA (WL.mv rfl rfl (WL.pv (PV.aEF rfl rfl) rfl ?_)))
 refine WL.pv (PV.eq (v' := .int .i64 ((gN i : Nat) : Int)) (PV.aCa rfl rfl) (by rw [hc])) rfl ?_
 refine WL.as rfl rfl (WL.nil (WE.seq (WE.aA (WL.mv rfl rfl (WL.nil (WE.block ?_))))))
 refine WE.loop (α := Nat) (rg [(5, 2), (10, 18)]) (fun q => [(10, .int .i64 q)]) (fun q wl => q ≤ 32 ∧ St X w wl [] [aP.blk b4 30 (kc (List.replicate 32 0)), aP.blk b2 30 (kc (jR l (gN i) q))] []) (fun q => 32 - q) 0 ⟨rfl, trivial⟩ ⟨Nat.zero_le _, by rw [DB _ _ hl]; exact H⟩ ?_
 intro q γ0 w3 hI
 try dsimp only at hI
 obtain ⟨hq, H⟩ := hI
 have hcp := cG l (gN i) q
 have hk8 : gT (gN i) q ≤ 8 := by unfold gT; omega
 refine WE.aA (WL.pv (PV.lss rfl rfl rfl) rfl (WL.nil (WE.seq ?_)))
 refine WE.cond rfl (fun jU => ?_) (fun jU => ?_)
 ·
  try simp only [bW] at jU
  have hlt : q < 32 := by omega
  refine WE.skip (WE.seq (WE.block (WE.aA (WL.mv rfl rfl (WL.as rfl rfl (WL.nil (WE.aA ?_)))))))
  refine WL.mv rfl rfl (WL.mv rfl rfl (WL.pv (PV.mA rfl rfl rfl (by omega) (by omega)) rfl (WL.pv (PV.gC rfl rfl rfl (by omega) (by omega)) rfl (WL.pv (PV.aEF rfl rfl) rfl ?_))))
  refine WL.pv (PV.eq (v' := .int .i64 ((gT (gN i) q : Nat) : Int)) (PV.aCa rfl rfl) (by congr 1; unfold gT; omega)) rfl ?_
  refine WL.as rfl rfl (WL.nil ?_)
  refine WE.draw (.take 0 (.take 1 (.take 2 (.take 3 (.take 4 (.take 5 (.take 6 (.take 7 (.aG 8 .done))))))))) mixed (by kernel_rfl) ?_
  replace H := H.out (Out.drew _)
  refine WP.mv rfl rfl rfl (WP.aC rfl rfl (PV.bF rfl oL gO rfl rfl (by omega) (by omega)) ?_)
  refine WP.aM rfl rfl (RV.aV rfl u3 rfl) (by have h1 := aN.aF (o' := 0 + (q : Int).toNat * 1) (H.l 1 rfl) (aK.byte q (by rw [cG]; exact hlt)) (by omega); rw [F1] at h1; exact h1) ?_
  refine WP.mv rfl rfl rfl (WP.aC rfl rfl (PV.gC rfl rfl rfl (by omega) (by omega)) (WP.aC rfl rfl (PV.W8 rfl rfl rfl (by omega)) ?_))
  refine WP.aC rfl rfl (PV.eq (v' := .int .u8 ((iU (l.getD q 0) (gT (gN i) q)).toNat : Int)) (PV.JT rfl rfl rfl) (congrArg (Value.int .u8) (UX _ _ (by unfold gT; omega) _ rfl))) ?_
  refine WP.aC rfl rfl (PV.bF rfl oL gO rfl rfl (by omega) (by omega)) (WP.aG rfl ?_)
  refine WL.aW H 1 rfl rfl rfl (new := _) rfl (by exact gO) (bA _ rfl) (Laid.at (Laid.tI q (by rw [cG]; exact hlt)) (by simp)) rfl ?_
  intro w4 H
  refine WL.nil ⟨(fa (nw 8 2) c5), ?_⟩
  refine WP.done (WE.dY (WL.pv (PV.bT rfl rfl rfl (by omega) (by omega)) rfl (WL.mv rfl rfl (WL.nil ?_))))
  replace H := H.conv (L' := [aP.blk b4 30 (kc (List.replicate 32 0)), aP.blk b2 30 (kc (jR l (gN i) (q + 1)))]) (by rw [show (jR l (gN i) q).set q _ = _ from ZF l (gN i) q hlt hl]; rfl)
  exact ⟨q + 1, (by repeat (first | with_reducible exact bM.refl _ _ | refine bM.dD rfl ?_ | refine bM.bY rfl ?_ | refine bM.bV rfl ?_)), ⟨rfl, trivial⟩, rfl, ⟨by omega, H⟩, (by omega)⟩
 ·
  try simp only [bW] at jU
  obtain rfl : q = 32 := by omega
  refine WE.exit (WE.aA ?_)
  rw [F2] at H
  have qC := cF l (gN i)
  refine WL.bE rfl fO rfl rfl (aN.aF (H.l 1 rfl) (aK.all _) rfl) (by exact c9) ?_
  refine WL.aW H 0 rfl rfl rfl (new := _) rfl (by exact c9) (bG _) (Laid.at (Laid.all (by simp only [aS, cA, cF, cG, c6])) rfl) rfl ?_
  intro w5 H
  refine WL.nil (WE.ret ⟨[_], _, .nil _, ⟨⟨_, rfl, aU fO (aN.aF (H.l 0 rfl) (aK.all _) rfl) (by exact c9)⟩, trivial⟩, ?_⟩)
  exact ⟨rfl, H.aL⟩
theorem aHV {X : Nat → Prop} {w : World} {i : Int} (hX : cY X w) (bS : 0 ≤ i ∧ i ≤ 256) :
  bC prog 70 [.int .i64 i].toArray w fun v w' => ∃ bh bc, v = .tuple [.pointer (some ⟨bh, 0, none⟩), .int .i64 0].toArray ∧ Out Nil w w' ∧ w.heap.size ≤ bc ∧ aN w' bc 213 [.int .i64 0] ∧ aJ (fun c => X c ∨ c = bc) (fQ bh bc i) w' := by
 refine bC.aH (N := 15) func70 rfl rfl (by simp) ?_
 have H := St.begin hX
 refine WE.aA (WL.as rfl rfl (WL.as rfl rfl (WL.nil (WE.seq (WE.aA (WL.mv rfl rfl (WL.pv (PV.lss rfl rfl rfl) rfl ?_)))))))
 refine WL.mv rfl rfl ?_
 refine WL.split (t := 6) rfl (fun hg6 => ?_) (fun hg6 => ?_)
 ·
  refine WL.known (t := 5) (c := true) rfl hg6 ?_
  try simp only [bW] at hg6
  exfalso; omega
 ·
  refine WL.known (t := 5) (c := false) rfl hg6 ?_
  try simp only [bW] at hg6
  refine WL.mv rfl rfl (WL.pv (PV.gtr rfl rfl rfl) rfl (WL.pv (PV.dF rfl rfl rfl) rfl (WL.nil ?_)))
  refine WE.bD rfl (by simp; omega) ?_
  refine WE.skip (WE.aA (WL.pv (PV.dM rfl aEu aDP Fl.nil) rfl ?_))
  refine WL.box (l := _) H rfl rfl rfl ?_
  intro DU w1 H
  refine WL.mv rfl rfl ?_
  refine WL.pv (PV.dM rfl aEv aDQ (Fl.cons rfl rfl (by simp only [aS, cA, cF, cG, c6]) Laid.head (Fl.cons rfl rfl (by simp only [aS, cA, cF, cG, c6]) (Laid.tail Laid.head rfl) Fl.nil))) rfl ?_
  refine WL.box (l := _) H rfl rfl rfl ?_
  intro vI w2 H
  refine WL.as rfl rfl (WL.as rfl rfl (WL.nil (WE.ret ⟨[_, _], _, .nil _, ⟨rfl, rfl, trivial⟩, ?_⟩)))
  replace H := H.freeze (i := 0) rfl
  exact ⟨_, _, rfl, H.aL, H.kF _ (List.mem_of_getElem? (i := 0) rfl) _ rfl, H.l 0 rfl, (H.aA1 0 rfl).imp fun _ h => h.rd⟩
theorem sA {X : Nat → Prop} {w : World} {bh bc : Nat} {bits n : Int} {a : Value} {la : List UInt8} (hX : cY X w) (eY : aN w bc 213 ([.int .i64 n])) (bU : aJ (fun c_ => X c_ ∨ c_ = bc) (fQ bh bc bits) w) (dI : aJ (fun c_ => X c_ ∨ c_ = bc) (bJ a la) w) (fU : aJ (fun c_ => X c_ ∨ c_ = bc) (aZ) w) (bS : 0 ≤ bits ∧ bits ≤ 256) (rR : la.length ≤ 1000000000) :
  bC prog 68 [.pointer (some ⟨bh, 0, none⟩), a].toArray w fun v w' => v = .agg (kc (eB (cX la) bits)).toArray ∧ Out (· = bc) w w' ∧ aN w' bc 213 [.int .i64 (IntKind.i64.wrap (n + 1))] := by
 refine bC.aH (N := 25) func68 rfl rfl (by simp) ?_
 have H := (((St.dG (b := bc) (t := 213) (l := [.int .i64 n]) hX eY).add (cC fU)).add (cC dI)).add (cC bU)
 refine WE.aA ?_
 refine WL.alloc H rfl k6 rfl ?_
 intro b4 w1 H
 refine WL.nil (WE.seq (WE.aA (WL.mv rfl rfl (WL.pv (PV.jP rfl aEr rfl rfl) rfl (WL.nil ?_)))))
 refine WE.bD rfl rfl ?_
 refine WE.skip (WE.aA (WL.mv rfl rfl (WL.pv (PV.nilCheck rfl rfl) rfl (WL.pv (PV.fieldAddr rfl Y0 rfl) rfl ?_))))
 refine WL.aY rfl aHK rfl rfl (by exact dA.at_ (o := 0) (H.p 0 rfl) rfl rfl) ?_
 refine WL.pv (PV.nilCheck rfl rfl) rfl (WL.pv (PV.fieldAddr rfl LQ rfl) rfl (WL.aY rfl pR rfl rfl (aN.aF (H.o 0 rfl) aK.hd rfl) (WL.pv (PV.JV rfl rfl rfl) rfl (WL.pv (PV.nilCheck rfl rfl) rfl (WL.pv (PV.fieldAddr rfl LQ rfl) rfl ?_)))))
 refine WL.lH H 0 rfl rfl rfl (new := _) rfl (by exact sz3) (bA _ rfl) (Laid.at Laid.head rfl) rfl ?_
 intro w2 H
 refine WL.nil ?_
 refine WE.bH (.take 0 (.take 2 (.take 3 (.take 4 (.take 5 (.aG 1 (.aG 6 (.aG 7 .done)))))))) mixed (by kernel_rfl) ?_
 replace H := H.out (Out.drew _)
 refine WP.mv rfl rfl rfl (WP.mv rfl rfl rfl (WP.aC rfl rfl (PV.nilCheck rfl rfl) (WP.aC rfl rfl (PV.fieldAddr rfl YZ rfl) ?_)))
 refine WP.aM rfl rfl (RV.aV rfl pR rfl) (by exact dA.at_ (o := 1) (H.p 0 rfl) rfl rfl) ?_
 refine WP.aG rfl ?_
 refine WL.call aG9 rfl (aHQ (la := la) H.aR (H.bK 1 rfl) (H.bK 2 rfl) rR) ?_
 rintro _ w3 ⟨rfl, hO⟩
 replace H := H.out hO
 refine WL.nil ⟨(fa (rk hO) c5), ?_⟩
 refine WP.aG rfl ?_
 refine WL.call aHa rfl (aH4 (l := cX la) (i := bits) H.aR (c6 _) (by omega)) ?_
 rintro _ w4 ⟨rfl, hO⟩
 replace H := H.out hO
 refine WL.nil ⟨(fa (nw 6 5) c5), ?_⟩
 refine WP.aG rfl ?_
 refine WL.aW H 0 rfl rfl rfl (new := _) rfl (by exact c9) (bG _) (Laid.at (Laid.all (by simp only [aS, cA, cF, cG, c6])) rfl) rfl ?_
 intro w5 H
 refine WL.nil ⟨(fa (nw 7 5) c5), ?_⟩
 refine WP.done (WE.ret ⟨[_], _, .nil _, ⟨⟨_, rfl, aU fO (aN.aF (H.l 0 rfl) (aK.all _) rfl) (by exact c9)⟩, trivial⟩, ?_⟩)
 exact ⟨rfl, H.cR, H.o 0 rfl⟩
def num (k : List UInt8) : Nat := k.foldl (fun s x => s * 256 + x.toNat) 0
theorem A6 (k : List UInt8) : ∀ a : Nat, k.foldl (fun s x => s * 256 + x.toNat) a = a * 256 ^ k.length + num k := by
 induction k with
 | nil => intro a; simp [num]
 | cons x k ih =>
  intro a
  have e : num (x :: k) = (0 * 256 + x.toNat) * 256 ^ k.length + num k := ih _
  rw [e, List.foldl_cons, ih, List.length_cons, Nat.pow_succ]
  rw [Nat.zero_mul, Nat.zero_add, Nat.add_mul, Nat.add_assoc, Nat.mul_assoc, Nat.mul_comm 256]
theorem lE (x : UInt8) (k : List UInt8) : num (x :: k) = x.toNat * 256 ^ k.length + num k := by
 have h := A6 k (0 * 256 + x.toNat)
 rw [Nat.zero_mul, Nat.zero_add] at h
 simpa [num] using h
theorem rN (a b : List UInt8) : num (a ++ b) = num a * 256 ^ b.length + num b := by
 show (a ++ b).foldl _ 0 = _
 rw [List.foldl_append]
 exact A6 b _
theorem xQ (k : List UInt8) : num k < 256 ^ k.length := by
 induction k with
 | nil => simp [num]
 | cons x k ih =>
  rw [lE, List.length_cons, Nat.pow_succ]
  have hx : x.toNat + 1 ≤ 256 := by have := x.toNat_lt; omega
  calc x.toNat * 256 ^ k.length + num k < x.toNat * 256 ^ k.length + 256 ^ k.length := by omega
   _ = (x.toNat + 1) * 256 ^ k.length := by rw [Nat.add_mul, Nat.one_mul]
   _ ≤ 256 * 256 ^ k.length := Nat.mul_le_mul_right _ hx
   _ = 256 ^ k.length * 256 := Nat.mul_comm _ _
theorem sU : ∀ (a b : List UInt8), a.length = b.length → num a = num b → a = b := by
 intro a
 induction a with
 | nil => intro b h _; exact (List.eq_nil_of_length_eq_zero h.symm).symm
 | cons x a ih =>
  intro b h hn
  cases b with
  | nil => cases h
  | cons y b =>
   have hl : a.length = b.length := by simpa using h
   rw [lE, lE, hl] at hn
   have h1 := xQ a
   have h2 := xQ b
   rw [hl] at h1
   have hxy : x.toNat = y.toNat := by
    have e1 : (x.toNat * 256 ^ b.length + num a) / 256 ^ b.length = x.toNat := by
     rw [Nat.mul_comm, Nat.mul_add_div (Nat.pow_pos (by decide)), Nat.div_eq_of_lt h1, Nat.add_zero]
    have e2 : (y.toNat * 256 ^ b.length + num b) / 256 ^ b.length = y.toNat := by
     rw [Nat.mul_comm, Nat.mul_add_div (Nat.pow_pos (by decide)), Nat.div_eq_of_lt h2, Nat.add_zero]
    rw [← e1, ← e2, hn]
   rw [UInt8.toNat_inj.1 hxy, ih b hl (by rw [hxy] at hn; omega)]
theorem ZO (k : List UInt8) (h : k.length = 32) (i : Nat) (hi : i < 256) : bI k i = num k / 2 ^ (255 - i) % 2 := by
 have hq : i / 8 < k.length := by omega
 have e : k = k.take (i / 8) ++ k[i / 8] :: k.drop (i / 8 + 1) := by rw [← List.drop_eq_getElem_cons hq, List.take_append_drop]
 have hn : num k = (num (k.take (i / 8)) * 256 + k[i / 8].toNat) * 256 ^ (31 - i / 8) + num (k.drop (i / 8 + 1)) := by
  have hl : (k.drop (i / 8 + 1)).length = 31 - i / 8 := by simp; omega
  have := rN (k.take (i / 8)) (k[i / 8] :: k.drop (i / 8 + 1))
  rw [← e, lE, List.length_cons, hl, Nat.pow_succ] at this
  rw [this, Nat.add_mul, Nat.mul_assoc, Nat.mul_comm 256, Nat.add_assoc]
 have hd := xQ (k.drop (i / 8 + 1))
 rw [show (k.drop (i / 8 + 1)).length = 31 - i / 8 by simp; omega] at hd
 have h8 : (256 : Nat) ^ (31 - i / 8) = 2 ^ (8 * (31 - i / 8)) := by rw [show (256 : Nat) = 2 ^ 8 from rfl, ← Nat.pow_mul]
 have hdiv : num k / 2 ^ (8 * (31 - i / 8)) = num (k.take (i / 8)) * 256 + k[i / 8].toNat := by
  rw [← h8, hn, Nat.mul_comm _ (256 ^ _), Nat.mul_add_div (Nat.pow_pos (by decide)), Nat.div_eq_of_lt hd, Nat.add_zero]
 have aCl : 255 - i = 8 * (31 - i / 8) + (7 - i % 8) := by omega
 rw [aCl, Nat.pow_add, ← Nat.div_div_eq_div_mul, hdiv]
 have aJr : (256 : Nat) = 2 ^ (7 - i % 8) * (2 ^ (i % 8) * 2) := by
  rw [← Nat.pow_succ, ← Nat.pow_add, show 7 - i % 8 + (i % 8 + 1) = 8 by omega]
 unfold bI
 rw [e9 hq]
 have e3 : num (k.take (i / 8)) * 256 + k[i / 8].toNat = 2 ^ (7 - i % 8) * (num (k.take (i / 8)) * (2 ^ (i % 8) * 2)) + k[i / 8].toNat := by
  rw [← Nat.mul_assoc, Nat.mul_comm (2 ^ (7 - i % 8)), Nat.mul_assoc, ← aJr]
 rw [e3, Nat.mul_add_div (Nat.pow_pos (by decide)), ← Nat.mul_assoc, Nat.mul_comm _ 2, Nat.mul_add_mod]
def pre (d : Nat) (k : List UInt8) : Nat := num k / 2 ^ (256 - d)
theorem nU (k : List UInt8) (h : k.length = 32) : pre 0 k = 0 := by
 unfold pre
 apply Nat.div_eq_of_lt
 have := xQ k
 rw [h] at this
 exact this
theorem p7 (k : List UInt8) : pre 256 k = num k := by simp [pre]
theorem lD (k : List UInt8) (h : k.length = 32) (d : Nat) (hd : d < 256) : pre (d + 1) k = 2 * pre d k + bI k d := by
 unfold pre
 rw [ZO k h d hd, show 256 - d = (255 - d) + 1 by omega, show 256 - (d + 1) = 255 - d by omega, Nat.pow_succ, ← Nat.div_div_eq_div_mul]
 omega
structure En where
 k : List UInt8
 s : Value
 v : List UInt8
def nN (e : En) : List Value := kc e.k ++ [e.s]
def KL (m : List En) : Prop := ∀ e ∈ m, e.k.length = 32
def bO (m : List En) (d b : Nat) : List En := m.filter fun e => bI e.k d == b
structure Pm (d : Nat) (m : List En) : Prop where
 le : d ≤ 256
 kl : KL m
 N9 : m.Pairwise fun a b => num a.k ≠ num b.k
 ZI : ∀ a ∈ m, ∀ b ∈ m, pre d a.k = pre d b.k
theorem Pm.lt {d : Nat} {m : List En} (h : Pm d m) (h2 : 2 ≤ m.length) : d < 256 := by
 rcases Nat.lt_or_ge d 256 with hlt | hge
 ·
  exact hlt
 ·
  have hd : d = 256 := by have := h.le; omega
  subst hd
  match m, h2 with
  | a :: b :: m, _ =>
   exfalso
   have h1 := (List.pairwise_cons.1 h.N9).1 b (by simp)
   have h3 := h.ZI a (by simp) b (by simp)
   rw [p7, p7] at h3
   exact h1 h3
theorem Pm.part {d : Nat} {m : List En} (h : Pm d m) (hd : d < 256) (b : Nat) : Pm (d + 1) (bO m d b) where
 le := hd
 kl := fun e he => h.kl e (List.mem_filter.1 he).1
 N9 := h.N9.filter _
 ZI := fun x hx y hy => by
  have hx' := List.mem_filter.1 hx
  have hy' := List.mem_filter.1 hy
  rw [lD _ (h.kl _ hx'.1) d hd, lD _ (h.kl _ hy'.1) d hd, h.ZI _ hx'.1 _ hy'.1]
  have e1 : bI x.k d = b := by simpa using hx'.2
  have e2 : bI y.k d = b := by simpa using hy'.2
  rw [e1, e2]
theorem nV (m : List En) (d : Nat) : (bO m d 0).length + (bO m d 1).length = m.length := by
 induction m with
 | nil => rfl
 | cons e m ih =>
  have hb := dX e.k d
  have e0 : bO (e :: m) d 0 = if (bI e.k d == 0) = true then e :: bO m d 0 else bO m d 0 := List.filter_cons
  have e1 : bO (e :: m) d 1 = if (bI e.k d == 1) = true then e :: bO m d 1 else bO m d 1 := List.filter_cons
  rw [e0, e1, List.length_cons]
  by_cases h : bI e.k d = 0
  ·
   rw [if_pos (by simp [h]), if_neg (by simp [h]), List.length_cons]; omega
  ·
   have h1 : bI e.k d = 1 := by omega
   rw [if_neg (by simp [h1]), if_pos (by simp [h1]), List.length_cons]; omega
theorem Pm.zero {m : List En} (hk : KL m) (hd : m.Pairwise fun a b => num a.k ≠ num b.k) : Pm 0 m := ⟨by omega, hk, hd, fun a ha b hb => by rw [nU _ (hk a ha), nU _ (hk b hb)]⟩
inductive Sh where
 | nil
 | leaf (k v : List UInt8)
 | inner (l r : Sh)
def Sh.gH : Sh → Nat
 | .nil => 0
 | .leaf _ _ => 1
 | .inner l r => l.gH + r.gH
def Sh.kind : Sh → Int
 | .nil => 0
 | .leaf _ _ => 1
 | .inner _ _ => 2
def nC (bits : Int) (v : List UInt8) : List UInt8 := eB (cX (2 :: v)) bits
def RW (bits : Int) (k v : List UInt8) : List UInt8 := eB (cX (0 :: (k ++ nC bits v))) bits
def vD (bits : Int) (a b : List UInt8) : List UInt8 := eB (cX (1 :: (a ++ b))) bits
def lL (bits : Int) : List UInt8 := eB (cX [3]) bits
def Sh.nO (bits : Int) : Sh → List UInt8
 | .nil => lL bits
 | .leaf k v => RW bits k v
 | .inner l r => vD bits (l.nO bits) (r.nO bits)
theorem eT (bits : Int) (s : Sh) : (s.nO bits).length = 32 := by cases s <;> exact cA _ _
def kM : Sh → Sh → Sh
 | .nil, .inner l r => .inner .nil (.inner l r)
 | .nil, s => s
 | .inner l r, .nil => .inner (.inner l r) .nil
 | s, .nil => s
 | s, t => .inner s t
def FO : Nat → Nat → List En → Sh
 | _, _, [] => .nil
 | _, _, [e] => .leaf e.k e.v
 | 0, _, e :: _ => .leaf e.k e.v
 | n + 1, d, m => .inner (FO n (d + 1) (bO m d 0)) (FO n (d + 1) (bO m d 1))
def grow (d : Nat) (m : List En) : Sh := FO (256 - d) d m
theorem eF (d : Nat) : grow d [] = .nil := by unfold grow; cases 256 - d <;> rfl
theorem dO (d : Nat) (e : En) : grow d [e] = .leaf e.k e.v := by unfold grow; cases 256 - d <;> rfl
theorem iP (d : Nat) (m : List En) (hd : d < 256) (h : 2 ≤ m.length) : grow d m = .inner (grow (d + 1) (bO m d 0)) (grow (d + 1) (bO m d 1)) := by
 unfold grow
 rw [show 256 - d = (256 - (d + 1)) + 1 by omega]
 match m, h with
 | a :: b :: m, _ => rfl
theorem FN {P : Nat → List En → Sh → Prop} (h0 : ∀ d, P d [] .nil) (h1 : ∀ d e, P d [e] (.leaf e.k e.v))
  (h2 : ∀ d m, Pm d m → d < 256 → 2 ≤ m.length → P (d + 1) (bO m d 0) (grow (d + 1) (bO m d 0)) → P (d + 1) (bO m d 1) (grow (d + 1) (bO m d 1)) → P d m (.inner (grow (d + 1) (bO m d 0)) (grow (d + 1) (bO m d 1)))) :
  ∀ (n d : Nat) (m : List En), 256 - d = n → Pm d m → P d m (grow d m) := by
 intro n
 induction n with
 | zero =>
  intro d m hn hp
  match m, hp with
  | [], _ => rw [eF]; exact h0 d
  | [e], _ => rw [dO]; exact h1 d e
  | a :: b :: m, hp => have := hp.lt (by simp); omega
 | succ n ih =>
  intro d m hn hp
  match m, hp with
  | [], _ => rw [eF]; exact h0 d
  | [e], _ => rw [dO]; exact h1 d e
  | a :: b :: m, hp =>
   have hd := hp.lt (by simp)
   rw [iP d _ hd (by simp)]
   exact h2 d _ hp hd (by simp) (ih _ _ (by omega) (hp.part hd 0)) (ih _ _ (by omega) (hp.part hd 1))
theorem mD {d : Nat} {m : List En} (h : Pm d m) : (grow d m).gH = m.length :=
 FN (P := fun _ m s => s.gH = m.length) (fun _ => rfl) (fun _ _ => rfl) (fun d m _ _ _ h0 h1 => by
  show (grow _ _).gH + (grow _ _).gH = _
  rw [h0, h1, nV]) _ d m rfl h
theorem E2 {l r : Sh} (h : 2 ≤ l.gH + r.gH) : kM l r = .inner l r := by
 cases l <;> cases r <;> first | rfl | (simp [Sh.gH] at h; done)
 all_goals (simp [Sh.gH] at h)
def nT (bits : Int) (d : Nat) (m : List En) : List UInt8 := (grow d m).nO bits
theorem qM {a b : List UInt8} (hl : a.length = b.length) (i : Nat) (hi : i < a.length) (hp : a.take i = b.take i) (h : a[i].toNat < (b[i]'(by omega)).toNat) : num a < num b := by
 have hib : i < b.length := by omega
 have ea : a = a.take i ++ a[i] :: a.drop (i + 1) := by rw [← List.drop_eq_getElem_cons hi, List.take_append_drop]
 have eb : b = a.take i ++ b[i] :: b.drop (i + 1) := by rw [hp, ← List.drop_eq_getElem_cons hib, List.take_append_drop]
 have h1 := rN (a.take i) (a[i] :: a.drop (i + 1))
 have h2 := rN (a.take i) (b[i] :: b.drop (i + 1))
 rw [← ea, lE] at h1
 rw [← eb, lE] at h2
 have rR : (a.drop (i + 1)).length = (b.drop (i + 1)).length := by simp; omega
 have h3 := xQ (a.drop (i + 1))
 rw [List.length_cons] at h1 h2
 rw [rR] at h1 h3
 rw [h1, h2]
 have h4 : (a[i].toNat + 1) * 256 ^ (b.drop (i + 1)).length ≤ b[i].toNat * 256 ^ (b.drop (i + 1)).length := Nat.mul_le_mul_right _ h
 rw [Nat.add_mul, Nat.one_mul] at h4
 omega
def iI (a b : List UInt8) : Int := if num a < num b then -1 else if num b < num a then 1 else 0
theorem mG {a b : List UInt8} : iI a b < 0 ↔ num a < num b := by
 unfold iI
 by_cases h : num a < num b
 ·
  simp [h]
 ·
  rw [if_neg h]
  by_cases h2 : num b < num a <;> simp [h, h2]
def fG (m : List En) (k : List UInt8) : List En := m.filter fun x => decide (x.k ≠ k)
def ins (e : En) : List En → List En
 | [] => [e]
 | x :: r => if num e.k < num x.k then e :: x :: r else x :: ins e r
def fS (m : List En) (e : En) : List En := ins e (fG m e.k)
def ofM (l : List En) : List En := l.foldl fS []
def j7 (m : List En) : Prop := m.Pairwise fun a b => num a.k < num b.k
def o4 (e : En) (p : List En × Bool) (x : En) : List En × Bool := if p.2 = false ∧ num e.k < num x.k then (p.1 ++ [e, x], true) else (p.1 ++ [x], p.2)
theorem NA (e : En) : ∀ (l out : List En), l.foldl (o4 e) (out, true) = (out ++ l, true) := by
 intro l
 induction l with
 | nil => intro out; simp
 | cons x l ih =>
  intro out
  rw [List.foldl_cons]
  have : o4 e (out, true) x = (out ++ [x], true) := by simp [o4]
  rw [this, ih]; simp
theorem Q6 (e : En) : ∀ (l out : List En), cond (l.foldl (o4 e) (out, false)).2 (l.foldl (o4 e) (out, false)).1 ((l.foldl (o4 e) (out, false)).1 ++ [e]) = out ++ ins e l := by
 intro l
 induction l with
 | nil => intro out; simp [ins]
 | cons x l ih =>
  intro out
  rw [List.foldl_cons]
  by_cases h : num e.k < num x.k
  ·
   have : o4 e (out, false) x = (out ++ [e, x], true) := by simp [o4, h]
   rw [this, NA]
   simp [ins, h]
  ·
   have : o4 e (out, false) x = (out ++ [x], false) := by simp [o4, h]
   rw [this, ih]
   simp [ins, h]
theorem K3 {e x : En} {l : List En} : x ∈ ins e l ↔ x = e ∨ x ∈ l := by
 induction l with
 | nil => simp [ins]
 | cons y l ih =>
  unfold ins
  split
  ·
   simp
  ·
   simp [ih]; constructor
   ·
    rintro (h | h | h) <;> simp [h]
   ·
    rintro (h | h | h) <;> simp [h]
theorem YA {e : En} {l : List En} (h : j7 l) (hn : ∀ x ∈ l, num x.k ≠ num e.k) : j7 (ins e l) := by
 induction l with
 | nil => simp [ins, j7]
 | cons y l ih =>
  have h1 := List.pairwise_cons.1 h
  unfold ins
  split
  ·
   rename_i hlt
   refine List.pairwise_cons.2 ⟨fun x hx => ?_, h⟩
   cases List.mem_cons.1 hx with
   | inl e => rw [e]; exact hlt
   | inr hx => exact Nat.lt_trans hlt (h1.1 x hx)
  ·
   rename_i hnl
   refine List.pairwise_cons.2 ⟨fun x hx => ?_, ih h1.2 fun x hx => hn x (List.mem_cons_of_mem _ hx)⟩
   rcases K3.1 hx with rfl | hx
   ·
    have := hn y (by simp); omega
   ·
    exact h1.1 x hx
theorem jG {m : List En} {k : List UInt8} {x : En} : x ∈ fG m k ↔ x ∈ m ∧ x.k ≠ k := by simp [fG]
theorem sN {m : List En} {e : En} (h : j7 m) (hk : KL m) (he : e.k.length = 32) : j7 (fS m e) :=
 YA (h.filter _) fun x hx hn => (jG.1 hx).2 (sU _ _ (by rw [hk x (jG.1 hx).1, he]) hn)
theorem mB {m : List En} {e x : En} : x ∈ fS m e ↔ x = e ∨ (x ∈ m ∧ x.k ≠ e.k) := by
 unfold fS; rw [K3, jG]
theorem wC {m : List En} {e : En} (hk : KL m) (he : e.k.length = 32) : KL (fS m e) := fun x hx => by
 rcases mB.1 hx with rfl | hx
 ·
  exact he
 ·
  exact hk x hx.1
theorem YC (e : En) (l : List En) : (ins e l).length = l.length + 1 := by
 induction l with
 | nil => rfl
 | cons y l ih => unfold ins; split <;> simp [ih]
theorem xJ (m : List En) (e : En) : (fS m e).length ≤ m.length + 1 := by
 unfold fS
 rw [YC]
 have : (fG m e.k).length ≤ m.length := List.length_filter_le _ _
 omega
theorem aB6 (l : List En) (hk : KL l) : j7 (ofM l) ∧ KL (ofM l) ∧ (ofM l).length ≤ l.length ∧ ∀ e ∈ ofM l, e ∈ l := by
 suffices h : ∀ (l m : List En) (n : Nat) (S : List En), KL l → j7 m → KL m → m.length ≤ n → (∀ e ∈ m, e ∈ S) → (∀ e ∈ l, e ∈ S) →
   j7 (l.foldl fS m) ∧ KL (l.foldl fS m) ∧ (l.foldl fS m).length ≤ n + l.length ∧ ∀ e ∈ l.foldl fS m, e ∈ S by
  have := h l [] 0 l hk List.Pairwise.nil (fun _ h => by cases h) (by simp) (fun _ h => by cases h) (fun _ h => h)
  simpa [ofM] using this
 intro l
 induction l with
 | nil => intro m n S _ h1 h2 h3 h4 _; exact ⟨h1, h2, by simpa using h3, h4⟩
 | cons e l ih =>
  intro m n S hk h1 h2 h3 h4 h5
  have he := hk e (by simp)
  have := ih (fS m e) (n + 1) S (fun x hx => hk x (List.mem_cons_of_mem _ hx)) (sN h1 h2 he) (wC h2 he) (by have := xJ m e; omega)
   (fun x hx => by
    rcases mB.1 hx with rfl | hx
    ·
     exact h5 x (by simp)
    ·
     exact h4 x hx.1) (fun x hx => h5 x (List.mem_cons_of_mem _ hx))
  simp only [List.foldl_cons, List.length_cons]
  exact ⟨this.1, this.2.1, by omega, this.2.2.2⟩
theorem j7.N9 {m : List En} (h : j7 m) : m.Pairwise fun a b => num a.k ≠ num b.k := h.imp fun h => Nat.ne_of_lt h
theorem jV {e : En} (h : e.k.length = 32) : (nN e).length = 33 := by simp [nN, aI, h]
theorem ZD (m : List En) (hk : KL m) (i : Nat) (hi : i < m.length) : ((m.flatMap nN).drop (i * 33)).take 33 = nN m[i] := by
 induction m generalizing i with
 | nil => cases hi
 | cons e m ih =>
  have he := jV (hk e (by simp))
  cases i with
  | zero =>
   rw [Nat.zero_mul, List.drop_zero, List.flatMap_cons, List.take_append_of_le_length (by omega), List.take_of_length_le (by omega)]
   rfl
  | succ i =>
   have := ih (fun x hx => hk x (List.mem_cons_of_mem _ hx)) i (by simpa using hi)
   rw [List.flatMap_cons, show (i + 1) * 33 = (nN e).length + i * 33 by rw [he]; omega, List.drop_append]
   rw [List.drop_eq_nil_of_le (by omega), List.nil_append, show (nN e).length + i * 33 - (nN e).length = i * 33 by omega, this]
   rfl
def fP (v : Value) (m : List En) (w : World) : Prop := cN w v 33 m.length (m.flatMap nN)
def eL (m : List En) (w : World) : Prop := ∀ e ∈ m, bJ e.s e.v w
theorem fP.rd {v : Value} {m : List En} {w : World} (h : fP v m w) (hk : KL m) (i : Nat) (hi : i < m.length) : dA w (jN v (i * 33)) (nN m[i]) := by
 have := cN.rd h i hi
 rwa [ZD m hk i hi] at this
theorem wN {X : Nat → Prop} {w : World} {x : UInt8} {s : Value} {vs : List Value} {ls : List (List UInt8)} (hX : cY X w) (bU : aJ X (kK s vs) w) (dI : aJ X (qH vs ls) w) (hvs : vs.length ≤ 1000000) (aEP : ls.flatten.length ≤ 70368744177000) :
  bC prog 110 [.int .u8 (x.toNat : Int), s].toArray w fun v w' => Out Nil w w' ∧ aJ X (bJ v (x :: ls.flatten)) w' := by
 refine bC.aH (N := 10) func110 rfl rfl (by simp) ?_
 have H := ((St.begin hX).add (cE dI)).add (cE bU)
 refine WE.aA (WL.as rfl rfl (WL.nil (WE.aA (WL.mv rfl rfl ?_))))
 refine WL.bB (l0 := [.int .u8 (0)]) H rfl iD (by decide) (cT _ _) (Fl.cons rfl rfl (by simp only [aS]) Laid.head Fl.nil) rfl ?_
 intro b6 w1 H
 replace H := H.AE (n := 1) (sz := 1) (i := 0) rfl rfl (by decide)
 refine WL.mv rfl rfl ?_
 refine WL.call aF4 rfl (V0  H.aR (by exact H.bK 0 rfl) (by exact H.bK 1 rfl) (by assumption) (by omega)) ?_
 rintro v8 w2 ⟨hO, hR⟩
 replace H := (H.out hO).add hR
 refine WL.append H 0 iD (by decide) rfl rfl rfl (by exact H.p 0 rfl) (bG _) (by omega) (by decide) rfl ?_
 intro v9 w3 H
 refine WL.as rfl rfl (WL.nil (WE.ret ⟨[_], _, .nil _, ⟨rfl, trivial⟩, ?_⟩))
 replace H := H.freeze (i := 0) rfl
 exact ⟨H.aL, H.gF ((H.bK 0 rfl).imp fun _ h => bJ.dJ (l := x :: ls.flatten) h)⟩
theorem MF {X : Nat → Prop} {w : World} {a : Value} {la : List UInt8} (hX : cY X w) (bU : aJ X (bJ a la) w) (rR : la.length ≤ 70368744177000) :
  bC prog 168 [a].toArray w fun v w' => Out Nil w w' ∧ aJ X (bJ v (2 :: la)) w' := by
 refine bC.aH (N := 6) func168 rfl rfl (by simp) ?_
 have H := (St.begin hX).add (cE bU)
 refine WE.aA (WL.as rfl rfl (WL.nil (WE.aA (WL.mv rfl rfl ?_))))
 refine WL.bB (l0 := [.slice none 0 0]) H rfl KQ (by decide) (cT _ _) (Fl.cons rfl (by exact cN.cells (H.p 0 rfl)) (by simp only [aS]) Laid.head Fl.nil) rfl ?_
 intro b4 w1 H
 replace H := H.freeze (i := 0) rfl
 replace H := H.add ((H.bK 0 rfl).imp fun _ h => kK.bZ h rfl)
 replace H := H.add ((H.bK 2 rfl).imp fun w h => qH.cons h (qH.nil w))
 refine WL.call LV rfl (wN (x := 2) (vs := [a]) (ls := [la]) H.aR (H.bK 1 rfl) (H.bK 0 rfl) (by simp) (by simpa using rR)) ?_
 rintro v5 w2 ⟨hO, hR⟩
 replace H := (H.out hO).add hR
 refine WL.as rfl rfl (WL.nil (WE.ret ⟨[_], _, .nil _, ⟨rfl, trivial⟩, ?_⟩))
 exact ⟨H.aL, H.gF ((H.bK 0 rfl).imp fun _ h => (show bJ v5 (2 :: la) _ by simpa using h))⟩
theorem MJ {X : Nat → Prop} {w : World}  (hX : cY X w) :
  bC prog 69 [].toArray w fun v w' => Out Nil w w' ∧ aJ X (bJ v [3]) w' := by
 refine bC.aH (N := 2) func69 rfl rfl (by decide +revert) ?_
 have H := St.begin hX
 refine WE.aA (WL.as rfl rfl (WL.nil (WE.aA ?_)))
 refine WL.call LV rfl (wN (x := 3) (vs := []) (ls := []) H.aR (fun w _ => cN.nil w 1) (fun w _ => qH.nil w) (by simp) (by simp)) ?_
 rintro v1 w1 ⟨hO, hR⟩
 replace H := (H.out hO).add hR
 refine WL.as rfl rfl (WL.nil (WE.ret ⟨[_], _, .nil _, ⟨rfl, trivial⟩, ?_⟩))
 exact ⟨H.aL, H.gF (H.bK 0 rfl)⟩
theorem HV {X : Nat → Prop} {w : World} {a : Value} {la : List UInt8} (hX : cY X w) (bU : aJ X (bJ a la) w) (rR : la.length ≤ 70368744177000) :
  bC prog 106 [a].toArray w fun v w' => Out Nil w w' ∧ aJ X (bJ v (2 :: la)) w' := by
 refine bC.aH (N := 6) func106 rfl rfl (by simp) ?_
 have H := (St.begin hX).add (cE bU)
 refine WE.aA (WL.as rfl rfl (WL.nil (WE.aA ?_)))
 refine WL.bB (l0 := [.int .u8 (0)]) H rfl iD (by decide) (cT _ _) (Fl.cons rfl rfl (by simp only [aS]) Laid.head Fl.nil) rfl ?_
 intro b3 w1 H
 replace H := H.AE (n := 1) (sz := 1) (i := 0) rfl rfl (by decide)
 refine WL.mv rfl rfl ?_
 refine WL.append H 0 iD (by decide) rfl rfl rfl (by exact H.p 0 rfl) (bG _) (by omega) (by decide) rfl ?_
 intro v5 w2 H
 refine WL.as rfl rfl (WL.nil (WE.ret ⟨[_], _, .nil _, ⟨rfl, trivial⟩, ?_⟩))
 replace H := H.freeze (i := 0) rfl
 exact ⟨H.aL, H.gF ((H.bK 0 rfl).imp fun _ h => bJ.dJ (l := 2 :: la) h)⟩
theorem VN {X : Nat → Prop} {w : World} {k l : List UInt8} (hX : cY X w) (hk : k.length = 32) (hl : l.length = 32) :
  bC prog 219 [.agg (kc k ++ kc l).toArray].toArray w fun v w' => Out Nil w w' ∧ aJ X (bJ v (0 :: (k ++ l))) w' := by
 refine bC.aH (N := 9) func219 rfl rfl (by simp) ?_
 have H := St.begin hX
 refine WE.aA ?_
 refine WL.box (l := _) H rfl rfl rfl ?_
 intro b1 w1 H
 refine WL.as rfl rfl (WL.nil ?_)
 refine WE.bH (.take 0 (.take 1 (.take 2 (.take 3 (.aG 4 (.aG 5 (.take 6 .done))))))) mixed (by kernel_rfl) ?_
 replace H := H.out (Out.drew _)
 refine WP.aC rfl rfl (PV.fieldAddr rfl kH rfl) ?_
 refine WP.aC rfl rfl (PV.iE rfl gZ (by rw [gO]; rfl) rfl) ?_
 refine WP.aC rfl rfl (PV.fieldAddr rfl C7 rfl) ?_
 refine WP.aC rfl rfl (PV.iE rfl oL (by rw [gO]; rfl) rfl) ?_
 refine WP.aG rfl ?_
 refine WL.bB (l0 := [.slice none 0 0, .slice none 0 0]) H rfl KQ (by decide) (cT _ _) (Fl.cons rfl rfl (by simp only [aS]) Laid.head (Fl.cons rfl rfl (by simp only [aS]) (Laid.tail Laid.head rfl) Fl.nil)) rfl ?_
 intro b7 w2 H
 replace H := H.freeze (i := 0) rfl
 replace H := H.freeze (i := 0) rfl
 replace H := H.add ((H.bK 1 rfl).imp fun _ h => kK.bZ h rfl)
 replace H := H.add ((H.bK 1 rfl).imp fun w h => qH.cons (bJ.nY (a := ⟨b1, 0, none⟩) (aN.aF h (aK.l (aK.all (kc k))) rfl) hk (Nat.le_refl _)) (qH.cons (bJ.nY (a := ⟨b1, 32, none⟩) (aN.aF h (aK.r (aK.all (kc l)) rfl) (by simp [aI, hk])) hl (Nat.le_refl _)) (qH.nil w)))
 refine WL.nil ⟨c5, ?_⟩
 refine WP.aG rfl ?_
 refine WL.call LV rfl (wN (x := 0) (vs := [_, _]) (ls := [k, l]) H.aR (H.bK 1 rfl) (H.bK 0 rfl) (by simp) (by simp [hk, hl])) ?_
 rintro v8 w3 ⟨hO, hR⟩
 replace H := (H.out hO).add hR
 refine WL.nil ⟨c5, ?_⟩
 refine WP.as rfl rfl rfl (WP.done (WE.ret ⟨[_], _, .nil _, ⟨rfl, trivial⟩, ?_⟩))
 exact ⟨H.aL, H.gF ((H.bK 0 rfl).imp fun _ h => (show bJ v8 (0 :: (k ++ l)) _ by simpa using h))⟩
theorem VK {X : Nat → Prop} {w : World} {k l : List UInt8} (hX : cY X w) (hk : k.length = 32) (hl : l.length = 32) :
  bC prog 216 [.agg (kc k).toArray, .agg (kc l).toArray].toArray w fun v w' => Out Nil w w' ∧ aJ X (bJ v (1 :: (k ++ l))) w' := by
 refine bC.aH (N := 9) func216 rfl rfl (by simp) ?_
 have H := St.begin hX
 refine WE.aA ?_
 refine WL.box (l := _) H rfl rfl rfl ?_
 intro b2 w1 H
 refine WL.box (l := _) H rfl rfl rfl ?_
 intro b3 w2 H
 refine WL.as rfl rfl (WL.nil ?_)
 refine WE.bH (.take 0 (.take 1 (.aG 2 (.aG 3 (.take 4 .done))))) mixed (by kernel_rfl) ?_
 replace H := H.out (Out.drew _)
 refine WP.aC rfl rfl (PV.iE rfl oL (by rw [gO]; rfl) rfl) ?_
 refine WP.aC rfl rfl (PV.iE rfl oL (by rw [gO]; rfl) rfl) ?_
 refine WP.aG rfl ?_
 refine WL.bB (l0 := [.slice none 0 0, .slice none 0 0]) H rfl KQ (by decide) (cT _ _) (Fl.cons rfl rfl (by simp only [aS]) Laid.head (Fl.cons rfl rfl (by simp only [aS]) (Laid.tail Laid.head rfl) Fl.nil)) rfl ?_
 intro b7 w3 H
 replace H := H.freeze (i := 0) rfl
 replace H := H.freeze (i := 0) rfl
 replace H := H.freeze (i := 0) rfl
 replace H := H.add ((H.bK 2 rfl).imp fun _ h => kK.bZ h rfl)
 replace H := H.add (((H.bK 1 rfl).and (H.bK 2 rfl)).imp fun w h => qH.cons (bJ.bZ h.1 hk) (qH.cons (bJ.bZ h.2 hl) (qH.nil w)))
 refine WL.nil ⟨c5, ?_⟩
 refine WP.aG rfl ?_
 refine WL.call LV rfl (wN (x := 1) (vs := [_, _]) (ls := [k, l]) H.aR (H.bK 1 rfl) (H.bK 0 rfl) (by simp) (by simp [hk, hl])) ?_
 rintro v8 w4 ⟨hO, hR⟩
 replace H := (H.out hO).add hR
 refine WL.nil ⟨c5, ?_⟩
 refine WP.as rfl rfl rfl (WP.done (WE.ret ⟨[_], _, .nil _, ⟨rfl, trivial⟩, ?_⟩))
 exact ⟨H.aL, H.gF ((H.bK 0 rfl).imp fun _ h => (show bJ v8 (1 :: (k ++ l)) _ by simpa using h))⟩
theorem aAu {X : Nat → Prop} {w : World} {x : UInt8} {k l : List UInt8} (hX : cY X w) (hk : k.length = 32) (hl : l.length = 32) :
  bC prog 105 [.int .u8 (x.toNat : Int), .agg (kc k).toArray, .agg (kc l).toArray].toArray w fun v w' => Out Nil w w' ∧ aJ X (bJ v (x :: (k ++ l))) w' := by
 refine bC.aH (N := 33) func105 rfl rfl (by simp) ?_
 have H := St.begin hX
 refine WE.aA ?_
 refine WL.box (l := _) H rfl rfl rfl ?_
 intro b4 w1 H
 refine WL.box (l := _) H rfl rfl rfl ?_
 intro b5 w2 H
 refine WL.as rfl rfl (WL.nil (WE.aA (WL.mv rfl rfl ?_)))
 refine WL.bB (l0 := [.int .u8 (0)]) H rfl iD (by decide) (cT _ _) (Fl.cons rfl rfl (by simp only [aS]) Laid.head Fl.nil) rfl ?_
 intro DU w3 H
 replace H := H.AE (n := 1) (sz := 1) (i := 0) rfl rfl (by decide)
 refine WL.as rfl rfl (WL.nil (WE.seq (WE.aA (WL.as rfl rfl (WL.nil (WE.block ?_))))))
 refine WE.loop (α := Nat × Value) (rg [(7, 2), (12, 10)]) (fun p => [(8, .int .i64 p.1), (7, p.2)]) (fun p wl => p.1 ≤ 32 ∧ St X w wl [] [aP.hU w.heap.size p.2 5 1 ([x].length + p.1) (kc ([x] ++ k.take p.1)), aP.blk b5 23 (kc l), aP.blk b4 23 (kc k)] []) (fun p => 32 - p.1) (0, .slice (some ⟨DU, 0, none⟩) 1 1) ⟨rfl, rfl, trivial⟩ ⟨Nat.zero_le _, H⟩ ?_
 intro ⟨i, v⟩ γ0 w4 hI
 try dsimp only at hI
 obtain ⟨hi, H⟩ := hI
 refine WE.seq (WE.aA (WL.mv rfl rfl (WL.pv (PV.lss rfl rfl rfl) rfl (WL.nil ?_))))
 refine WE.cond rfl (fun yB => ?_) (fun yB => ?_)
 ·
  try simp only [bW] at yB
  refine WE.skip (WE.seq (WE.block (WE.dY (WL.mv rfl rfl (WL.mv rfl rfl (WL.pv (PV.bF rfl ZQ gO rfl rfl (by omega) (by omega)) rfl (WL.aY rfl u3 rfl rfl (aN.aF (H.l 2 rfl) (aK.byte i (by omega)) (by simp)) ?_)))))))
  refine WL.bB (l0 := [.int .u8 (0)]) H rfl iD (by decide) (cT _ _) (Fl.cons rfl rfl (by simp only [aS]) Laid.head Fl.nil) rfl ?_
  intro b20 w5 H
  refine WL.append H 1 iD (by decide) rfl rfl rfl (cN.bZ (n := 1) (H.l 0 rfl) rfl) (bA _ rfl) (by simp only [List.length_cons, List.length_nil]; omega) (by decide) rfl ?_
  intro v21 w6 H
  refine WL.as rfl rfl (WL.nil (WE.dY (WL.mv rfl rfl (WL.pv (PV.bT rfl rfl rfl (by omega) (by omega)) rfl (WL.as rfl rfl (WL.nil ?_))))))
  replace H := H.forget 0
  have e := CK [x] k i (by omega)
  replace H : St X w w6 [] [aP.hU w.heap.size v21 5 1 ([x].length + (i + 1)) (kc ([x] ++ k.take (i + 1))), aP.blk b5 23 (kc l), aP.blk b4 23 (kc k)] [] := by rw [e]; exact H
  exact ⟨(i + 1, v21), (by repeat (first | with_reducible exact bM.refl _ _ | refine bM.dD rfl ?_ | refine bM.bY rfl ?_ | refine bM.bV rfl ?_)), ⟨rfl, rfl, trivial⟩, rfl, ⟨by dsimp only; omega, H⟩, (by dsimp only; omega)⟩
 ·
  try simp only [bW] at yB
  refine WE.exit (WE.seq (WE.aA (WL.as rfl rfl (WL.nil (WE.block ?_)))))
  have aCu : i = 32 := by omega
  subst aCu
  have e32 : k.take 32 = k := List.take_of_length_le (by omega)
  replace H := H.conv (L' := [aP.hU w.heap.size v 5 1 (x :: k).length (kc (x :: k)), aP.blk b5 23 (kc l), aP.blk b4 23 (kc k)]) (by rw [e32, show (x :: k).length = 33 by rw [List.length_cons, hk]]; rfl)
  refine WE.loop (α := Nat × Value) (rg [(7, 1), (9, 1), (22, 10)]) (fun p => [(9, .int .i64 p.1), (7, p.2)]) (fun p wl => p.1 ≤ 32 ∧ St X w wl [] [aP.hU w.heap.size p.2 5 1 ((x :: k).length + p.1) (kc ((x :: k) ++ l.take p.1)), aP.blk b5 23 (kc l), aP.blk b4 23 (kc k)] []) (fun p => 32 - p.1) (0, v) ⟨rfl, rfl, trivial⟩ ⟨Nat.zero_le _, by dsimp only; rw [List.take_zero, List.append_nil]; exact H⟩ ?_
  intro ⟨j, u⟩ γ1 w7 hI
  try dsimp only at hI
  obtain ⟨hj, H⟩ := hI
  refine WE.seq (WE.aA (WL.mv rfl rfl (WL.pv (PV.lss rfl rfl rfl) rfl (WL.nil ?_))))
  refine WE.cond rfl (fun kV => ?_) (fun kV => ?_)
  ·
   try simp only [bW] at kV
   refine WE.skip (WE.seq (WE.block (WE.dY (WL.mv rfl rfl (WL.mv rfl rfl (WL.pv (PV.bF rfl ZQ gO rfl rfl (by omega) (by omega)) rfl (WL.aY rfl u3 rfl rfl (aN.aF (H.l 1 rfl) (aK.byte j (by omega)) (by simp)) ?_)))))))
   refine WL.bB (l0 := [.int .u8 (0)]) H rfl iD (by decide) (cT _ _) (Fl.cons rfl rfl (by simp only [aS]) Laid.head Fl.nil) rfl ?_
   intro b30 w8 H
   refine WL.append H 1 iD (by decide) rfl rfl rfl (cN.bZ (n := 1) (H.l 0 rfl) rfl) (bA _ rfl) (by simp only [List.length_cons, hk]; omega) (by decide) rfl ?_
   intro v31 w9 H
   refine WL.as rfl rfl (WL.nil (WE.dY (WL.mv rfl rfl (WL.pv (PV.bT rfl rfl rfl (by omega) (by omega)) rfl (WL.as rfl rfl (WL.nil ?_))))))
   replace H := H.forget 0
   have e := CK (x :: k) l j (by omega)
   replace H : St X w w9 [] [aP.hU w.heap.size v31 5 1 ((x :: k).length + (j + 1)) (kc ((x :: k) ++ l.take (j + 1))), aP.blk b5 23 (kc l), aP.blk b4 23 (kc k)] [] := by rw [e]; exact H
   exact ⟨(j + 1, v31), (by repeat (first | with_reducible exact bM.refl _ _ | refine bM.dD rfl ?_ | refine bM.bY rfl ?_ | refine bM.bV rfl ?_)), ⟨rfl, rfl, trivial⟩, rfl, ⟨by dsimp only; omega, H⟩, (by dsimp only; omega)⟩
  ·
   try simp only [bW] at kV
   refine WE.exit (WE.aA (WL.mv rfl rfl (WL.as rfl rfl (WL.nil (WE.ret ⟨[_], _, .nil _, ⟨rfl, trivial⟩, ?_⟩)))))
   replace H := H.freeze (i := 0) rfl
   have aI8 : l.take j = l := List.take_of_length_le (by omega)
   exact ⟨H.aL, H.gF ((H.bK 0 rfl).imp fun _ h => by have := bJ.dJ h; rw [aI8] at this; exact this)⟩
theorem M7 {X : Nat → Prop} {w : World} {k l : List UInt8} (hX : cY X w) (hk : k.length = 32) (hl : l.length = 32) :
  bC prog 64 [.agg (kc k ++ kc l).toArray].toArray w fun v w' => Out Nil w w' ∧ aJ X (bJ v (0 :: (k ++ l))) w' := by
 refine bC.aH (N := 8) func64 rfl rfl (by simp) ?_
 have H := St.begin hX
 refine WE.aA ?_
 refine WL.box (l := _) H rfl rfl rfl ?_
 intro b1 w1 H
 refine WL.as rfl rfl (WL.nil (WE.aA (WL.pv (PV.fieldAddr rfl kH rfl) rfl ?_)))
 refine WL.bE rfl cZ rfl rfl (aN.aF (H.l 0 rfl) (aK.l (aK.all _)) rfl) (cK cL (by simp only [aS]; omega)) ?_
 refine WL.pv (PV.fieldAddr rfl C7 rfl) rfl ?_
 refine WL.bE rfl fO rfl rfl (aN.aF (H.l 0 rfl) (aK.r (aK.all _) rfl) (by simp [aI, aQ, *])) (cK c9 (by simp only [aS]; omega)) ?_
 refine WL.call aBf rfl (aAu (x := 0) (k := k) (l := l) H.aR hk hl) ?_
 rintro v7 w2 ⟨hO, hR⟩
 replace H := (H.out hO).add hR
 refine WL.as rfl rfl (WL.nil (WE.ret ⟨[_], _, .nil _, ⟨rfl, trivial⟩, ?_⟩))
 exact ⟨H.aL, H.gF (H.bK 0 rfl)⟩
theorem M6 {X : Nat → Prop} {w : World} {k l : List UInt8} (hX : cY X w) (hk : k.length = 32) (hl : l.length = 32) :
  bC prog 67 [.agg (kc k).toArray, .agg (kc l).toArray].toArray w fun v w' => Out Nil w w' ∧ aJ X (bJ v (1 :: (k ++ l))) w' := by
 refine bC.aH (N := 8) func67 rfl rfl (by simp) ?_
 have H := St.begin hX
 refine WE.aA ?_
 refine WL.box (l := _) H rfl rfl rfl ?_
 intro b2 w1 H
 refine WL.box (l := _) H rfl rfl rfl ?_
 intro b3 w2 H
 refine WL.as rfl rfl (WL.nil (WE.aA ?_))
 refine WL.bE rfl fO rfl rfl (aN.aF (H.l 1 rfl) (aK.all _) rfl) (cK c9 (by simp only [aS]; omega)) ?_
 refine WL.bE rfl fO rfl rfl (aN.aF (H.l 0 rfl) (aK.all _) rfl) (cK c9 (by simp only [aS]; omega)) ?_
 refine WL.call aBf rfl (aAu (x := 1) (k := k) (l := l) H.aR hk hl) ?_
 rintro v7 w3 ⟨hO, hR⟩
 replace H := (H.out hO).add hR
 refine WL.as rfl rfl (WL.nil (WE.ret ⟨[_], _, .nil _, ⟨rfl, trivial⟩, ?_⟩))
 exact ⟨H.aL, H.gF (H.bK 0 rfl)⟩
inductive Tr where
 | nil
 | leaf (a : Nat) (k v : List UInt8) (s : Value)
 | inner (a : Nat) (l r : Tr)
def Tr.addr : Tr → Option Addr
 | .nil => none
 | .leaf a _ _ _ => some ⟨a, 0, none⟩
 | .inner a _ _ => some ⟨a, 0, none⟩
def Tr.ptr (T : Tr) : Value := .pointer T.addr
def Tr.er : Tr → Sh
 | .nil => .nil
 | .leaf _ k v _ => .leaf k v
 | .inner _ l r => .inner l.er r.er
def RX (bits : Int) (k v : List UInt8) (s : Value) : List Value := (kc k ++ kc (nC bits v)) ++ [s]
def IW (bits : Int) (l r : Tr) : List Value := [l.ptr, r.ptr] ++ ((kc (l.er.nO bits) ++ kc (r.er.nO bits)) ++ [.int .i64 ((l.er.gH + r.er.gH : Nat) : Int)])
def r8 (a : Nat) (t : TypeId) (L : List Value) (D : List UInt8) (w : World) : Prop := aN w a 143 ([.iface t (.agg L.toArray)] ++ kc D)
def cW (bits : Int) : Tr → World → Prop
 | .nil, _ => True
 | .leaf a k v s, w => k.length = 32 ∧ bJ s v w ∧ v.length ≤ 1000000 ∧ r8 a 150 (RX bits k v s) (RW bits k v) w
 | .inner a l r, w => cW bits l w ∧ cW bits r w ∧ r8 a 154 (IW bits l r) (vD bits (l.er.nO bits) (r.er.nO bits)) w
def z8 : List Value := (kc (List.replicate 32 0) ++ kc (List.replicate 32 0)) ++ [.slice none 0 0]
def wP : List Value := [.pointer none, .pointer none] ++ ((kc (List.replicate 32 0) ++ kc (List.replicate 32 0)) ++ [.int .i64 0])
def Tr.lfC (bits : Int) : Tr → List Value
 | .leaf _ k v s => RX bits k v s
 | _ => z8
def Tr.inC (bits : Int) : Tr → List Value
 | .inner _ l r => IW bits l r
 | _ => wP
def Tr.left : Tr → Tr
 | .inner _ l _ => l
 | _ => .nil
def Tr.right : Tr → Tr
 | .inner _ _ r => r
 | _ => .nil
def Tr.key : Tr → List UInt8
 | .leaf _ k _ _ => k
 | _ => List.replicate 32 0
def Tr.val : Tr → List UInt8
 | .leaf _ _ v _ => v
 | _ => []
def Tr.vs : Tr → Value
 | .leaf _ _ _ s => s
 | _ => .slice none 0 0
def Tr.vd (bits : Int) : Tr → List UInt8
 | .leaf _ _ v _ => nC bits v
 | _ => List.replicate 32 0
def Tr.aCg : Tr → Nat
 | .inner _ l r => l.er.gH + r.er.gH
 | _ => 0
def Tr.ld (bits : Int) : Tr → List UInt8
 | .inner _ l _ => l.er.nO bits
 | _ => List.replicate 32 0
def Tr.rd (bits : Int) : Tr → List UInt8
 | .inner _ _ r => r.er.nO bits
 | _ => List.replicate 32 0
theorem fY (bits : Int) (v : List UInt8) : (nC bits v).length = 32 := cA _ _
theorem aX : (∀ l b, (eB l b).length = 32) ∧ (∀ l, (cX l).length = 32) ∧ (∀ b (s : Sh), (s.nO b).length = 32) ∧ (∀ b v, (nC b v).length = 32) := ⟨cA, c6, eT, fY⟩
theorem Tr.aT (bits : Int) (T : Tr) : (T.vd bits).length = 32 := match T with | .leaf _ _ v _ => fY bits v | .nil => List.length_replicate | .inner _ _ _ => List.length_replicate
theorem Tr.bQ (bits : Int) (T : Tr) : (T.ld bits).length = 32 := match T with | .inner _ l _ => eT bits l.er | .nil => List.length_replicate | .leaf _ _ _ _ => List.length_replicate
theorem Tr.bP (bits : Int) (T : Tr) : (T.rd bits).length = 32 := match T with | .inner _ _ r => eT bits r.er | .nil => List.length_replicate | .leaf _ _ _ _ => List.length_replicate
theorem cW.gY {bits : Int} {T : Tr} {w : World} (h : cW bits T w) : T.key.length = 32 := by
 cases T <;> first | exact h.1 | simp [Tr.key]
theorem cW.vsl {bits : Int} {T : Tr} {w : World} (h : cW bits T w) : bJ T.vs T.val w := by
 cases T <;> first | exact h.2.1 | exact bJ.nil _
theorem cW.P8 {bits : Int} {T : Tr} {w : World} (h : cW bits T w) : T.val.length ≤ 1000000 := by
 cases T <;> first | exact h.2.2.1 | simp [Tr.val]
theorem cW.left {bits : Int} {T : Tr} {w : World} (h : cW bits T w) : cW bits T.left w := by
 cases T <;> first | exact h.1 | trivial
theorem cW.right {bits : Int} {T : Tr} {w : World} (h : cW bits T w) : cW bits T.right w := by
 cases T <;> first | exact h.2.1 | trivial
theorem Tr.CG (bits : Int) (T : Tr) : T.lfC bits = (kc T.key ++ kc (T.vd bits)) ++ [T.vs] := by cases T <;> rfl
theorem Tr.xZ (bits : Int) (T : Tr) : T.inC bits = [T.left.ptr, T.right.ptr] ++ ((kc (T.ld bits) ++ kc (T.rd bits)) ++ [.int .i64 (T.aCg : Int)]) := by cases T <;> rfl
theorem Tr.XP {bits : Int} {T : Tr} {w : World} (h : cW bits T w) : eN (T.lfC bits) := by
 rw [Tr.CG]; exact bN (bN (bG _) (bG _)) (bA _ (by simp [cN.fX h.vsl]))
theorem Tr.XQ (bits : Int) (T : Tr) : eN (T.inC bits) := by
 rw [Tr.xZ]; exact bN (bA _ rfl) (bN (bN (bG _) (bG _)) (bA _ rfl))
theorem Tr.XZ {bits : Int} {T : Tr} {w : World} (h : cW bits T w) : (T.lfC bits).length = 65 := by
 rw [Tr.CG]; simp [aI, h.gY, Tr.aT]
theorem Tr.X0 (bits : Int) (T : Tr) : (T.inC bits).length = 67 := by
 rw [Tr.xZ]; simp [aI, Tr.bQ, Tr.bP]
theorem Tr.aAI {T : Tr} (h : T.er.kind = 1) : ∃ a k v s, T = .leaf a k v s := by cases T <;> first | exact ⟨_, _, _, _, rfl⟩ | simp [Tr.er, Sh.kind] at h
theorem Tr.A3 {T : Tr} (h : T.er.kind = 2) : ∃ a l r, T = .inner a l r := by cases T <;> first | exact ⟨_, _, _, rfl⟩ | simp [Tr.er, Sh.kind] at h
theorem Tr.XY {bits : Int} {T : Tr} (h : T.er.kind ≠ 1) : T.lfC bits = z8 := by cases T <;> first | rfl | exact absurd rfl h
theorem Tr.YD {bits : Int} {T : Tr} (h : T.er.kind ≠ 2) : T.inC bits = wP := by cases T <;> first | rfl | exact absurd rfl h
theorem Tr.T7 (T : Tr) : T.er.gH = if T.er.kind = 1 then 1 else T.aCg := by cases T <;> simp [Tr.er, Sh.gH, Sh.kind, Tr.aCg]
theorem O4 {X : Nat → Prop} {w : World}  (hX : cY X w) :
  bC prog 31 [.pointer none].toArray w fun v w' => v = .int .i64 0 ∧ Out Nil w w' := by
 refine bC.aH (N := 15) func31 rfl rfl (by simp) ?_
 have H := St.begin hX
 refine WE.aA (WL.as rfl rfl (WL.nil (WE.seq (WE.aA (WL.mv rfl rfl (WL.pv (PV.jP rfl xK rfl rfl) rfl (WL.nil ?_)))))))
 refine WE.cS rfl rfl ?_
 refine WE.aA (WL.as rfl rfl (WL.nil (WE.ret ⟨[_], _, .nil _, ⟨rfl, trivial⟩, ?_⟩)))
 exact ⟨rfl, H.aL⟩
theorem J4 {X : Nat → Prop} {w : World} {a : Nat} {L : List Value} {D : List UInt8} (hX : cY X w) (bU : aJ X (r8 a 150 L D) w) :
  bC prog 31 [.pointer (some ⟨a, 0, none⟩)].toArray w fun v w' => v = .int .i64 1 ∧ Out Nil w w' := by
 refine bC.aH (N := 15) func31 rfl rfl (by simp) ?_
 have H := (St.begin hX).add (cE bU)
 refine WE.aA (WL.as rfl rfl (WL.nil (WE.seq (WE.aA (WL.mv rfl rfl (WL.pv (PV.jP rfl xK rfl rfl) rfl (WL.nil ?_)))))))
 refine WE.bD rfl rfl ?_
 refine WE.skip (WE.seq (WE.aA (WL.mv rfl rfl (WL.pv (PV.nilCheck rfl rfl) rfl (WL.pv (PV.fieldAddr rfl wK rfl) rfl (WL.aY rfl ME rfl rfl (dA.at_ (o := 0) (aN.rd (H.p 0 rfl)) rfl rfl) (WL.nil ?_)))))))
 refine WE.block (WE.aA (WL.pv (PV.yU rfl F4 aAo rfl) rfl (WL.pv (PV.extract rfl rfl rfl) rfl (WL.pv (PV.extract rfl rfl rfl) rfl (WL.nil ?_)))))
 refine WE.cS rfl rfl ?_
 refine WE.aA (WL.as rfl rfl (WL.nil (WE.ret ⟨[_], _, .nil _, ⟨rfl, trivial⟩, ?_⟩)))
 exact ⟨rfl, H.aL⟩
theorem GS {X : Nat → Prop} {w : World} {a : Nat} {L : List Value} {D : List UInt8} (hX : cY X w) (bU : aJ X (r8 a 154 L D) w) :
  bC prog 31 [.pointer (some ⟨a, 0, none⟩)].toArray w fun v w' => v = .int .i64 2 ∧ Out Nil w w' := by
 refine bC.aH (N := 15) func31 rfl rfl (by simp) ?_
 have H := (St.begin hX).add (cE bU)
 refine WE.aA (WL.as rfl rfl (WL.nil (WE.seq (WE.aA (WL.mv rfl rfl (WL.pv (PV.jP rfl xK rfl rfl) rfl (WL.nil ?_)))))))
 refine WE.bD rfl rfl ?_
 refine WE.skip (WE.seq (WE.aA (WL.mv rfl rfl (WL.pv (PV.nilCheck rfl rfl) rfl (WL.pv (PV.fieldAddr rfl wK rfl) rfl (WL.aY rfl ME rfl rfl (dA.at_ (o := 0) (aN.rd (H.p 0 rfl)) rfl rfl) (WL.nil ?_)))))))
 refine WE.block (WE.aA (WL.pv (PV.yU rfl F4 aAo rfl) rfl (WL.pv (PV.extract rfl rfl rfl) rfl (WL.pv (PV.extract rfl rfl rfl) rfl (WL.nil ?_)))))
 refine WE.bD rfl rfl ?_
 refine WE.aA (WL.pv (PV.yU rfl L0 aDE rfl) rfl (WL.pv (PV.extract rfl rfl rfl) rfl (WL.pv (PV.extract rfl rfl rfl) rfl (WL.nil ?_))))
 refine WE.cS rfl rfl ?_
 refine WE.aA (WL.as rfl rfl (WL.nil (WE.ret ⟨[_], _, .nil _, ⟨rfl, trivial⟩, ?_⟩)))
 exact ⟨rfl, H.aL⟩
theorem eX {X : Nat → Prop} {w : World} {bits : Int} {T : Tr} (hX : cY X w) (bU : aJ X (cW bits T) w) :
  bC prog 31 [T.ptr].toArray w fun v w' => v = .int .i64 T.er.kind ∧ Out Nil w w' := by
 cases T with
 | nil => exact O4 hX
 | leaf a k v s => exact J4 hX (bU.imp fun _ h => h.2.2.2)
 | inner a l r => exact GS hX (bU.imp fun _ h => h.2.2)
theorem K8 {X : Nat → Prop} {w : World} {bits : Int} {T : Tr} (hX : cY X w) (bU : aJ X (cW bits T) w) :
  bC prog 72 [T.ptr].toArray w fun v w' => v = .agg (T.lfC bits).toArray ∧ Out Nil w w' := by
 refine bC.aH (N := 12) func72 rfl rfl (by simp) ?_
 have H := (St.begin hX).add (cE bU)
 have hlen := Tr.XZ (bU.here)
 have gK := Tr.XP (bU.here)
 refine WE.aA ?_
 refine WL.alloc H rfl KB rfl ?_
 intro b2 w1 H
 refine WL.nil (WE.seq (WE.aA (WL.mv rfl rfl ?_)))
 refine WL.call lX rfl (eX (T := T) H.aR (H.bK 0 rfl)) ?_
 rintro _ w2 ⟨rfl, hO⟩
 replace H := H.out hO
 refine WL.pv (PV.neq rfl rfl rfl) rfl (WL.nil ?_)
 refine WE.cond rfl (fun uO => ?_) (fun uO => ?_)
 ·
  try simp only [bW] at uO
  have hz := Tr.XY (bits := bits) uO
  refine WE.aA ?_
  refine WL.pv (PV.eq (v' := .agg (T.lfC bits).toArray) (PV.dM (l := T.lfC bits) rfl aAE KB (by rw [hz]; exact Fl.nil)) rfl) rfl ?_
  refine WL.aW H 0 rfl rfl rfl (new := _) rfl (by (rw [D8]; refine congrArg some ?_; (symm; assumption))) gK (Laid.all (by rw [hlen]; rfl)) rfl ?_
  intro w3 H
  refine WL.nil (WE.ret ⟨[_], _, .nil _, ⟨⟨_, rfl, aU aBs (aN.aF (H.l 0 rfl) (aK.all _) rfl) (by (rw [D8]; refine congrArg some ?_; (symm; assumption)))⟩, trivial⟩, ?_⟩)
  exact ⟨rfl, H.aL⟩
 ·
  try simp only [bW] at uO
  obtain ⟨a, k, v, s, rfl⟩ := Tr.aAI uO
  refine WE.skip (WE.aA (WL.mv rfl rfl (WL.pv (PV.nilCheck rfl rfl) rfl (WL.pv (PV.fieldAddr rfl wK rfl) rfl (WL.aY rfl ME rfl rfl (dA.at_ (o := 0) (aN.rd ((H.p 0 rfl : cW bits _ _).2.2.2)) rfl rfl) (WL.pv (PV.MB rfl F4 rfl) rfl ?_))))))
  refine WL.aW H 0 rfl rfl rfl (new := _) rfl (by (rw [D8]; refine congrArg some ?_; (symm; assumption))) gK (Laid.all (show (RX bits k v s).length = _ from hlen)) rfl ?_
  intro w4 H
  refine WL.nil (WE.ret ⟨[_], _, .nil _, ⟨⟨_, rfl, aU aBs (aN.aF (H.l 0 rfl) (aK.all _) rfl) (by (rw [D8]; refine congrArg some ?_; (symm; assumption)))⟩, trivial⟩, ?_⟩)
  exact ⟨rfl, H.aL⟩
theorem xY {X : Nat → Prop} {w : World} {bits : Int} {T : Tr} (hX : cY X w) (bU : aJ X (cW bits T) w) :
  bC prog 153 [T.ptr].toArray w fun v w' => v = .agg (T.inC bits).toArray ∧ Out Nil w w' := by
 refine bC.aH (N := 12) func153 rfl rfl (by simp) ?_
 have H := (St.begin hX).add (cE bU)
 have hlen := Tr.X0 bits T
 have gK := Tr.XQ bits T
 refine WE.aA ?_
 refine WL.alloc H rfl PO rfl ?_
 intro b2 w1 H
 refine WL.nil (WE.seq (WE.aA (WL.mv rfl rfl ?_)))
 refine WL.call lX rfl (eX (T := T) H.aR (H.bK 0 rfl)) ?_
 rintro _ w2 ⟨rfl, hO⟩
 replace H := H.out hO
 refine WL.pv (PV.neq rfl rfl rfl) rfl (WL.nil ?_)
 refine WE.cond rfl (fun uO => ?_) (fun uO => ?_)
 ·
  try simp only [bW] at uO
  have hz := Tr.YD (bits := bits) uO
  refine WE.aA ?_
  refine WL.pv (PV.eq (v' := .agg (T.inC bits).toArray) (PV.dM (l := T.inC bits) rfl aAD PO (by rw [hz]; exact Fl.nil)) rfl) rfl ?_
  refine WL.aW H 0 rfl rfl rfl (new := _) rfl (by (rw [KO]; refine congrArg some ?_; (symm; assumption))) gK (Laid.all (by rw [hlen]; rfl)) rfl ?_
  intro w3 H
  refine WL.nil (WE.ret ⟨[_], _, .nil _, ⟨⟨_, rfl, aU aBr (aN.aF (H.l 0 rfl) (aK.all _) rfl) (by (rw [KO]; refine congrArg some ?_; (symm; assumption)))⟩, trivial⟩, ?_⟩)
  exact ⟨rfl, H.aL⟩
 ·
  try simp only [bW] at uO
  obtain ⟨a, l, r, rfl⟩ := Tr.A3 uO
  refine WE.skip (WE.aA (WL.mv rfl rfl (WL.pv (PV.nilCheck rfl rfl) rfl (WL.pv (PV.fieldAddr rfl wK rfl) rfl (WL.aY rfl ME rfl rfl (dA.at_ (o := 0) (aN.rd ((H.p 0 rfl : cW bits _ _).2.2)) rfl rfl) (WL.pv (PV.MB rfl L0 rfl) rfl ?_))))))
  refine WL.aW H 0 rfl rfl rfl (new := _) rfl (by (rw [KO]; refine congrArg some ?_; (symm; assumption))) gK (Laid.all (show (IW bits l r).length = _ from hlen)) rfl ?_
  intro w4 H
  refine WL.nil (WE.ret ⟨[_], _, .nil _, ⟨⟨_, rfl, aU aBr (aN.aF (H.l 0 rfl) (aK.all _) rfl) (by (rw [KO]; refine congrArg some ?_; (symm; assumption)))⟩, trivial⟩, ?_⟩)
  exact ⟨rfl, H.aL⟩
theorem nB {X : Nat → Prop} {w : World} {bits : Int} {T : Tr} (hX : cY X w) (bU : aJ X (cW bits T) w) :
  bC prog 32 [T.ptr].toArray w fun v w' => v = .agg (kc T.key ++ kc (T.vd bits)).toArray ∧ Out Nil w w' := by
 refine bC.aH (N := 6) func32 rfl rfl (by simp) ?_
 have H := (St.begin hX).add (cE bU)
 have hk := cW.gY (bU.here)
 have hd := Tr.aT bits T
 refine WE.aA ?_
 refine WL.alloc H rfl HG rfl ?_
 intro b2 w1 H
 refine WL.nil (WE.aA (WL.mv rfl rfl ?_))
 refine WL.call aFV rfl (K8 (T := T) H.aR (H.bK 0 rfl)) ?_
 rintro _ w2 ⟨rfl, hO⟩
 replace H := H.out hO
 rw [Tr.CG]
 refine WL.pv (PV.lK rfl C8 rfl (eG.agg GN (cK wX (by simp only [aS, aX, Tr.aT, Tr.bQ, Tr.bP]; omega)) (aK.l (aK.all _)))) rfl ?_
 refine WL.aW H 0 rfl rfl rfl (new := _) rfl (cK wX (by simp only [aS, aX, Tr.aT, Tr.bQ, Tr.bP]; omega)) (bN (bG _) (bG _)) (Laid.at (Laid.all (by simp only [aS, aX, Tr.aT, Tr.bQ, Tr.bP]; omega)) rfl) rfl ?_
 intro w3 H
 refine WL.nil (WE.ret ⟨[_], _, .nil _, ⟨⟨_, rfl, aU GN (aN.aF (H.l 0 rfl) (aK.all _) rfl) (cK wX (by simp only [aS, aX, Tr.aT, Tr.bQ, Tr.bP]; omega))⟩, trivial⟩, ?_⟩)
 exact ⟨rfl, H.aL⟩
theorem J3 {X : Nat → Prop} {w : World} {bits : Int} {T : Tr} (hX : cY X w) (bU : aJ X (cW bits T) w) :
  bC prog 112 [T.ptr].toArray w fun v w' => v = T.left.ptr ∧ Out Nil w w' := by
 refine bC.aH (N := 7) func112 rfl rfl (by simp) ?_
 have H := (St.begin hX).add (cE bU)
 refine WE.aA (WL.as rfl rfl (WL.nil (WE.aA (WL.mv rfl rfl ?_))))
 refine WL.call TK rfl (xY (T := T) H.aR (H.bK 0 rfl)) ?_
 rintro _ w1 ⟨rfl, hO⟩
 replace H := H.out hO
 rw [Tr.xZ]
 refine WL.pv (PV.lK rfl LU rfl (eG.agg UY (by exact KP) (aK.l (aK.all _)))) rfl ?_
 refine WL.pv (PV.rQ (i := 0) rfl UP l5 rfl rfl (by decide) (eG.one iL aK.hd)) rfl (WL.as rfl rfl (WL.nil (WE.ret ⟨[_], _, .nil _, ⟨rfl, trivial⟩, ?_⟩)))
 exact ⟨rfl, H.aL⟩
theorem y5 {X : Nat → Prop} {w : World} {bits : Int} {T : Tr} (hX : cY X w) (bU : aJ X (cW bits T) w) :
  bC prog 113 [T.ptr].toArray w fun v w' => v = T.right.ptr ∧ Out Nil w w' := by
 refine bC.aH (N := 7) func113 rfl rfl (by simp) ?_
 have H := (St.begin hX).add (cE bU)
 refine WE.aA (WL.as rfl rfl (WL.nil (WE.aA (WL.mv rfl rfl ?_))))
 refine WL.call TK rfl (xY (T := T) H.aR (H.bK 0 rfl)) ?_
 rintro _ w1 ⟨rfl, hO⟩
 replace H := H.out hO
 rw [Tr.xZ]
 refine WL.pv (PV.lK rfl LU rfl (eG.agg UY (by exact KP) (aK.l (aK.all _)))) rfl ?_
 refine WL.pv (PV.rQ (i := 1) rfl UP l5 rfl rfl (by decide) (eG.one iL (aK.tl aK.hd rfl))) rfl (WL.as rfl rfl (WL.nil (WE.ret ⟨[_], _, .nil _, ⟨rfl, trivial⟩, ?_⟩)))
 exact ⟨rfl, H.aL⟩
theorem aBv {X : Nat → Prop} {w : World} {bits : Int} {T : Tr} (hX : cY X w) (bU : aJ X (cW bits T) w) :
  bC prog 99 [T.ptr].toArray w fun v w' => v = .int .i64 (T.er.gH : Int) ∧ Out Nil w w' := by
 refine bC.aH (N := 9) func99 rfl rfl (by simp) ?_
 have H := (St.begin hX).add (cE bU)
 have hd := Tr.bQ bits T
 have hr := Tr.bP bits T
 refine WE.aA (WL.as rfl rfl (WL.nil (WE.seq (WE.aA (WL.mv rfl rfl ?_)))))
 refine WL.call lX rfl (eX (T := T) H.aR (H.bK 0 rfl)) ?_
 rintro _ w1 ⟨rfl, hO⟩
 replace H := H.out hO
 refine WL.pv (PV.eql rfl rfl rfl) rfl (WL.nil ?_)
 refine WE.cond rfl (fun uO => ?_) (fun uO => ?_)
 ·
  try simp only [bW] at uO
  refine WE.aA (WL.as rfl rfl (WL.nil (WE.ret ⟨[_], _, .nil _, ⟨rfl, trivial⟩, ?_⟩)))
  refine ⟨?_, H.aL⟩
  rw [Tr.T7, if_pos uO]; rfl
 ·
  try simp only [bW] at uO
  refine WE.skip (WE.aA (WL.mv rfl rfl ?_))
  refine WL.call TK rfl (xY (T := T) H.aR (H.bK 0 rfl)) ?_
  rintro _ w2 ⟨rfl, hO⟩
  replace H := H.out hO
  rw [Tr.xZ]
  refine WL.pv (PV.lK rfl Y2 rfl (eG.one pR (aK.r (aK.r (aK.all _) rfl) (by simp only [aS, aX, Tr.aT, Tr.bQ, Tr.bP])))) rfl ?_
  refine WL.as rfl rfl (WL.nil (WE.ret ⟨[_], _, .nil _, ⟨rfl, trivial⟩, ?_⟩))
  refine ⟨?_, H.aL⟩
  rw [Tr.T7, if_neg uO]; rfl
theorem GZ {X : Nat → Prop} {w : World} {a : Value} {la : List UInt8} (hX : cY X w) (bU : aJ X (bJ a la) w) (rR : la.length ≤ 70368744177664) :
  bC prog 102 [a].toArray w fun v w' => Out Nil w w' ∧ w'.ownsRow w.heap.size 5 1 v la.length (kc la) := by
 refine bC.aH (N := 8) func102 rfl rfl (by simp) ?_
 have H := (St.begin hX).add (cE bU)
 refine WE.aA (WL.as rfl rfl (WL.nil (WE.seq (WE.aA (WL.mv rfl rfl (WL.pv (PV.aBi rfl (H.p 0 rfl) eM rfl rfl) rfl (WL.nil ?_)))))))
 refine WE.cond rfl (fun YN => ?_) (fun YN => ?_)
 ·
  try simp only [bW] at YN
  have h0 : la = [] := List.eq_nil_of_length_eq_zero (cN.RN (H.p 0 rfl) YN)
  subst h0
  refine WE.aA (WL.as rfl rfl (WL.nil (WE.ret ⟨[_], _, .nil _, ⟨rfl, trivial⟩, ?_⟩)))
  exact ⟨H.aL, World.ownsRow_nil _ _ _ _⟩
 ·
  try simp only [bW] at YN
  refine WE.skip (WE.aA ?_)
  refine WL.bB (l0 := []) H rfl iD (by decide) (cT _ _) Fl.nil rfl ?_
  intro b5 w1 H
  replace H := H.AE (n := 0) (sz := 1) (i := 0) rfl rfl (by decide)
  refine WL.mv rfl rfl ?_
  refine WL.append H 0 iD (by decide) rfl rfl rfl (H.p 0 rfl) (bG _) (by omega) (by decide) rfl ?_
  intro v7 w2 H
  refine WL.as rfl rfl (WL.nil (WE.ret ⟨[_], _, .nil _, ⟨rfl, trivial⟩, ?_⟩))
  exact ⟨H.aL, by have := H.l 0 rfl; rw [Nat.zero_add] at this; exact this⟩
theorem VO {X : Nat → Prop} {w : World} {bh bc : Nat} {bits n : Int} {a : Value} {k la : List UInt8} (hX : cY X w) (eY : aN w bc 213 ([.int .i64 n])) (bU : aJ (fun c_ => X c_ ∨ c_ = bc) (fQ bh bc bits) w) (dI : aJ (fun c_ => X c_ ∨ c_ = bc) (bJ a la) w) (fU : aJ (fun c_ => X c_ ∨ c_ = bc) (aZ) w) (bS : 0 ≤ bits ∧ bits ≤ 256) (rR : la.length ≤ 1000000) (hk : k.length = 32) :
  bC prog 173 [.pointer (some ⟨bh, 0, none⟩), .agg (kc k).toArray, a].toArray w fun v w' => ∃ m, v = .agg (kc k ++ kc (nC bits la)).toArray ∧ Out (· = bc) w w' ∧ aN w' bc 213 [.int .i64 m] := by
 refine bC.aH (N := 13) func173 rfl rfl (by simp) ?_
 have H := (((St.dG (b := bc) (t := 213) (l := [.int .i64 n]) hX eY).add (cC fU)).add (cC dI)).add (cC bU)
 refine WE.aA ?_
 refine WL.box (l := kc k) H rfl rfl rfl ?_
 intro b4 w1 H
 refine WL.alloc H rfl HG rfl ?_
 intro b6 w2 H
 refine WL.nil ?_
 refine WE.bH (.take 0 (.take 1 (.take 2 (.aG 3 (.aG 4 (.take 5 (.aG 6 .done))))))) mixed (by kernel_rfl) ?_
 replace H := H.out (Out.drew _)
 refine WP.dN rfl rfl rfl cZ rfl (aN.aF (H.l 1 rfl) (aK.all _) rfl) (cK cL (by simp only [aS, aX, Tr.aT, Tr.bQ, Tr.bP]; omega)) ?_
 refine WP.mv rfl rfl rfl (WP.mv rfl rfl rfl (WP.aG rfl ?_))
 refine WL.call aBa rfl (MF (la := la) H.aR (H.bK 1 rfl) (by omega)) ?_
 rintro v10 w3 ⟨hO, hR⟩
 replace H := (H.out hO).add hR
 refine WL.nil ⟨(fa (fun _ _ => (aN.aF (H.l 1 rfl) (aK.all _) rfl)) c5), ?_⟩
 refine WP.aG rfl ?_
 refine WL.call JE rfl (sA (la := 2 :: la) H.aR (H.o 0 rfl) (by exact H.aO 0 rfl 1 rfl) (by exact H.aO 0 rfl 0 rfl) (by exact H.aO 0 rfl 3 rfl) bS (by simp; omega)) ?_
 rintro _ w4 ⟨rfl, hO, hB⟩
 replace H := H.fA 0 rfl hO hB
 refine WL.nil ⟨(fa (fun _ _ => (aN.aF (H.l 1 rfl) (aK.all _) rfl)) c5), ?_⟩
 refine WP.aC rfl rfl (PV.dM rfl XK HG (Fl.cons rfl rfl (by simp only [aS, aX, Tr.aT, Tr.bQ, Tr.bP]; omega) (Laid.left (Laid.all (by simp only [aS, aX, Tr.aT, Tr.bQ, Tr.bP]; omega))) (Fl.cons rfl rfl (by simp only [aS, aX, Tr.aT, Tr.bQ, Tr.bP]) (Laid.right (Laid.all (by simp only [aS, aX, Tr.aT, Tr.bQ, Tr.bP])) (by simp only [aS, aX, Tr.aT, Tr.bQ, Tr.bP]; omega)) Fl.nil))) ?_
 refine WP.aG rfl ?_
 refine WL.aW H 0 rfl rfl rfl (new := _) rfl (cK wX (by simp only [aS, aX, Tr.aT, Tr.bQ, Tr.bP]; omega)) (bN (bG _) (bG _)) (Laid.at (Laid.all (by simp only [aS, aX, Tr.aT, Tr.bQ, Tr.bP]; omega)) rfl) rfl ?_
 intro w5 H
 refine WL.nil ⟨(fa (nw 6 0) c5), ?_⟩
 refine WP.done (WE.ret ⟨[_], _, .nil _, ⟨⟨_, rfl, aU GN (aN.aF (H.l 0 rfl) (aK.all _) rfl) (cK wX (by simp only [aS, aX, Tr.aT, Tr.bQ, Tr.bP]; omega))⟩, trivial⟩, ?_⟩)
 exact ⟨_, rfl, H.cR, H.o 0 rfl⟩
theorem NH {X : Nat → Prop} {w : World} {k d : List UInt8} {s : Value} (hX : cY X w) (hk : k.length = 32) (hd : d.length = 32) :
  bC prog 242 [.agg ((kc k ++ kc d) ++ [s]).toArray].toArray w fun v w' => Out Nil w w' ∧ aJ X (bJ v (0 :: (k ++ d))) w' := by
 refine bC.aH (N := 6) func242 rfl rfl (by simp) ?_
 have H := St.begin hX
 refine WE.aA ?_
 refine WL.box (l := (kc k ++ kc d) ++ [s]) H rfl rfl rfl ?_
 intro b1 w1 H
 refine WL.as rfl rfl (WL.nil (WE.aA (WL.pv (PV.fieldAddr rfl C8 rfl) rfl ?_)))
 refine WL.bE rfl GN rfl rfl (aN.aF (H.l 0 rfl) (aK.l (aK.all _)) rfl) (cK wX (by simp only [aS, aX, Tr.aT, Tr.bQ, Tr.bP]; omega)) ?_
 refine WL.call aA3 rfl (VN (k := k) (l := d) H.aR hk hd) ?_
 rintro v5 w2 ⟨hO, hR⟩
 replace H := (H.out hO).add hR
 refine WL.as rfl rfl (WL.nil (WE.ret ⟨[_], _, .nil _, ⟨rfl, trivial⟩, ?_⟩))
 exact ⟨H.aL, H.gF (H.bK 0 rfl)⟩
theorem IV {X : Nat → Prop} {w : World} {p d e : List UInt8} {x y z : Value} (hX : cY X w) (hd : d.length = 32) (he : e.length = 32) :
  bC prog 243 [.agg ([x, y] ++ ((kc d ++ kc e) ++ [z])).toArray].toArray w fun v w' => Out Nil w w' ∧ aJ X (bJ v (1 :: (d ++ e))) w' := by
 refine bC.aH (N := 10) func243 rfl rfl (by simp) ?_
 have H := St.begin hX
 refine WE.aA ?_
 refine WL.box (l := [x, y] ++ ((kc d ++ kc e) ++ [z])) H rfl rfl rfl ?_
 intro b1 w1 H
 refine WL.as rfl rfl (WL.nil (WE.aA (WL.pv (PV.fieldAddr rfl LS rfl) rfl (WL.pv (PV.bF rfl yV c9 rfl rfl (by omega) (by omega)) rfl ?_))))
 refine WL.bE rfl fO rfl rfl (aN.aF (H.l 0 rfl) (aK.r (aK.l (aK.l (aK.all _))) rfl) rfl) (cK c9 (by simp only [aS, aX, Tr.aT, Tr.bQ, Tr.bP]; omega)) ?_
 refine WL.pv (PV.fieldAddr rfl LS rfl) rfl (WL.pv (PV.bF rfl yV c9 rfl rfl (by omega) (by omega)) rfl ?_)
 refine WL.bE rfl fO rfl rfl (aN.aF (H.l 0 rfl) (aK.r (aK.l (aK.r (aK.all _) rfl)) rfl) (by simp [aI, aQ, *])) (cK c9 (by simp only [aS, aX, Tr.aT, Tr.bQ, Tr.bP]; omega)) ?_
 refine WL.call aA4 rfl (VK (k := d) (l := e) H.aR hd he) ?_
 rintro v9 w2 ⟨hO, hR⟩
 replace H := (H.out hO).add hR
 refine WL.as rfl rfl (WL.nil (WE.ret ⟨[_], _, .nil _, ⟨rfl, trivial⟩, ?_⟩))
 exact ⟨H.aL, H.gF (H.bK 0 rfl)⟩
theorem HJ {X : Nat → Prop} {w : World} {bh bc : Nat} {bits n : Int} {k d : List UInt8} {s : Value} (hX : cY X w) (eY : aN w bc 213 ([.int .i64 n])) (bU : aJ (fun c_ => X c_ ∨ c_ = bc) (fQ bh bc bits) w) (dI : aJ (fun c_ => X c_ ∨ c_ = bc) (aZ) w) (bS : 0 ≤ bits ∧ bits ≤ 256) (hk : k.length = 32) (hd : d.length = 32) :
  bC prog 172 [.pointer (some ⟨bh, 0, none⟩), .iface 150 (.agg ((kc k ++ kc d) ++ [s]).toArray)].toArray w fun v w' => ∃ a m, v = .pointer (some ⟨a, 0, none⟩) ∧ Out (· = bc) w w' ∧ aN w' bc 213 [.int .i64 m] ∧ aJ (fun c => X c ∨ c = bc) (r8 a 150 ((kc k ++ kc d) ++ [s]) (eB (cX (0 :: (k ++ d))) bits)) w' := by
 refine bC.aH (N := 12) func172 rfl rfl (by simp) ?_
 have H := ((St.dG (b := bc) (t := 213) (l := [.int .i64 n]) hX eY).add (cC dI)).add (cC bU)
 refine WE.aA (WL.as rfl rfl (WL.nil (WE.aA (WL.mv rfl rfl (WL.mv rfl rfl (WL.mv rfl rfl ?_))))))
 refine WL.invoke rfl (by kernel_rfl) F4 aF8 rfl (NH (k := k) (d := d) (s := s) H.aR hk hd) ?_
 rintro v8 w2 ⟨hO, hR⟩
 replace H := (H.out hO).add hR
 refine WL.call JE rfl (sA (la := 0 :: (k ++ d)) H.aR (H.o 0 rfl) (by exact H.aO 0 rfl 1 rfl) (by exact H.aO 0 rfl 0 rfl) (by exact H.aO 0 rfl 2 rfl) bS (by simp; omega)) ?_
 rintro _ w4 ⟨rfl, hO, hB⟩
 replace H := H.fA 0 rfl hO hB
 refine WL.pv (PV.dM rfl aAF aAs (Fl.cons rfl rfl (by simp only [aS, aX, Tr.aT, Tr.bQ, Tr.bP]) (Laid.left (Laid.all (by simp only [aS, aX, Tr.aT, Tr.bQ, Tr.bP]))) (Fl.cons rfl rfl (by simp only [aS, aX, Tr.aT, Tr.bQ, Tr.bP]) (Laid.right (Laid.all (by simp only [aS, aX, Tr.aT, Tr.bQ, Tr.bP])) (by simp only [aS, aX, Tr.aT, Tr.bQ, Tr.bP])) Fl.nil))) rfl ?_
 refine WL.box (l := _) H rfl rfl rfl ?_
 intro DU w5 H
 refine WL.as rfl rfl (WL.nil (WE.ret ⟨[_], _, .nil _, ⟨rfl, trivial⟩, ?_⟩))
 replace H := H.freeze (i := 0) rfl
 exact ⟨_, _, rfl, H.cR, H.o 0 rfl, (H.fV (H.bK 0 rfl)).imp fun _ h => h⟩
theorem DZ {X : Nat → Prop} {w : World} {bh bc : Nat} {bits n : Int} {d e : List UInt8} {x y z : Value} (hX : cY X w) (eY : aN w bc 213 ([.int .i64 n])) (bU : aJ (fun c_ => X c_ ∨ c_ = bc) (fQ bh bc bits) w) (dI : aJ (fun c_ => X c_ ∨ c_ = bc) (aZ) w) (bS : 0 ≤ bits ∧ bits ≤ 256) (hd : d.length = 32) (he : e.length = 32) :
  bC prog 172 [.pointer (some ⟨bh, 0, none⟩), .iface 154 (.agg ([x, y] ++ ((kc d ++ kc e) ++ [z])).toArray)].toArray w fun v w' => ∃ a m, v = .pointer (some ⟨a, 0, none⟩) ∧ Out (· = bc) w w' ∧ aN w' bc 213 [.int .i64 m] ∧ aJ (fun c => X c ∨ c = bc) (r8 a 154 ([x, y] ++ ((kc d ++ kc e) ++ [z])) (eB (cX (1 :: (d ++ e))) bits)) w' := by
 refine bC.aH (N := 12) func172 rfl rfl (by simp) ?_
 have H := ((St.dG (b := bc) (t := 213) (l := [.int .i64 n]) hX eY).add (cC dI)).add (cC bU)
 refine WE.aA (WL.as rfl rfl (WL.nil (WE.aA (WL.mv rfl rfl (WL.mv rfl rfl (WL.mv rfl rfl ?_))))))
 refine WL.invoke rfl (by kernel_rfl) L0 aF7 rfl (IV (p := []) (x := x) (y := y) (z := z) H.aR hd he) ?_
 rintro v8 w2 ⟨hO, hR⟩
 replace H := (H.out hO).add hR
 refine WL.call JE rfl (sA (la := 1 :: (d ++ e)) H.aR (H.o 0 rfl) (by exact H.aO 0 rfl 1 rfl) (by exact H.aO 0 rfl 0 rfl) (by exact H.aO 0 rfl 2 rfl) bS (by simp; omega)) ?_
 rintro _ w4 ⟨rfl, hO, hB⟩
 replace H := H.fA 0 rfl hO hB
 refine WL.pv (PV.dM rfl aAF aAs (Fl.cons rfl rfl (by simp only [aS, aX, Tr.aT, Tr.bQ, Tr.bP]) (Laid.left (Laid.all (by simp only [aS, aX, Tr.aT, Tr.bQ, Tr.bP]))) (Fl.cons rfl rfl (by simp only [aS, aX, Tr.aT, Tr.bQ, Tr.bP]) (Laid.right (Laid.all (by simp only [aS, aX, Tr.aT, Tr.bQ, Tr.bP])) (by simp only [aS, aX, Tr.aT, Tr.bQ, Tr.bP])) Fl.nil))) rfl ?_
 refine WL.box (l := _) H rfl rfl rfl ?_
 intro DU w5 H
 refine WL.as rfl rfl (WL.nil (WE.ret ⟨[_], _, .nil _, ⟨rfl, trivial⟩, ?_⟩))
 replace H := H.freeze (i := 0) rfl
 exact ⟨_, _, rfl, H.cR, H.o 0 rfl, (H.fV (H.bK 0 rfl)).imp fun _ h => h⟩
theorem dA.aF {w : World} {b o o' : Nat} {l0 l : List Value} (h : dA w ⟨b, 0, none⟩ l0) (s : aK l0 o l) (ho : o' = o) : dA w ⟨b, o', none⟩ l := by
 subst ho
 have := dA.sub h s
 rwa [mJ, Nat.zero_add] at this
theorem aJ.aHC {X : Nat → Prop} {p q r : World → Prop} {w : World} (h : aJ X p w) (h' : aJ X q w) (h'' : aJ X r w) : aJ X (fun w => p w ∧ q w ∧ r w) w := fun w' hw => ⟨h w' hw, h' w' hw, h'' w' hw⟩
theorem vM {X : Nat → Prop} {w : World} {bh bc : Nat} {bits n : Int} (hX : cY X w) (eY : aN w bc 213 ([.int .i64 n])) (bU : aJ (fun c_ => X c_ ∨ c_ = bc) (fQ bh bc bits) w) (dI : aJ (fun c_ => X c_ ∨ c_ = bc) (aZ) w) (bS : 0 ≤ bits ∧ bits ≤ 256) :
  bC prog 27 [.pointer (some ⟨bh, 0, none⟩), .pointer none].toArray w fun v w' => ∃ m, v = .agg (kc (lL bits)).toArray ∧ Out (· = bc) w w' ∧ aN w' bc 213 [.int .i64 m] := by
 refine bC.aH (N := 14) func27 rfl rfl (by simp) ?_
 have H := ((St.dG (b := bc) (t := 213) (l := [.int .i64 n]) hX eY).add (cC dI)).add (cC bU)
 refine WE.aA ?_
 refine WL.alloc H rfl k6 rfl ?_
 intro b4 w1 H
 refine WL.nil (WE.seq (WE.aA (WL.mv rfl rfl (WL.pv (PV.jP rfl xK rfl rfl) rfl (WL.nil ?_)))))
 refine WE.cS rfl rfl ?_
 refine WE.aA (WL.mv rfl rfl ?_)
 refine WL.call aFX rfl (MJ H.aR) ?_
 rintro v8 w2 ⟨hO, hR⟩
 replace H := (H.out hO).add hR
 refine WL.call JE rfl (sA (la := [3]) H.aR (H.o 0 rfl) (by exact H.aO 0 rfl 1 rfl) (by exact H.aO 0 rfl 0 rfl) (by exact H.aO 0 rfl 2 rfl) bS (by simp)) ?_
 rintro _ w3 ⟨rfl, hO, hB⟩
 replace H := H.fA 0 rfl hO hB
 refine WL.aW H 0 rfl rfl rfl (new := _) rfl (by exact c9) (bG _) (Laid.at (Laid.all (by simp only [aS, aX, Tr.aT, Tr.bQ, Tr.bP])) rfl) rfl ?_
 intro w4 H
 refine WL.nil (WE.ret ⟨[_], _, .nil _, ⟨⟨_, rfl, aU fO (aN.aF (H.l 0 rfl) (aK.all _) rfl) (by exact c9)⟩, trivial⟩, ?_⟩)
 exact ⟨_, rfl, H.cR, H.o 0 rfl⟩
theorem zA {X : Nat → Prop} {w : World} {h : Value} {a : Nat} {t : TypeId} {L : List Value} {D : List UInt8} (hX : cY X w) (bU : aJ X (r8 a t L D) w) (hD : D.length = 32) :
  bC prog 27 [h, .pointer (some ⟨a, 0, none⟩)].toArray w fun v w' => v = .agg (kc D).toArray ∧ Out Nil w w' := by
 refine bC.aH (N := 14) func27 rfl rfl (by simp) ?_
 have H := (St.begin hX).add (cE bU)
 refine WE.aA ?_
 refine WL.alloc H rfl k6 rfl ?_
 intro b4 w1 H
 refine WL.nil (WE.seq (WE.aA (WL.mv rfl rfl (WL.pv (PV.jP rfl xK rfl rfl) rfl (WL.nil ?_)))))
 refine WE.bD rfl rfl ?_
 refine WE.skip (WE.aA (WL.mv rfl rfl (WL.pv (PV.nilCheck rfl rfl) rfl (WL.pv (PV.fieldAddr rfl Y4 rfl) rfl ?_))))
 refine WL.bE rfl fO rfl rfl (dA.aF (aN.rd (H.p 0 rfl)) (aK.r (a := [.iface t (.agg L.toArray)]) (aK.all (kc D)) rfl) rfl) (cK c9 (by simp only [aS, aX, Tr.aT, Tr.bQ, Tr.bP]; omega)) ?_
 refine WL.aW H 0 rfl rfl rfl (new := _) rfl (cK c9 (by simp only [aS, aX, Tr.aT, Tr.bQ, Tr.bP]; omega)) (bG _) (Laid.at (Laid.all (by simp only [aS, aX, Tr.aT, Tr.bQ, Tr.bP]; omega)) rfl) rfl ?_
 intro w2 H
 refine WL.nil (WE.ret ⟨[_], _, .nil _, ⟨⟨_, rfl, aU fO (aN.aF (H.l 0 rfl) (aK.all _) rfl) (cK c9 (by simp only [aS, aX, Tr.aT, Tr.bQ, Tr.bP]; omega))⟩, trivial⟩, ?_⟩)
 exact ⟨rfl, H.aL⟩
theorem qI {X : Nat → Prop} {w : World} {bh bc : Nat} {bits n : Int} {T : Tr} (hX : cY X w) (eY : aN w bc 213 [.int .i64 n]) (bU : aJ (fun c => X c ∨ c = bc) (fQ bh bc bits) w)
  (dI : aJ (fun c => X c ∨ c = bc) (cW bits T) w) (fU : aJ (fun c => X c ∨ c = bc) aZ w) (bS : 0 ≤ bits ∧ bits ≤ 256) :
  bC prog 27 [.pointer (some ⟨bh, 0, none⟩), T.ptr].toArray w fun v w' => ∃ m, v = .agg (kc (T.er.nO bits)).toArray ∧ Out (· = bc) w w' ∧ aN w' bc 213 [.int .i64 m] := by
 have old : ∀ {w' : World}, Out Nil w w' → Out (· = bc) w w' ∧ aN w' bc 213 [.int .i64 n] := fun hO => ⟨hO.mono fun _ _ h => h.elim, eY.of_eq (hO.block _ eY.lt id)⟩
 cases T with
 | nil => exact vM hX eY bU fU bS
 | leaf a k v s =>
  refine (zA (X := Nil) (D := RW bits k v) (nZ _) ((dI.imp fun _ h => h.2.2.2).nil) (cA _ _)).mono ?_
  rintro v w' ⟨rfl, hO⟩
  exact ⟨n, rfl, old hO⟩
 | inner a l r =>
  refine (zA (X := Nil) (D := vD bits (l.er.nO bits) (r.er.nO bits)) (nZ _) ((dI.imp fun _ h => h.2.2).nil) (cA _ _)).mono ?_
  rintro v w' ⟨rfl, hO⟩
  exact ⟨n, rfl, old hO⟩
theorem aAd {X : Nat → Prop} {w : World} {bh bc : Nat} {bits n : Int} {l r : Tr} (hX : cY X w) (eY : aN w bc 213 ([.int .i64 n])) (bU : aJ (fun c_ => X c_ ∨ c_ = bc) (fQ bh bc bits) w) (dI : aJ (fun c_ => X c_ ∨ c_ = bc) (cW bits l) w) (fU : aJ (fun c_ => X c_ ∨ c_ = bc) (cW bits r) w) (jY : aJ (fun c_ => X c_ ∨ c_ = bc) (aZ) w) (bS : 0 ≤ bits ∧ bits ≤ 256) (hA : l.addr.isNone = true → r.er.kind = 2) (hB_ : r.addr.isNone = true → l.er.kind = 2) (SO : l.er.gH + r.er.gH ≤ 1000000000) :
  bC prog 140 [.pointer (some ⟨bh, 0, none⟩), l.ptr, r.ptr].toArray w fun v w' => ∃ (T : Tr) (m : Int), v = T.ptr ∧ T.er = .inner l.er r.er ∧ Out (· = bc) w w' ∧ aN w' bc 213 [.int .i64 m] ∧ aJ (fun c => X c ∨ c = bc) (cW bits T) w' := by
 refine bC.aH (N := 44) func140 rfl rfl (by simp) ?_
 have H := ((((St.dG (b := bc) (t := 213) (l := [.int .i64 n]) hX eY).add (cC jY)).add (cC fU)).add (cC dI)).add (cC bU)
 refine WE.aA (WL.as rfl rfl (WL.nil ?_))
 refine WE.cut (α := Unit) (rg [(6, 1), (8, 8)]) (fun _ => []) (fun _ wl => St X w wl [aP.blk bc 213 [.int .i64 n]] [] [fQ bh bc bits, cW bits l, cW bits r, aZ]) ?_ ?_
 ·
  refine WE.aA (WL.mv rfl rfl (WL.pv (PV.jP rfl xK rfl rfl) rfl (WL.mv rfl rfl ?_)))
  refine WL.split (t := 10) rfl (fun NT => ?_) (fun NT => ?_)
  ·
   refine WL.known (t := 9) (c := true) rfl NT ?_
   try simp only [bW] at NT
   refine WL.mv rfl rfl ?_
   refine WL.call lX rfl (eX (X := Nil) (T := r) (nZ _) (by exact (H.bK 2 rfl).nil)) ?_
   rintro _ w1 ⟨rfl, hO⟩
   replace H := H.out hO
   refine WL.pv (PV.neq rfl rfl rfl) rfl (WL.pv (PV.dP rfl rfl rfl) rfl (WL.nil ?_))
   refine WE.bD rfl (by simp [hA NT]) ?_
   refine WE.skip ?_
   exact ⟨(), (by repeat (first | with_reducible exact bM.refl _ _ | refine bM.dD rfl ?_)), trivial, rfl, H⟩
  ·
   refine WL.known (t := 9) (c := false) rfl NT ?_
   try simp only [bW] at NT
   refine WL.off rfl (WL.off rfl (WL.off rfl (WL.pv (PV.dF rfl rfl rfl) rfl (WL.nil (WE.jB rfl (WE.skip ?_))))))
   exact ⟨(), (by repeat (first | with_reducible exact bM.refl _ _ | refine bM.dD rfl ?_)), trivial, rfl, H⟩
 ·
  intro _ γ w2 hI
  try dsimp only at hI
  replace H := hI
  refine WE.cut (α := Unit) (rg [(6, 1), (16, 8)]) (fun _ => []) (fun _ wl => St X w wl [aP.blk bc 213 [.int .i64 n]] [] [fQ bh bc bits, cW bits l, cW bits r, aZ]) ?_ ?_
  ·
   refine WE.aA (WL.mv rfl rfl (WL.pv (PV.jP rfl xK rfl rfl) rfl (WL.mv rfl rfl ?_)))
   refine WL.split (t := 18) rfl (fun s7 => ?_) (fun s7 => ?_)
   ·
    refine WL.known (t := 17) (c := true) rfl s7 ?_
    try simp only [bW] at s7
    refine WL.mv rfl rfl ?_
    refine WL.call lX rfl (eX (X := Nil) (T := l) (nZ _) (by exact (H.bK 1 rfl).nil)) ?_
    rintro _ w3 ⟨rfl, hO⟩
    replace H := H.out hO
    refine WL.pv (PV.neq rfl rfl rfl) rfl (WL.pv (PV.dP rfl rfl rfl) rfl (WL.nil ?_))
    refine WE.bD rfl (by simp [hB_ s7]) ?_
    refine WE.skip ?_
    exact ⟨(), (by repeat (first | with_reducible exact bM.refl _ _ | refine bM.dD rfl ?_)), trivial, rfl, H⟩
   ·
    refine WL.known (t := 17) (c := false) rfl s7 ?_
    try simp only [bW] at s7
    refine WL.off rfl (WL.off rfl (WL.off rfl (WL.pv (PV.dF rfl rfl rfl) rfl (WL.nil (WE.jB rfl (WE.skip ?_))))))
    exact ⟨(), (by repeat (first | with_reducible exact bM.refl _ _ | refine bM.dD rfl ?_)), trivial, rfl, H⟩
  ·
   intro _ γ w4 hI
   try dsimp only at hI
   replace H := hI
   refine WE.aA (WL.mv rfl rfl (WL.mv rfl rfl ?_))
   refine WL.pv (PV.eq (v' := .agg [l.ptr, r.ptr].toArray) (PV.lP rfl UP l5 aAr (Fl.cons rfl rfl (by simp only [aS, aX, Tr.aT, Tr.bQ, Tr.bP]) (Laid.aB3 0 (by simp only [aS, aX, Tr.aT, Tr.bQ, Tr.bP]; omega)) (Fl.cons rfl rfl (by simp only [aS, aX, Tr.aT, Tr.bQ, Tr.bP]) (Laid.aB3 1 (by simp [aI, aQ, *])) Fl.nil))) rfl) rfl ?_
   refine WL.alloc H rfl aAr rfl ?_
   intro b7 w5 H
   refine WL.aW H 0 rfl rfl rfl (new := _) rfl (by exact KP) (bA _ rfl) (Laid.at (Laid.all (by simp only [aS, aX, Tr.aT, Tr.bQ, Tr.bP])) rfl) rfl ?_
   intro w6 H
   refine WL.nil ?_
   refine WE.bH (.take 0 (.take 1 (.take 2 (.take 3 (.take 5 (.take 6 (.take 9 (.take 11 (.aG 4 (.aG 7 (.take 8 (.aG 10 (.aG 12 (.take 13 (.take 14 (.take 15 (.aG 16 (.take 17 .done)))))))))))))))))) mixed (by kernel_rfl) ?_
   replace H := H.out (Out.drew _)
   refine WP.mv rfl rfl rfl ?_
   refine WP.dN rfl rfl rfl UY rfl (aN.aF (H.l 0 rfl) (aK.all _) rfl) (by exact KP) ?_
   refine WP.mv rfl rfl rfl (WP.mv rfl rfl rfl (WP.mv rfl rfl rfl (WP.mv rfl rfl rfl (WP.mv rfl rfl rfl (WP.mv rfl rfl rfl (WP.aG rfl ?_))))))
   refine WL.call N4 rfl (qI (T := l) H.aR (H.o 0 rfl) (by exact H.aO 0 rfl 0 rfl) (by exact H.aO 0 rfl 1 rfl) (by exact H.aO 0 rfl 3 rfl) bS) ?_
   rintro _ w7 ⟨aKK, rfl, hO, hB⟩
   replace H := H.fA 0 rfl hO hB
   refine WL.nil ⟨(fa (fun _ _ => (aN.aF (H.l 0 rfl) (aK.all _) rfl)) c5), ?_⟩
   refine WP.aG rfl ?_
   refine WL.call N4 rfl (qI (T := r) H.aR (H.o 0 rfl) (by exact H.aO 0 rfl 0 rfl) (by exact H.aO 0 rfl 2 rfl) (by exact H.aO 0 rfl 3 rfl) bS) ?_
   rintro _ w8 ⟨aKJ, rfl, hO, hB⟩
   replace H := H.fA 0 rfl hO hB
   refine WL.nil ⟨(fa (fun _ _ => (aN.aF (H.l 0 rfl) (aK.all _) rfl)) c5), ?_⟩
   refine WP.aC rfl rfl (PV.lP rfl yV c9 PQ (Fl.cons rfl rfl (by simp only [aS, aX, Tr.aT, Tr.bQ, Tr.bP]) (Laid.left (Laid.all (by simp only [aS, aX, Tr.aT, Tr.bQ, Tr.bP]))) (Fl.cons rfl rfl (by simp only [aS, aX, Tr.aT, Tr.bQ, Tr.bP]) (Laid.right (Laid.all (by simp only [aS, aX, Tr.aT, Tr.bQ, Tr.bP])) (by simp only [aS, aX, Tr.aT, Tr.bQ, Tr.bP])) Fl.nil))) ?_
   refine WP.aG rfl ?_
   refine WL.call aFP rfl (aBv (X := Nil) (T := l) (nZ _) (by exact (H.bK 1 rfl).nil)) ?_
   rintro _ w9 ⟨rfl, hO⟩
   replace H := H.out hO
   refine WL.nil ⟨(fa (rk hO) c5), ?_⟩
   refine WP.aG rfl ?_
   refine WL.call aFP rfl (aBv (X := Nil) (T := r) (nZ _) (by exact (H.bK 2 rfl).nil)) ?_
   rintro _ tM ⟨rfl, hO⟩
   replace H := H.out hO
   refine WL.nil ⟨(fa (rk hO) c5), ?_⟩
   refine WP.aC rfl rfl (PV.eq (v' := .int .i64 ((l.er.gH + r.er.gH : Nat) : Int)) (PV.bT rfl rfl rfl (by omega) (by omega)) (by congr 1)) ?_
   refine WP.aC rfl rfl (PV.dM rfl aAD PO (Fl.cons rfl rfl (by simp only [aS, aX, Tr.aT, Tr.bQ, Tr.bP]) (Laid.left (Laid.all (by simp only [aS, aX, Tr.aT, Tr.bQ, Tr.bP]))) (Fl.cons rfl rfl (by simp only [aS, aX, Tr.aT, Tr.bQ, Tr.bP]) (Laid.right (Laid.left (Laid.all (by simp only [aS, aX, Tr.aT, Tr.bQ, Tr.bP]))) (by simp only [aS, aX, Tr.aT, Tr.bQ, Tr.bP])) (Fl.cons rfl rfl (by simp only [aS, aX, Tr.aT, Tr.bQ, Tr.bP]) (Laid.right (Laid.right (Laid.all (by simp only [aS, aX, Tr.aT, Tr.bQ, Tr.bP])) rfl) (by simp only [aS, aX, Tr.aT, Tr.bQ, Tr.bP])) Fl.nil)))) ?_
   refine WP.aC rfl rfl (PV.K2 rfl L0) (WP.aG rfl ?_)
   refine WL.call aA8 rfl (DZ (d := l.er.nO bits) (e := r.er.nO bits) (x := l.ptr) (y := r.ptr) H.aR (H.o 0 rfl) (by exact H.aO 0 rfl 0 rfl) (by exact H.aO 0 rfl 3 rfl) bS (eT _ _) (eT _ _)) ?_
   rintro _ wT ⟨a2, m2, rfl, hO, hB, hR⟩
   replace H := H.dH 0 rfl hO hB hR
   refine WL.nil ⟨(fa (nw 16 1) c5), ?_⟩
   refine WP.as rfl rfl rfl (WP.done (WE.ret ⟨[_], _, .nil _, ⟨rfl, trivial⟩, ?_⟩))
   exact ⟨.inner a2 l r, m2, rfl, rfl, H.cR, H.o 0 rfl, (H.fV (aJ.aHC (H.bK 2 rfl) (H.bK 3 rfl) (H.bK 0 rfl))).imp fun _ h => h⟩
theorem aAc {X : Nat → Prop} {w : World} {h : Value} {bits : Int} {r : Tr} (hX : cY X w) (bU : aJ X (cW bits r) w) (hk : r.er.kind ≠ 2) :
  bC prog 140 [h, .pointer none, r.ptr].toArray w fun v w' => v = r.ptr ∧ Out Nil w w' := by
 refine bC.aH (N := 44) func140 rfl rfl (by simp) ?_
 have H := (St.begin hX).add (cE bU)
 refine WE.aA (WL.as rfl rfl (WL.nil (WE.seq (WE.aA (WL.mv rfl rfl (WL.pv (PV.jP rfl xK rfl rfl) rfl (WL.mv rfl rfl ?_)))))))
 refine WL.known (t := 10) (c := true) rfl rfl (WL.mv rfl rfl ?_)
 refine WL.call lX rfl (eX (T := r) H.aR (H.bK 0 rfl)) ?_
 rintro _ w1 ⟨rfl, hO⟩
 replace H := H.out hO
 refine WL.pv (PV.neq rfl rfl rfl) rfl (WL.pv (PV.dP rfl rfl rfl) rfl (WL.nil ?_))
 refine WE.cS rfl (by simp [hk]) ?_
 refine WE.aA (WL.mv rfl rfl (WL.as rfl rfl (WL.nil (WE.ret ⟨[_], _, .nil _, ⟨rfl, trivial⟩, ?_⟩))))
 exact ⟨rfl, H.aL⟩
theorem aAb {X : Nat → Prop} {w : World} {h : Value} {bits : Int} {l : Tr} (hX : cY X w) (bU : aJ X (cW bits l) w) (hn : l.addr.isNone = false) (hk : l.er.kind ≠ 2) :
  bC prog 140 [h, l.ptr, .pointer none].toArray w fun v w' => v = l.ptr ∧ Out Nil w w' := by
 refine bC.aH (N := 44) func140 rfl rfl (by simp) ?_
 have H := (St.begin hX).add (cE bU)
 refine WE.aA (WL.as rfl rfl (WL.nil (WE.seq (WE.aA (WL.mv rfl rfl (WL.pv (PV.jP rfl xK rfl rfl) rfl (WL.mv rfl rfl ?_)))))))
 refine WL.known (t := 10) (c := false) rfl hn (WL.off rfl (WL.off rfl (WL.off rfl (WL.pv (PV.dF rfl rfl rfl) rfl (WL.nil (WE.jB rfl (WE.skip ?_)))))))
 refine WE.seq (WE.aA (WL.mv rfl rfl (WL.pv (PV.jP rfl xK rfl rfl) rfl (WL.mv rfl rfl (WL.known (t := 18) (c := true) rfl rfl (WL.mv rfl rfl ?_))))))
 refine WL.call lX rfl (eX (T := l) H.aR (H.bK 0 rfl)) ?_
 rintro _ w1 ⟨rfl, hO⟩
 replace H := H.out hO
 refine WL.pv (PV.neq rfl rfl rfl) rfl (WL.pv (PV.dP rfl rfl rfl) rfl (WL.nil ?_))
 refine WE.cS rfl (by simp [hk]) ?_
 refine WE.aA (WL.mv rfl rfl (WL.as rfl rfl (WL.nil (WE.ret ⟨[_], _, .nil _, ⟨rfl, trivial⟩, ?_⟩))))
 exact ⟨rfl, H.aL⟩
theorem Tr.IG {T : Tr} (h : T.addr.isNone = true) : T = .nil := by cases T <;> first | rfl | cases h
theorem Tr.UZ {T : Tr} (h : T ≠ .nil) : T.addr.isNone = false := by cases T <;> first | rfl | exact absurd rfl h
theorem X7 {s : Sh} (h : s.kind ≠ 2) : kM .nil s = s := by cases s <;> first | rfl | exact absurd rfl h
theorem X6 {s : Sh} (h : s.kind ≠ 2) : kM s .nil = s := by cases s <;> first | rfl | exact absurd rfl h
theorem X8 {s t : Sh} (h1 : s = .nil → t.kind = 2) (h2 : t = .nil → s.kind = 2) : kM s t = .inner s t := by
 cases s <;> cases t <;> first | rfl | (have := h1 rfl; simp [Sh.kind] at this; done) | (have := h2 rfl; simp [Sh.kind] at this)
theorem y8 {X : Nat → Prop} {w : World} {bh bc : Nat} {bits n : Int} {l r : Tr} (hX : cY X w) (eY : aN w bc 213 [.int .i64 n]) (bU : aJ (fun c => X c ∨ c = bc) (fQ bh bc bits) w)
  (dI : aJ (fun c => X c ∨ c = bc) (cW bits l) w) (fU : aJ (fun c => X c ∨ c = bc) (cW bits r) w) (jY : aJ (fun c => X c ∨ c = bc) aZ w) (bS : 0 ≤ bits ∧ bits ≤ 256) (SO : l.er.gH + r.er.gH ≤ 1000000000) :
  bC prog 140 [.pointer (some ⟨bh, 0, none⟩), l.ptr, r.ptr].toArray w fun v w' => ∃ (T : Tr) (m : Int), v = T.ptr ∧ T.er = kM l.er r.er ∧ Out (· = bc) w w' ∧ aN w' bc 213 [.int .i64 m] ∧ aJ (fun c => X c ∨ c = bc) (cW bits T) w' := by
 have old : ∀ {w' : World}, Out Nil w w' → Out (· = bc) w w' ∧ aN w' bc 213 [.int .i64 n] := fun hO => ⟨hO.mono fun _ _ h => h.elim, eY.of_eq (hO.block _ eY.lt id)⟩
 have bK : ∀ {w' : World} {T : Tr}, aJ (fun c => X c ∨ c = bc) (cW bits T) w → Out Nil w w' → aJ (fun c => X c ∨ c = bc) (cW bits T) w' := fun h hO => h.out hO (fun _ _ h => h.elim) fun _ _ h => h
 by_cases h1 : l = .nil ∧ r.er.kind ≠ 2
 ·
  obtain ⟨rfl, hk⟩ := h1
  refine (aAc (X := Nil) (nZ _) fU.nil hk).mono ?_
  rintro v w' ⟨rfl, hO⟩
  exact ⟨r, n, rfl, (X7 hk).symm, (old hO).1, (old hO).2, bK fU hO⟩
 ·
  by_cases h2 : r = .nil ∧ l.er.kind ≠ 2
  ·
   obtain ⟨rfl, hk⟩ := h2
   have hn : l ≠ .nil := fun e => h1 ⟨e, by simp [Tr.er, Sh.kind]⟩
   refine (aAb (X := Nil) (nZ _) dI.nil (Tr.UZ hn) hk).mono ?_
   rintro v w' ⟨rfl, hO⟩
   exact ⟨l, n, rfl, (X6 hk).symm, (old hO).1, (old hO).2, bK dI hO⟩
  ·
   have e1 : l = .nil → r.er.kind = 2 := fun e => Decidable.byContradiction fun h => h1 ⟨e, h⟩
   have e2 : r = .nil → l.er.kind = 2 := fun e => Decidable.byContradiction fun h => h2 ⟨e, h⟩
   refine (aAd hX eY bU dI fU jY bS (fun h => e1 (Tr.IG h)) (fun h => e2 (Tr.IG h)) SO).mono ?_
   rintro v w' ⟨T, m, rfl, hT, h⟩
   refine ⟨T, m, rfl, ?_, h⟩
   rw [hT, X8]
   ·
    intro e; cases l <;> first | exact e1 rfl | cases e
   ·
    intro e; cases r <;> first | exact e2 rfl | cases e
end Go.Sp.Tryz
