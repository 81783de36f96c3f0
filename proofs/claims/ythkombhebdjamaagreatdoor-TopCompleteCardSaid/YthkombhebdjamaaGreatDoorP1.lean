/- Part of the proof of this claim: walks through the program's functions and the plain laws that they need, printed by a program of this session. -/
import Derived.Test.YthkombhebdjamaaGreatDoorTy
import Derived.Test.YthkombhebdjamaaGreatDoorWords
import Derived.Test.YthkombhebdjamaaGreatDoorBytes
import Derived.Test.YthkombhebdjamaaGreatDoorMore
set_option maxRecDepth 100000
set_option maxHeartbeats 1000000
set_option linter.unusedVariables false
set_option linter.unusedSimpArgs false
namespace Go.Sp.Tryz
open Go.Proofs Go.RowKit Go.Sp Go.Sp.TryzT
variable {X : Nat → Prop} {w : World}
def nX (x : UInt32) (n : Nat) : UInt32 := (x >>> UInt32.ofNat n) ||| (x <<< UInt32.ofNat (32 - n))
def j6 (x : UInt32) (l : List Nat) : UInt32 := l.foldl (fun s n => s ^^^ nX x n) 0
theorem C6 (x : UInt32) (l : List Nat) (k : Nat) (h : k < l.length) : j6 x (l.take (k + 1)) = j6 x (l.take k) ^^^ nX x l[k] := by
 unfold j6
 rw [List.take_succ_eq_append_getElem h, List.foldl_append]; rfl
theorem aF6 : ∀ n : Fin 32, 0 < n.val → IntKind.u64.wrap ((BitVec.ofInt IntKind.u64.bits (IntKind.u64.wrap (-(n.val : Int))) &&& BitVec.ofInt IntKind.u64.bits 31).toNat) = ((32 - n.val : Nat) : Int) := by decide +kernel
def CK (v : Value) (l : List Nat) (w : World) : Prop := jV v (l.map fun (n : Nat) => Value.int .i64 (n : Int)) w
theorem CK.rd {v : Value} {l : List Nat} {w : World} (h : CK v l w) (i : Nat) (hi : i < l.length) : cX w (jD v (i * 1)) [.int .i64 (l[i] : Int)] := by
 have := jV.rd h i (by simpa using hi)
 simpa using this
theorem CK.sl {v : Value} {l : List Nat} {w : World} (h : CK v l w) : cS w v 1 l.length (l.map fun (n : Nat) => Value.int .i64 (n : Int)) := by
 have : cS w v 1 (l.map fun (n : Nat) => Value.int .i64 (n : Int)).length (l.map fun (n : Nat) => Value.int .i64 (n : Int)) := h
 simpa using this
def nJ (n : Int) : Int := if n < 0 ∨ 1152921504606846976 < n then 0 else (n + 72) / 64
theorem aGH {X : Nat → Prop} {w : World} {x : UInt32} {n : Nat} (hX : cW X w) (hn0 : 0 < n) (hn : n < 32) :
  bD Tryz.prog 158 [.int .u32 (x.toNat : Int), .int .u64 (n : Int)].toArray w fun v w' => v = .int .u32 ((nX x n).toNat : Int) ∧ Out Nil w w' := by
 refine bD.aI (N := 13) Tryz.func158 rfl rfl (by simp) ?_
 have H := St.begin hX
 refine WE.aA (WL.as rfl rfl (WL.nil (WE.aA (WL.mv rfl rfl (WL.mv rfl rfl (WL.pv (PV.C0 (n := n) rfl rfl rfl (by omega)) rfl (WL.mv rfl rfl ?_)))))))
 refine WL.mv rfl rfl ?_
 refine WL.pv (PV.eq (v' := .int .u64 ((32 - n : Nat) : Int)) (PV.aAz rfl rfl rfl) (by rw [nQ]; congr 1; omega)) rfl ?_
 refine WL.pv (PV.N6 (n := 32 - n) rfl rfl rfl (by omega)) rfl (WL.pv (PV.O4 rfl rfl rfl) rfl (WL.as rfl rfl (WL.nil (WE.ret ⟨[_], _, .nil _, ⟨rfl, trivial⟩, ?_⟩))))
 exact ⟨rfl, H.aM⟩
theorem xY {X : Nat → Prop} {w : World} {x : UInt32} {n : Nat} (hX : cW X w) (hn0 : 0 < n) (hn : n < 32) :
  bD Tryz.prog 205 [.int .u32 (x.toNat : Int), .int .i64 (-(n : Int))].toArray w fun v w' => v = .int .u32 ((nX x n).toNat : Int) ∧ Out Nil w w' := by
 refine bD.aI (N := 17) Tryz.func205 rfl rfl (by simp) ?_
 have H := St.begin hX
 refine WE.aA (WL.as rfl rfl (WL.nil (WE.aA (WL.mv rfl rfl (WL.pv (PV.conv rfl yD DR rfl) rfl ?_)))))
 refine WL.pv (PV.eq (v' := .int .u64 ((32 - n : Nat) : Int)) (PV.G9 rfl rfl rfl) (congrArg (Value.int .u64) (aF6 ⟨n, hn⟩ hn0))) rfl ?_
 refine WL.as rfl rfl (WL.nil (WE.aA (WL.mv rfl rfl (WL.mv rfl rfl (WL.pv (PV.N6 (n := 32 - n) rfl rfl rfl (by omega)) rfl (WL.mv rfl rfl (WL.mv rfl rfl ?_)))))))
 refine WL.pv (PV.eq (v' := .int .u64 ((n : Nat) : Int)) (PV.aAz rfl rfl rfl) (by rw [nQ]; congr 1; omega)) rfl ?_
 refine WL.pv (PV.C0 (n := n) rfl rfl rfl (by omega)) rfl (WL.pv (PV.O4 rfl rfl rfl) rfl (WL.as rfl rfl (WL.nil (WE.ret ⟨[_], _, .nil _, ⟨rfl, trivial⟩, ?_⟩))))
 refine ⟨?_, H.aM⟩
 show Value.int .u32 _ = _
 rw [UInt32.or_comm]; rfl
theorem l9 {X : Nat → Prop} {w : World} {x : UInt32} {s : Value} {l : List Nat} (hX : cW X w) (bU : aH X (CK s l) w) (hl : ∀ n ∈ l, 0 < n ∧ n < 32) (M8 : l.length ≤ 1000) :
  bD Tryz.prog 192 [.int .u32 (x.toNat : Int), s].toArray w fun v w' => v = .int .u32 ((j6 x l).toNat : Int) ∧ Out Nil w w' := by
 refine bD.aI (N := 22) Tryz.func192 rfl rfl (by simp) ?_
 have H := St.begin hX
 replace H := H.add (cF bU)
 refine WE.aA (WL.as rfl rfl (WL.nil (WE.aA (WL.as rfl rfl (WL.nil (WE.seq (WE.aA ?_)))))))
 refine WL.mv rfl rfl (WL.pv (PV.dO (CK.sl (H.p 0 rfl)) CY rfl) rfl (WL.mv rfl rfl (WL.nil (WE.block ?_))))
 refine WE.loop (α := Nat) [5, 7, 10, 11, 12, 13, 14, 15, 16, 17, 18, 19, 20] (fun k => [(10, .int .i64 k), (5, .int .u32 ((j6 x (l.take k)).toNat : Int))]) (fun k wl => k ≤ l.length ∧ St X w wl [] [] [CK s l]) (fun k => l.length - k) 0 ⟨rfl, rfl, trivial⟩ ⟨Nat.zero_le _, H⟩ ?_
 intro k γ0 w1 hI
 try dsimp only at hI
 obtain ⟨hk, H⟩ := hI
 refine WE.aA (WL.pv (PV.lss rfl rfl rfl) rfl (WL.nil (WE.seq ?_)))
 refine WE.cond rfl (fun kC => ?_) (fun kC => ?_)
 ·
  try simp only [bW] at kC
  have hlt : k < l.length := by omega
  have hR := C6 x l k hlt
  refine WE.skip (WE.seq (WE.block (WE.aA (WL.pv (PV.eQ rfl (CK.sl (H.p 0 rfl)) CY sz3 rfl rfl (by omega) (by omega)) rfl (WL.aZ rfl oZ rfl rfl (CK.rd (H.p 0 rfl) k hlt) (WL.as rfl rfl (WL.nil ?_)))))))
  refine WE.eM (WL.mv rfl rfl (WL.mv rfl rfl (WL.mv rfl rfl ?_)))
  refine WL.pv (PV.eq (v' := .int .i64 (-(l[k] : Int))) (PV.aGU rfl rfl) (by have := hl _ (List.getElem_mem hlt); rw [wrap64_in (by omega) (by omega)]; congr 1; omega)) rfl ?_
  refine WL.call aEU rfl (xY (x := x) (n := l[k]) H.aS (hl _ (List.getElem_mem hlt)).1 (hl _ (List.getElem_mem hlt)).2) ?_
  rintro _ w2 ⟨rfl, hO⟩
  replace H := H.out hO
  refine WL.pv (PV.rP rfl rfl rfl) rfl (WL.as rfl rfl (WL.nil (WE.eM (WL.pv (PV.bZ rfl rfl rfl (by omega) (by omega)) rfl (WL.mv rfl rfl (WL.nil ?_))))))
  exact ⟨k + 1, (by repeat (first | with_reducible exact bQ.refl _ _ | refine bQ.dB rfl ?_ | refine bQ.cE rfl ?_ | refine bQ.cB rfl ?_)), ⟨rfl, by rw [hR]; rfl, trivial⟩, rfl, ⟨by omega, H⟩, (by omega)⟩
 ·
  try simp only [bW] at kC
  have hge : k = l.length := by omega
  refine WE.exit (WE.aA (WL.mv rfl rfl (WL.as rfl rfl (WL.nil (WE.ret ⟨[_], _, .nil _, ⟨rfl, trivial⟩, ?_⟩)))))
  refine ⟨?_, H.aM⟩
  subst hge
  show Value.int .u32 _ = _
  rw [List.take_length]
theorem TF {X : Nat → Prop} {w : World} {n : Int} (hX : cW X w) (hn : -9223372036854775808 ≤ n ∧ n ≤ 9223372036854775807) :
  bD Tryz.prog 194 [.int .i64 n].toArray w fun v w' => v = .int .i64 (nJ n) ∧ Out Nil w w' := by
 refine bD.aI (N := 13) Tryz.func194 rfl rfl (by simp) ?_
 have H := St.begin hX
 refine WE.aA (WL.as rfl rfl (WL.nil (WE.seq (WE.aA (WL.mv rfl rfl (WL.pv (PV.lss rfl rfl rfl) rfl (WL.mv rfl rfl ?_)))))))
 refine WL.split (t := 5) rfl (fun QC => ?_) (fun QC => ?_)
 ·
  refine WL.known (t := 4) (c := true) rfl QC ?_
  try simp only [bW] at QC
  refine WL.off rfl (WL.off rfl (WL.pv (PV.dH rfl rfl rfl) rfl (WL.nil (WE.kY rfl (WE.aA (WL.as rfl rfl (WL.nil ?_)))))))
  refine WE.ret ⟨[_], _, .nil _, ⟨rfl, trivial⟩, ?_⟩
  refine ⟨?_, H.aM⟩
  rw [nJ, if_pos (by omega)]; rfl
 ·
  refine WL.known (t := 4) (c := false) rfl QC ?_
  try simp only [bW] at QC
  refine WL.mv rfl rfl (WL.pv (PV.gtr rfl rfl rfl) rfl (WL.pv (PV.c5 rfl rfl rfl) rfl (WL.nil ?_)))
  refine WE.cond rfl (fun mO => ?_) (fun mO => ?_)
  ·
   try simp only [bW] at mO
   refine WE.aA (WL.as rfl rfl (WL.nil (WE.ret ⟨[_], _, .nil _, ⟨rfl, trivial⟩, ?_⟩)))
   refine ⟨?_, H.aM⟩
   rw [nJ, if_pos (by omega)]; rfl
  ·
   try simp only [bW] at mO
   refine WE.skip (WE.aA (WL.mv rfl rfl (WL.pv (PV.bZ rfl rfl rfl (by omega) (by omega)) rfl (WL.pv (PV.bZ rfl rfl rfl (by omega) (by omega)) rfl (WL.pv (PV.zC rfl rfl rfl (by omega) (by omega) (by omega)) rfl (WL.as rfl rfl (WL.nil ?_)))))))
   refine WE.ret ⟨[_], _, .nil _, ⟨rfl, trivial⟩, ?_⟩
   refine ⟨?_, H.aM⟩
   rw [nJ, if_neg (by omega)]
   show Value.int .i64 _ = _
   congr 1; omega
theorem UG {X : Nat → Prop} {w : World}  (hX : cW X w) :
  bD Tryz.prog 159 [].toArray w fun v w' => v = .agg (kw [1779033703, 3144134277, 1013904242, 2773480762, 1359893119, 2600822924, 528734635, 1541459225]).toArray ∧ Out Nil w w' := by
 refine bD.aI (N := 2) Tryz.func159 rfl rfl (by decide +revert) ?_
 have H := St.begin hX
 refine WE.aA ?_
 refine WL.alloc H rfl NG rfl ?_
 intro b0 w1 H
 refine WL.nil (WE.aA ?_)
 refine WL.pv (PV.mM rfl oR fS NG (Fl.cons rfl rfl rfl (Laid.iW (x := 1779033703) 0 (by simp)) (Fl.cons rfl rfl rfl (Laid.iW (x := 3144134277) 1 (by simp)) (Fl.cons rfl rfl rfl (Laid.iW (x := 1013904242) 2 (by simp)) (Fl.cons rfl rfl rfl (Laid.iW (x := 2773480762) 3 (by simp)) (Fl.cons rfl rfl rfl (Laid.iW (x := 1359893119) 4 (by simp)) (Fl.cons rfl rfl rfl (Laid.iW (x := 2600822924) 5 (by simp)) (Fl.cons rfl rfl rfl (Laid.iW (x := 528734635) 6 (by simp)) (Fl.cons rfl rfl rfl (Laid.iW (x := 1541459225) 7 (by simp)) Fl.nil))))))))) rfl ?_
 refine WL.aT H 0 rfl rfl rfl (new := _) rfl (by exact N1) (by exact PO _) (Laid.at (Laid.all (by (simp [aN, bA, *]; done))) (by rfl)) rfl ?_
 intro w2 H
 refine WL.nil (WE.ret ⟨[_], _, .nil _, ⟨⟨_, rfl, aV aGb (by exact aK.aF (H.l 0 rfl) (aJ.all _) rfl) (by exact N1)⟩, trivial⟩, ?_⟩)
 exact ⟨rfl, H.aM⟩
theorem aCx {x y : UInt8} : ((x.toNat : Int) = (y.toNat : Int)) ↔ x = y := ⟨fun h => UInt8.toNat_inj.1 (by omega), fun h => by rw [h]⟩
theorem SQ {X : Nat → Prop} {w : World} {a b : Value} {la lb : List UInt8} (hX : cW X w) (bU : aH X (bI a la) w) (dA : aH X (bI b lb) w) (wX : la.length ≤ 9223372036854775807) :
  bD Tryz.prog 46 [a, b].toArray w fun v w' => v = .bool (decide (la = lb)) ∧ Out Nil w w' := by
 refine bD.aI (N := 26) Tryz.func46 rfl rfl (by simp) ?_
 have H := St.begin hX
 replace H := H.add (cF dA)
 replace H := H.add (cF bU)
 refine WE.aA (WL.as rfl rfl (WL.nil (WE.seq (WE.aA (WL.mv rfl rfl (WL.pv (PV.dO (H.p 0 rfl) eV rfl) rfl (WL.mv rfl rfl ?_)))))))
 refine WL.pv (PV.dO (H.p 1 rfl) eV rfl) rfl (WL.pv (PV.neq rfl rfl rfl) rfl (WL.nil ?_))
 refine WE.cond rfl (fun kS => ?_) (fun kS => ?_)
 ·
  try simp only [bW] at kS
  have hne : la ≠ lb := fun e => kS (by rw [e])
  refine WE.aA (WL.as rfl rfl (WL.nil (WE.ret ⟨[_], _, .nil _, ⟨rfl, trivial⟩, ?_⟩)))
  exact ⟨by simp [A2, hne]; rfl, H.aM⟩
 ·
  try simp only [bW] at kS
  have hlen : la.length = lb.length := by omega
  refine WE.skip (WE.seq (WE.aA (WL.as rfl rfl (WL.nil (WE.block ?_)))))
  refine WE.loop (α := Nat) [4, 5, 11, 12, 13, 14, 15, 16, 17, 18, 19, 20, 21, 22, 23, 24, 25] (fun k => [(5, .int .i64 k)]) (fun k wl => k ≤ la.length ∧ (∀ j (h : j < la.length) (h' : j < lb.length), j < k → la[j] = lb[j]) ∧ St X w wl [] [] [bI a la, bI b lb]) (fun k => la.length - k) 0 ⟨rfl, trivial⟩ ⟨Nat.zero_le _, fun j _ _ h => by omega, H⟩ ?_
  intro k γ0 w1 hI
  try dsimp only at hI
  obtain ⟨hk, hpre, H⟩ := hI
  refine WE.seq (WE.aA (WL.mv rfl rfl (WL.mv rfl rfl (WL.pv (PV.dO (H.p 0 rfl) eV rfl) rfl (WL.pv (PV.lss rfl rfl rfl) rfl (WL.nil ?_))))))
  refine WE.cond rfl (fun q9 => ?_) (fun q9 => ?_)
  ·
   try simp only [bW] at q9
   have hlt : k < la.length := by omega
   refine WE.skip (WE.seq (WE.block ?_))
   refine WE.bF (.take 0 (.take 1 (.take 2 (.take 3 (.take 4 (.take 5 (.take 6 (.take 7 (.take 8 .done))))))))) mixed (by kernel_rfl) ?_
   replace H := H.out (Out.drew _)
   refine WP.mv rfl rfl rfl (WP.mv rfl rfl rfl (WP.aC rfl rfl (PV.eQ rfl (H.p 0 rfl) eV iB rfl rfl (by omega) (by omega)) (WP.aQ rfl rfl (RV.aY rfl B7 rfl) (bI.rd (H.p 0 rfl) k hlt) (WP.mv rfl rfl rfl (WP.mv rfl rfl rfl (WP.aC rfl rfl (PV.eQ rfl (H.p 1 rfl) eV iB rfl rfl (by omega) (by omega)) (WP.aQ rfl rfl (RV.aY rfl B7 rfl) (bI.rd (H.p 1 rfl) k (by omega)) ?_)))))))
   refine WP.aC rfl rfl (PV.neq rfl rfl rfl) (WP.done ?_)
   refine WE.cond rfl (fun q7 => ?_) (fun q7 => ?_)
   ·
    try simp only [bW] at q7
    have hne : la ≠ lb := fun e => by subst e; exact q7 rfl
    refine WE.aA (WL.as rfl rfl (WL.nil (WE.ret ⟨[_], _, .nil _, ⟨rfl, trivial⟩, ?_⟩)))
    exact ⟨by simp [A2, hne]; rfl, H.aM⟩
   ·
    try simp only [bW] at q7
    have heq : la[k] = lb[k] := aCx.1 q7
    refine WE.skip (WE.eM (WL.mv rfl rfl (WL.pv (PV.bZ rfl rfl rfl (by omega) (by omega)) rfl (WL.as rfl rfl (WL.nil ?_)))))
    exact ⟨k + 1, (by repeat (first | with_reducible exact bQ.refl _ _ | refine bQ.dB rfl ?_ | refine bQ.cE rfl ?_ | refine bQ.cB rfl ?_)), ⟨rfl, trivial⟩, rfl, ⟨by omega, fun j h h' hj => by (by_cases e : j = k; (subst e; exact heq); exact hpre j h h' (by omega)), H⟩, (by omega)⟩
  ·
   try simp only [bW] at q9
   have hge : ¬ k < la.length := by omega
   refine WE.exit (WE.aA (WL.as rfl rfl (WL.nil (WE.ret ⟨[_], _, .nil _, ⟨rfl, trivial⟩, ?_⟩))))
   have e : la = lb := List.ext_getElem hlen fun i h h' => hpre i h h' (by omega)
   exact ⟨by simp [A2, e]; rfl, H.aM⟩
theorem S8 {X : Nat → Prop} {w : World} {n : Nat} (hX : cW X w) (hn : n ≤ 70368744177664) :
  bD Tryz.prog 78 [.slice none 0 0, .int .i64 n].toArray w fun v w' => Out Nil w w' ∧ w'.ownsRow w.heap.size 5 1 v 0 [] := by
 refine bD.aI (N := 27) Tryz.func78 rfl rfl (by simp) ?_
 have H := St.begin hX
 refine WE.aA (WL.as rfl rfl (WL.nil (WE.seq (WE.aA (WL.mv rfl rfl (WL.pv (PV.lss rfl rfl rfl) rfl (WL.nil ?_)))))))
 refine WE.bB rfl (by simp) ?_
 refine WE.skip (WE.seq (WE.aA (WL.mv rfl rfl (WL.mv rfl rfl (WL.pv (PV.J1 eV rfl) rfl (WL.mv rfl rfl (WL.pv (PV.zO eV rfl) rfl ?_)))))))
 refine WL.pv (PV.iT rfl rfl rfl (by omega) (by omega)) rfl (WL.pv (PV.iT rfl rfl rfl (by omega) (by omega)) rfl (WL.as rfl rfl (WL.nil (WE.aA (WL.mv rfl rfl (WL.pv (PV.gtr rfl rfl rfl) rfl (WL.nil ?_)))))))
 refine WE.cond rfl (fun tO => ?_) (fun tO => ?_)
 ·
  try simp only [bW] at tO
  have hpos : 0 < n := by omega
  refine WE.eM (WL.mv rfl rfl (WL.mv rfl rfl (WL.pv (PV.J1 eV rfl) rfl (WL.pv (PV.UB rfl (cS.nil w 1) eV iB rfl rfl (by omega) (by omega)) rfl (WL.mv rfl rfl ?_)))))
  refine WL.E1 (n := n) H jZ yD (by decide) rfl (by simp [ev]; rfl) hpos (by omega) (by decide) rfl ?_
  intro g cap cs w2 H
  refine WL.mv rfl rfl (WL.pv (PV.zO eV rfl) rfl ?_)
  refine WL.aGT H 0 rfl eV rfl rfl rfl rfl rfl ?_
  intro H
  refine WL.as rfl rfl (WL.nil (WE.aA (WL.mv rfl rfl (WL.as rfl rfl (WL.nil (WE.ret ⟨[_], _, .nil _, ⟨rfl, trivial⟩, ?_⟩))))))
  exact ⟨H.aM, H.l 0 rfl⟩
 ·
  try simp only [bW] at tO
  have hz : n = 0 := by omega
  refine WE.skip (WE.aA (WL.mv rfl rfl (WL.as rfl rfl (WL.nil (WE.ret ⟨[_], _, .nil _, ⟨rfl, trivial⟩, ?_⟩)))))
  exact ⟨H.aM, World.ownsRow_nil _ _ _ _⟩
theorem gD (ls : List (List UInt8)) (k : Nat) (h : k < ls.length) : (ls.take (k + 1)).flatten = (ls.take k).flatten ++ ls[k] := by
 rw [List.take_succ_eq_append_getElem h, List.flatten_append]; simp
theorem fW (ls : List (List UInt8)) (k : Nat) : (ls.take k).flatten.length ≤ ls.flatten.length := by
 have h : ls.flatten = (ls.take k).flatten ++ (ls.drop k).flatten := by rw [← List.flatten_append, List.take_append_drop]
 rw [h, List.length_append]; omega
theorem TE {X : Nat → Prop} {w : World} {s : Value} {vs : List Value} {ls : List (List UInt8)} (hX : cW X w) (bU : aH X (jV s vs) w) (dA : aH X (pR vs ls) w) (hvs : vs.length ≤ 1000000) (aDq : ls.flatten.length ≤ 70368744177664) :
  bD Tryz.prog 37 [s].toArray w fun v w' => Out Nil w w' ∧ aH X (bI v ls.flatten) w' := by
 refine bD.aI (N := 36) Tryz.func37 rfl rfl (by simp) ?_
 have H := St.begin hX
 replace H := H.add (cF dA)
 replace H := H.add (cF bU)
 have hlen : vs.length = ls.length := (H.p 1 rfl : pR vs ls w).1
 refine WE.aA (WL.as rfl rfl (WL.nil (WE.aA (WL.as rfl rfl (WL.nil (WE.seq (WE.aA ?_)))))))
 refine WL.mv rfl rfl (WL.pv (PV.dO (H.p 0 rfl) rU rfl) rfl (WL.mv rfl rfl (WL.nil (WE.block ?_))))
 refine WE.loop (α := Nat) [3, 5, 11, 12, 13, 14, 15, 16, 17, 18, 19, 20, 21, 22] (fun k => [(11, .int .i64 k), (3, .int .i64 ((ls.take k).flatten.length : Int))]) (fun k wl => k ≤ vs.length ∧ St X w wl [] [] [jV s vs, pR vs ls]) (fun k => vs.length - k) 0 ⟨rfl, rfl, trivial⟩ ⟨Nat.zero_le _, H⟩ ?_
 intro k γ0 w1 hI
 try dsimp only at hI
 obtain ⟨hk, H⟩ := hI
 refine WE.aA (WL.pv (PV.lss rfl rfl rfl) rfl (WL.nil (WE.seq ?_)))
 refine WE.cond rfl (fun kW => ?_) (fun kW => ?_)
 ·
  try simp only [bW] at kW
  have hlt : k < vs.length := by omega
  have hF := gD ls k (by omega)
  have hG := fW ls (k + 1)
  rw [hF, List.length_append] at hG
  refine WE.skip (WE.seq (WE.block (WE.aA (WL.pv (PV.eQ rfl (H.p 0 rfl) rU AW rfl rfl (by omega) (by omega)) rfl (WL.aZ rfl eL rfl rfl (jV.rd (H.p 0 rfl) k hlt) (WL.as rfl rfl (WL.nil ?_)))))))
  refine WE.aA (WL.mv rfl rfl (WL.mv rfl rfl (WL.pv (PV.dO ((H.p 1 rfl : pR vs ls _).2 k hlt (by omega)) eV rfl) rfl (WL.pv (PV.bZ rfl rfl rfl (by omega) (by omega)) rfl (WL.as rfl rfl (WL.nil (WE.aA ?_)))))))
  refine WL.mv rfl rfl (WL.pv (PV.lss rfl rfl rfl) rfl (WL.nil ?_))
  refine WE.bB rfl (by simp; omega) ?_
  refine WE.skip (WE.eM (WL.pv (PV.bZ rfl rfl rfl (by omega) (by omega)) rfl (WL.mv rfl rfl (WL.nil ?_))))
  exact ⟨k + 1, (by repeat (first | with_reducible exact bQ.refl _ _ | refine bQ.dB rfl ?_ | refine bQ.cE rfl ?_ | refine bQ.cB rfl ?_)), ⟨rfl, by rw [hF, List.length_append]; rfl, trivial⟩, rfl, ⟨by omega, H⟩, (by omega)⟩
 ·
  try simp only [bW] at kW
  have hge : k = vs.length := by omega
  refine WE.exit (WE.aA (WL.mv rfl rfl ?_))
  refine WL.call aEv rfl (S8 (n := (ls.take k).flatten.length) H.aS (by have := fW ls k; omega)) ?_
  rintro v24 w2 ⟨hO, gT⟩
  replace H := H.push hO (aO.iA w.heap.size v24 5 1 0 []) (gB gT H.size) (fun b hb => (gT.lt b hb).1)
  refine WL.as rfl rfl (WL.nil (WE.seq (WE.aA (WL.mv rfl rfl (WL.pv (PV.dO (H.p 0 rfl) rU rfl) rfl (WL.mv rfl rfl (WL.nil ?_)))))))
  refine WE.block ?_
  refine WE.loop (α := Nat × Value) [6, 8, 27, 28, 29, 30, 31, 32, 33, 34] (fun p => [(27, .int .i64 p.1), (6, p.2)]) (fun p wl => p.1 ≤ vs.length ∧ St X w wl [] [aO.iA w.heap.size p.2 5 1 (ls.take p.1).flatten.length (kc (ls.take p.1).flatten)] [jV s vs, pR vs ls]) (fun p => vs.length - p.1) (0, v24) ⟨rfl, rfl, trivial⟩ ⟨Nat.zero_le _, H⟩ ?_
  intro ⟨k, v⟩ γ1 w3 hI
  try dsimp only at hI
  obtain ⟨hk, H⟩ := hI
  refine WE.aA (WL.pv (PV.lss rfl rfl rfl) rfl (WL.nil (WE.seq ?_)))
  refine WE.cond rfl (fun GO => ?_) (fun GO => ?_)
  ·
   try simp only [bW] at GO
   have hlt : k < vs.length := by omega
   have hF := gD ls k (by omega)
   have hG := fW ls (k + 1)
   rw [hF, List.length_append] at hG
   refine WE.skip (WE.seq (WE.block (WE.aA (WL.pv (PV.eQ rfl (H.p 0 rfl) rU AW rfl rfl (by omega) (by omega)) rfl (WL.aZ rfl eL rfl rfl (jV.rd (H.p 0 rfl) k hlt) (WL.as rfl rfl (WL.nil ?_)))))))
   refine WE.eM (WL.mv rfl rfl (WL.mv rfl rfl ?_))
   refine WL.append (m := (ls[k]'(by omega)).length) H 0 jZ (by decide) rfl rfl rfl ((H.p 1 rfl : pR vs ls _).2 k hlt (by omega)) (by exact bK _) (by omega) (by decide) rfl ?_
   intro v33 w4 H
   refine WL.as rfl rfl (WL.nil (WE.eM (WL.pv (PV.bZ rfl rfl rfl (by omega) (by omega)) rfl (WL.mv rfl rfl (WL.nil ?_)))))
   replace H : St X w w4 [] [aO.iA w.heap.size v33 5 1 (ls.take (k+1)).flatten.length (kc (ls.take (k+1)).flatten)] [jV s vs, pR vs ls] := by rw [hF, List.length_append, j7]; exact H
   exact ⟨(k + 1, v33), (by repeat (first | with_reducible exact bQ.refl _ _ | refine bQ.dB rfl ?_ | refine bQ.cE rfl ?_ | refine bQ.cB rfl ?_)), ⟨rfl, rfl, trivial⟩, rfl, ⟨by dsimp only; omega, H⟩, (by dsimp only; omega)⟩
  ·
   try simp only [bW] at GO
   have hge : k = vs.length := by omega
   refine WE.exit (WE.aA (WL.mv rfl rfl (WL.as rfl rfl (WL.nil (WE.ret ⟨[_], _, .nil _, ⟨rfl, trivial⟩, ?_⟩)))))
   replace H := H.freeze (i := 0) rfl
   have hall : ls.take k = ls := List.take_of_length_le (by omega)
   exact ⟨H.aM, H.gU ((H.bN 0 rfl).imp fun _ h => by have := bI.eH h; rwa [hall] at this)⟩
def zc (n : Nat) : Nat := (119 - n % 64) % 64
def TV (N : Nat) : List UInt8 := (List.range 8).map fun i => UInt8.ofNat (N / 2 ^ (56 - 8 * i))
def gI (l : List UInt8) : List UInt8 := l ++ 128 :: (List.replicate (zc l.length) 0 ++ TV (8 * l.length))
theorem oK (N : Nat) : (TV N).length = 8 := by simp [TV]
theorem XB (N i : Nat) (h : i < (TV N).length) : (TV N)[i] = UInt8.ofNat (N / 2 ^ (56 - 8 * i)) := by simp [TV]
theorem n5 (l : List UInt8) : (gI l).length = l.length + 9 + zc l.length := by
 simp [gI, oK]; omega
def k4 : List UInt32 := [1116352408, 1899447441, 3049323471, 3921009573, 961987163, 1508970993, 2453635748, 2870763221, 3624381080, 310598401, 607225278, 1426881987, 1925078388, 2162078206, 2614888103, 3248222580, 3835390401, 4022224774, 264347078, 604807628, 770255983, 1249150122, 1555081692, 1996064986, 2554220882, 2821834349, 2952996808, 3210313671, 3336571891, 3584528711, 113926993, 338241895, 666307205, 773529912, 1294757372, 1396182291, 1695183700, 1986661051, 2177026350, 2456956037, 2730485921, 2820302411, 3259730800, 3345764771, 3516065817, 3600352804, 4094571909, 275423344, 430227734, 506948616, 659060556, 883997877, 958139571, 1322822218, 1537002063, 1747873779, 1955562222, 2024104815, 2227730452, 2361852424, 2428436474, 2756734187, 3204031479, 3329325298]
def sg0 (x : UInt32) : UInt32 := (nX x 7 ^^^ nX x 18) ^^^ (x >>> UInt32.ofNat 3)
def sg1 (x : UInt32) : UInt32 := (nX x 17 ^^^ nX x 19) ^^^ (x >>> UInt32.ofNat 10)
def word (b : List UInt8) (i : Nat) : UInt32 := (((b.getD (4 * i) 0).toUInt32 <<< UInt32.ofNat 24 ||| (b.getD (4 * i + 1) 0).toUInt32 <<< UInt32.ofNat 16) ||| (b.getD (4 * i + 2) 0).toUInt32 <<< UInt32.ofNat 8) ||| (b.getD (4 * i + 3) 0).toUInt32
def ext (w : List UInt32) : List UInt32 := w ++ [((w.getD (w.length - 16) 0 + sg0 (w.getD (w.length - 15) 0)) + w.getD (w.length - 7) 0) + sg1 (w.getD (w.length - 2) 0)]
def sched (b : List UInt8) : Nat → List UInt32
 | 0 => (List.range 16).map (word b)
 | k + 1 => ext (sched b k)
theorem bP (b : List UInt8) (k : Nat) : (sched b k).length = 16 + k := by
 induction k with
 | zero => simp [sched]
 | succ k ih => simp [sched, ext, ih]; omega
theorem jQ {α : Type} {l : List α} {d : α} {i : Nat} (h : i < l.length) : l.getD i d = l[i] := by simp [h]
theorem aGS {n : Nat} (h : n ≤ 1152921504606846976) : 64 * nJ (n : Int) = ((n + 9 + zc n : Nat) : Int) := by
 unfold nJ zc
 rw [if_neg (by omega)]
 omega
def wM (l : List UInt8) (i : Nat) : List UInt8 := (l ++ 128 :: List.replicate (zc l.length + (8 - i)) 0) ++ (TV (8 * l.length)).drop (8 - i)
theorem K8 (l : List UInt8) : wM l 0 = l ++ 128 :: List.replicate (zc l.length + 8) 0 := by
 unfold wM
 rw [List.drop_eq_nil_of_le (by rw [oK]; omega), List.append_nil]
theorem F5 (l : List UInt8) : wM l 8 = gI l := by simp [wM, gI]
theorem DH (l : List UInt8) (i : Nat) (hi : i ≤ 8) : (wM l i).length = l.length + 9 + zc l.length := by
 simp [wM, oK]; omega
theorem O0 (l : List UInt8) (i : Nat) (hi : i < 8) : (wM l i).set (l.length + 8 + zc l.length - i) (UInt8.ofNat (8 * l.length / 2 ^ (8 * i))) = wM l (i + 1) := by
 have hb := oK (8 * l.length)
 have h7 : 7 - i < (TV (8 * l.length)).length := by omega
 have hd : (TV (8 * l.length)).drop (8 - (i + 1)) = UInt8.ofNat (8 * l.length / 2 ^ (8 * i)) :: (TV (8 * l.length)).drop (8 - i) := by
  rw [show 8 - (i + 1) = 7 - i by omega, List.drop_eq_getElem_cons h7, XB, show 7 - i + 1 = 8 - i by omega, show 56 - 8 * (7 - i) = 8 * i by omega]
 unfold wM
 rw [hd]
 have hr : l ++ 128 :: List.replicate (zc l.length + (8 - i)) 0 = (l ++ 128 :: List.replicate (zc l.length + (8 - (i + 1))) 0) ++ [0] := by
  rw [show zc l.length + (8 - i) = (zc l.length + (8 - (i + 1))) + 1 by omega, List.replicate_succ', ← List.cons_append, ← List.append_assoc]
 have hlen : (l ++ 128 :: List.replicate (zc l.length + (8 - (i + 1))) (0 : UInt8)).length = l.length + 8 + zc l.length - i := by simp; omega
 rw [hr, List.append_assoc, ← hlen, List.set_append_right _ _ (Nat.le_refl _), Nat.sub_self]
 rfl
theorem GZ (l : List UInt8) (m : Nat) : Laid (kc (List.replicate (l.length + m) 0)) 0 ((kc l).take (min l.length (l.length + m))) (kc (l ++ List.replicate m 0)) := by
 have e : (kc l).take (min l.length (l.length + m)) = kc l := by rw [show min l.length (l.length + m) = l.length by omega]; exact List.take_of_length_le (by rw [aN]; omega)
 rw [e, ← List.replicate_append_replicate]
 have : Laid (kc (List.replicate l.length 0)) 0 (kc l) (kc l) := Laid.all (by simp [aN])
 have h2 := Laid.left (b := kc (List.replicate m 0)) this
 rwa [← j7, ← j7] at h2
theorem K1 (l : List UInt8) (m : Nat) : (l ++ List.replicate (m + 1) (0 : UInt8)).set l.length 128 = l ++ 128 :: List.replicate m 0 := by
 rw [List.set_append_right _ _ (Nat.le_refl _), Nat.sub_self]; rfl
theorem aBZ {X : Nat → Prop} {w : World} {a : Value} {la : List UInt8} (hX : cW X w) (bU : aH X (bI a la) w) (wX : la.length ≤ 1000000000) :
  bD Tryz.prog 162 [a].toArray w fun v w' => Out Nil w w' ∧ ∃ b, v = .slice (some ⟨b, 0, none⟩) (gI la).length (gI la).length ∧ w.heap.size ≤ b ∧ aK w' b 5 (kc (gI la)) := by
 refine bD.aI (N := 39) Tryz.func162 rfl rfl (by simp) ?_
 have H := St.begin hX
 replace H := H.add (cF bU)
 have aG1 : zc la.length < 64 := by unfold zc; omega
 have hT := aGS (n := la.length) (by omega)
 refine WE.aA (WL.as rfl rfl (WL.nil (WE.aA (WL.mv rfl rfl (WL.pv (PV.dO (H.p 0 rfl) eV rfl) rfl ?_)))))
 refine WL.call aEX rfl (TF (n := (la.length : Int)) H.aS (by omega)) ?_
 rintro _ w1 ⟨rfl, hO⟩
 replace H := H.out hO
 refine WL.pv (PV.eq (v' := .int .i64 (((la.length + 9 + zc la.length) : Nat) : Int)) (PV.qJ rfl rfl rfl (by omega) (by omega)) (by congr 1)) rfl ?_
 refine WL.makeSlice (n := (la.length + 9 + zc la.length)) H rfl jZ rfl (by omega) (by omega) rfl ?_
 intro pQ w3 H
 replace H := H.conv (L' := [aO.blk pQ 5 (kc (List.replicate (la.length + (8 + zc la.length + 1)) 0))]) (by rw [dG, show la.length + (8 + zc la.length + 1) = (la.length + 9 + zc la.length) by omega]; simp [kc])
 refine WL.as rfl rfl (WL.nil (WE.aA (WL.mv rfl rfl (WL.mv rfl rfl ?_))))
 refine WL.copy H 0 eV iB rfl rfl rfl (H.p 0 rfl) (by exact bK _) (by have := GZ la (8 + zc la.length + 1); rw [show la.length + (8 + zc la.length + 1) = (la.length + 9 + zc la.length) by omega] at this ⊢; exact this) rfl ?_
 intro w5 H
 refine WL.nil (WE.aA (WL.mv rfl rfl (WL.mv rfl rfl (WL.pv (PV.dO (H.p 0 rfl) eV rfl) rfl (WL.pv (PV.vB rfl eV iB rfl rfl (by omega) (by omega)) rfl ?_)))))
 refine WL.aT H 0 rfl rfl rfl (new := _) rfl (by exact iB) (by exact bC _ rfl) (Laid.at (Laid.AH (x := 128) la.length (by simp)) (by simp)) rfl ?_
 intro w6 H
 replace H := H.conv (L' := [aO.blk pQ 5 (kc (wM la 0))]) (by rw [K8, K1, Nat.add_comm 8]; rfl)
 refine WL.nil (WE.aA (WL.mv rfl rfl (WL.pv (PV.dO (H.p 0 rfl) eV rfl) rfl (WL.pv (PV.RN (n := la.length) rfl yD YX rfl rfl (by omega)) rfl (WL.pv (PV.LB (m := la.length) (n := 8) (q := 8 * la.length) rfl rfl rfl (by omega) (by omega)) rfl (WL.as rfl rfl (WL.nil ?_)))))))
 refine WE.seq (WE.aA (WL.mv rfl rfl (WL.nil (WE.block ?_))))
 refine WE.loop (α := Nat) [5, 22, 23, 24, 25, 26, 27, 28, 29, 30, 31, 32, 33, 34, 35, 36, 37] (fun i => [(22, .int .i64 i)]) (fun i wl => i ≤ 8 ∧ St X w wl [] [aO.blk pQ 5 (kc (wM la i))] [bI a la]) (fun i => 8 - i) 0 ⟨rfl, trivial⟩ ⟨Nat.zero_le _, H⟩ ?_
 intro i γ0 w7 hI
 try dsimp only at hI
 obtain ⟨hi, H⟩ := hI
 refine WE.aA (WL.pv (PV.lss rfl rfl rfl) rfl (WL.nil (WE.seq ?_)))
 refine WE.cond rfl (fun lH => ?_) (fun lH => ?_)
 ·
  try simp only [bW] at lH
  have hi8 : i < 8 := by omega
  refine WE.skip (WE.seq (WE.block (WE.aA (WL.mv rfl rfl (WL.as rfl rfl (WL.nil (WE.eM ?_)))))))
  refine WL.mv rfl rfl (WL.mv rfl rfl (WL.pv (PV.zO eV rfl) rfl ?_))
  refine WL.pv (PV.eq (v' := .int .i64 ((la.length + 8 + zc la.length : Nat) : Int)) (PV.iT rfl rfl rfl (by omega) (by omega)) (by congr 1; omega)) rfl ?_
  refine WL.mv rfl rfl ?_
  refine WL.pv (PV.eq (v' := .int .i64 ((la.length + 8 + zc la.length - i : Nat) : Int)) (PV.iT rfl rfl rfl (by omega) (by omega)) (by congr 1; omega)) rfl ?_
  refine WL.mv rfl rfl (WL.mv rfl rfl ?_)
  refine WL.pv (PV.eq (v' := .int .i64 ((8 * i : Nat) : Int)) (PV.qJ rfl rfl rfl (by omega) (by omega)) (by congr 1)) rfl ?_
  refine WL.pv (PV.CZ (m := 8 * la.length) (n := 8 * i) rfl rfl rfl (show _ < 64 by omega)) rfl (WL.pv (PV.W6 (n := 8 * la.length / 2 ^ (8 * i)) rfl YX pI rfl) rfl (WL.pv (PV.vB rfl eV iB rfl rfl (by omega) (by omega)) rfl ?_))
  refine WL.aT H 0 rfl rfl rfl (new := _) rfl (by exact iB) (by exact bC _ rfl) (Laid.at (Laid.AH (la.length + 8 + zc la.length - i) (by rw [DH _ _ (by omega)]; omega)) (by simp)) rfl ?_
  intro w8 H
  refine WL.nil (WE.eM (WL.pv (PV.bZ rfl rfl rfl (by omega) (by omega)) rfl (WL.mv rfl rfl (WL.nil ?_))))
  have e := O0 la i hi8
  exact ⟨i + 1, (by repeat (first | with_reducible exact bQ.refl _ _ | refine bQ.dB rfl ?_ | refine bQ.cE rfl ?_ | refine bQ.cB rfl ?_)), ⟨rfl, trivial⟩, rfl, ⟨by omega, H.conv (by rw [← e]; rfl)⟩, (by omega)⟩
 ·
  try simp only [bW] at lH
  obtain rfl : i = 8 := by omega
  refine WE.exit (WE.aA (WL.mv rfl rfl (WL.as rfl rfl (WL.nil (WE.ret ⟨[_], _, .nil _, ⟨rfl, trivial⟩, ?_⟩)))))
  rw [F5] at H
  exact ⟨H.aM, pQ, by rw [n5]; rfl, H.jR _ (List.mem_of_getElem? (i := 0) rfl) _ rfl, H.l 0 rfl⟩
theorem aGl {X : Nat → Prop} {w : World} {a : Value} {la : List UInt8} (hX : cW X w) (bU : aH X (bI a la) w) (wX : la.length ≤ 1000000000) :
  bD Tryz.prog 162 [a].toArray w fun v w' => Out Nil w w' ∧ aH X (bI v (gI la)) w' :=
 (aBZ hX bU wX).mono fun v w' ⟨hO, b, hv, hb, h⟩ => ⟨hO, by subst hv; exact (UM hX hb h).imp fun _ h => bI.cA h rfl⟩
def h0L : List UInt32 := [1779033703, 3144134277, 1013904242, 2773480762, 1359893119, 2600822924, 528734635, 1541459225]
def t1f (s : List UInt32) (k w : UInt32) : UInt32 := (((s.getD 7 0 + ((nX (s.getD 4 0) 6 ^^^ nX (s.getD 4 0) 11) ^^^ nX (s.getD 4 0) 25)) + ((s.getD 4 0 &&& s.getD 5 0) ^^^ (~~~(s.getD 4 0) &&& s.getD 6 0))) + k) + w
def t2f (s : List UInt32) : UInt32 := ((nX (s.getD 0 0) 2 ^^^ nX (s.getD 0 0) 13) ^^^ nX (s.getD 0 0) 22) + (((s.getD 0 0 &&& s.getD 1 0) ^^^ (s.getD 0 0 &&& s.getD 2 0)) ^^^ (s.getD 1 0 &&& s.getD 2 0))
def stp (s : List UInt32) (k w : UInt32) : List UInt32 := [t1f s k w + t2f s, s.getD 0 0, s.getD 1 0, s.getD 2 0, s.getD 3 0 + t1f s k w, s.getD 4 0, s.getD 5 0, s.getD 6 0]
def j5 (W s : List UInt32) : Nat → List UInt32
 | 0 => s
 | i + 1 => stp (j5 W s i) (k4.getD i 0) (W.getD i 0)
def lQ (s t : List UInt32) (i : Nat) : List UInt32 := (List.range 8).map fun j => if j < i then s.getD j 0 + t.getD j 0 else s.getD j 0
def comp (s : List UInt32) (b : List UInt8) : List UInt32 := lQ s (j5 (sched b 48) s 64) 8
def qF (p : List UInt8) : Nat → List UInt32
 | 0 => h0L
 | n + 1 => comp (qF p n) ((p.drop (64 * n)).take 64)
def qI (s : List UInt32) : List UInt8 := (List.range 32).map fun i => (s.getD (i / 4) 0 >>> UInt32.ofNat (24 - 8 * (i % 4))).toUInt8
def cR (l : List UInt8) : List UInt8 := qI (qF (gI l) ((gI l).length / 64))
theorem pD (W s : List UInt32) (h : s.length = 8) (i : Nat) : (j5 W s i).length = 8 := by
 cases i with
 | zero => exact h
 | succ i => rfl
theorem gX (s t : List UInt32) (i : Nat) : (lQ s t i).length = 8 := by simp [lQ]
theorem rW (p : List UInt8) (n : Nat) : (qF p n).length = 8 := by
 cases n with
 | zero => rfl
 | succ n => exact gX _ _ _
theorem iL (l : List UInt8) : (cR l).length = 32 := by simp [cR, qI]
theorem OZ (l : List UInt8) : (gI l).length % 64 = 0 := by rw [n5]; unfold zc; omega
theorem HJ (s t : List UInt32) (h : s.length = 8) : lQ s t 0 = s := by
 apply List.ext_getElem
 ·
  rw [gX, h]
 ·
  intro i h1 h2
  simp [lQ, h2]
theorem MQ (s t : List UInt32) (i : Nat) (h : s.length = 8) (hi : i < (lQ s t i).length) (hs : i < s.length) : (lQ s t i)[i] = s[i] := by
 simp [lQ, hs]
theorem MP (s t : List UInt32) (i : Nat) (h : s.length = 8) (ht : t.length = 8) (hi : i < 8) : (lQ s t i).set i ((lQ s t i)[i]'(by rw [gX]; exact hi) + t[i]'(by omega)) = lQ s t (i + 1) := by
 rw [MQ s t i h (by rw [gX]; exact hi) (by omega)]
 apply List.ext_getElem
 ·
  simp [lQ]
 ·
  intro j h1 h2
  rw [gX] at h2
  rw [List.getElem_set]
  by_cases hij : i = j
  ·
   subst hij
   simp [lQ, h, ht, hi]
  ·
   simp only [hij, if_false]
   simp only [lQ, List.getElem_map, List.getElem_range]
   by_cases h3 : j < i
   ·
    rw [if_pos h3, if_pos (by omega)]
   ·
    rw [if_neg h3, if_neg (by omega)]
theorem K9 (s : List UInt32) (i : Nat) (hi : i < (qI s).length) (hs : i / 4 < s.length) : (qI s)[i] = (s[i / 4] >>> UInt32.ofNat (24 - 8 * (i % 4))).toUInt8 := by
 simp [qI, hs]
theorem n9 (s : List UInt32) : (qI s).length = 32 := by simp [qI]
theorem aFO (e f g : UInt32) : g ^^^ (e &&& (f ^^^ g)) = (e &&& f) ^^^ (~~~e &&& g) := by
 apply UInt32.toBitVec_inj.1
 apply BitVec.eq_of_getLsbD_eq
 intro i hi
 simp [hi]
 generalize e.toBitVec[i] = p
 generalize f.toBitVec[i] = q
 generalize g.toBitVec[i] = r
 revert p q r; decide
theorem aAT (a b c : UInt32) : (a &&& b) ||| (c &&& (a ||| b)) = ((a &&& b) ^^^ (a &&& c)) ^^^ (b &&& c) := by
 apply UInt32.toBitVec_inj.1
 apply BitVec.eq_of_getLsbD_eq
 intro i hi
 simp [hi]
 generalize a.toBitVec[i] = p
 generalize b.toBitVec[i] = q
 generalize c.toBitVec[i] = r
 revert p q r; decide
theorem IU (x : UInt32) (m n : Nat) : j6 x [m, n] = nX x m ^^^ nX x n := by simp [j6]
theorem IQ (x : UInt32) (l m n : Nat) : j6 x [l, m, n] = (nX x l ^^^ nX x m) ^^^ nX x n := by simp [j6]
def eZ (i j : Nat) : Nat := max i 16 - 1 - ((max i 16 - 1 - j) % 16)
def win (W : List UInt32) (i : Nat) : List UInt32 := (List.range 16).map fun j => W.getD (eZ i j) 0
theorem jB (W : List UInt32) (i : Nat) : (win W i).length = 16 := by simp [win]
theorem IC (W : List UInt32) (i j m : Nat) (hj : j < (win W i).length) (hm : eZ i j = m) (h : m < W.length) : (win W i)[j] = W[m] := by
 subst hm
 simp [win, h]
theorem TY (W : List UInt32) (i : Nat) (hi : 16 ≤ i) (h : i < W.length) : (win W i).set (i % 16) W[i] = win W (i + 1) := by
 apply List.ext_getElem
 ·
  simp [win]
 ·
  intro j h1 h2
  rw [jB] at h2
  rw [List.getElem_set]
  by_cases hj : i % 16 = j
  ·
   rw [if_pos hj]
   rw [IC W (i + 1) j i _ (by unfold eZ; omega) h]
  ·
   rw [if_neg hj]
   simp only [win, List.getElem_map, List.getElem_range]
   congr 1
   unfold eZ
   omega
theorem KN (W : List UInt32) (i : Nat) (hi : i < 16) : win W (i + 1) = win W i := by
 unfold win
 apply List.map_congr_left
 intro j _
 congr 1
 unfold eZ
 omega
theorem SH (a b c d : UInt32) : ((((0 <<< UInt32.ofNat 8 ||| a) <<< UInt32.ofNat 8 ||| b) <<< UInt32.ofNat 8 ||| c) <<< UInt32.ofNat 8 ||| d) =
  ((a <<< UInt32.ofNat 24 ||| b <<< UInt32.ofNat 16) ||| c <<< UInt32.ofNat 8) ||| d := by
 have h : ∀ x : UInt32, ∀ m n : Nat, m + n < 32 → (x <<< UInt32.ofNat m) <<< UInt32.ofNat n = x <<< UInt32.ofNat (m + n) := by
  intro x m n hmn
  apply UInt32.toNat_inj.1
  rw [UInt32.toNat_shiftLeft, UInt32.toNat_shiftLeft, UInt32.toNat_shiftLeft, toNat_ofNat32 (by omega), toNat_ofNat32 (by omega), toNat_ofNat32 hmn]
  rw [Nat.shiftLeft_add]
  simp only [Nat.shiftLeft_eq]
  rw [Nat.mod_mul_mod]
 have ho : ∀ x y : UInt32, (x ||| y) <<< UInt32.ofNat 8 = x <<< UInt32.ofNat 8 ||| y <<< UInt32.ofNat 8 := by
  intro x y
  apply UInt32.toNat_inj.1
  simp only [UInt32.toNat_shiftLeft, UInt32.toNat_or, toNat_ofNat32 (show 8 < 32 by omega)]
  rw [Nat.shiftLeft_or_distrib, Nat.or_mod_two_pow]
 have h0 : (0 : UInt32) <<< UInt32.ofNat 8 = 0 := by decide
 simp only [h0, ho, h _ 8 8 (by omega), h _ 16 8 (by omega), UInt32.zero_or]
def nR (b : List UInt8) (i : Nat) : List UInt32 := (List.range 16).map fun j => if j < i then word b j else 0
def MS (b : List UInt8) (i : Nat) : Nat → UInt32
 | 0 => 0
 | j + 1 => MS b i j <<< UInt32.ofNat 8 ||| (b.getD (4 * i + j) 0).toUInt32
theorem MR (b : List UInt8) (i : Nat) : MS b i 4 = word b i := by
 simp only [MS, word, Nat.add_zero]
 exact SH _ _ _ _
theorem kM (b : List UInt8) (i : Nat) : (nR b i).length = 16 := by simp [nR]
theorem KO (b : List UInt8) : nR b 0 = List.replicate 16 0 := by simp [nR]; rfl
theorem KP (b : List UInt8) (i : Nat) (hi : i < 16) : (nR b i).set i 0 = nR b i := by
 apply List.ext_getElem
 ·
  simp
 ·
  intro j h1 h2
  rw [List.getElem_set]
  split
  ·
   rename_i h; subst h; simp [nR]
  ·
   rfl
theorem NQ (b : List UInt8) (i : Nat) (hi : i < 16) : (nR b i).set i (word b i) = nR b (i + 1) := by
 apply List.ext_getElem
 ·
  simp [nR]
 ·
  intro j h1 h2
  rw [kM] at h2
  rw [List.getElem_set]
  split
  ·
   rename_i h; subst h; simp [nR]
  ·
   rename_i h
   simp only [nR, List.getElem_map, List.getElem_range]
   by_cases h3 : j < i
   ·
    rw [if_pos h3, if_pos (by omega)]
   ·
    rw [if_neg h3, if_neg (by omega)]
theorem Q3 {α : Type} {l m : List α} {d : α} {i : Nat} (h : i < l.length) : (l ++ m).getD i d = l.getD i d := by simp [List.getD, List.getElem?_append_left h]
theorem Q2 {α : Type} (l : List α) (x d : α) : (l ++ [x]).getD l.length d = x := by simp [List.getD]
theorem iM (b : List UInt8) (k i : Nat) (hi : i < 16 + k) : ∀ m, k ≤ m → (sched b m).getD i 0 = (sched b k).getD i 0 := by
  intro m hm
  induction m with
  | zero => obtain rfl : k = 0 := by omega
            rfl
  | succ m ih =>
    by_cases h : k = m + 1
    · subst h; rfl
    · rw [← ih (by omega)]
      have hl := bP b m
      show (ext (sched b m)).getD i 0 = _
      unfold ext
      rw [Q3 (by omega)]
theorem A0 (b : List UInt8) (i : Nat) (h : 16 ≤ i) (h2 : i < 64) : (sched b 48).getD i 0 =
  (((sched b 48).getD (i - 16) 0 + sg0 ((sched b 48).getD (i - 15) 0)) + (sched b 48).getD (i - 7) 0) + sg1 ((sched b 48).getD (i - 2) 0) := by
 have hl := bP b (i - 16)
 rw [iM b (i - 16 + 1) i (by omega) 48 (by omega), iM b (i - 16) (i - 16) (by omega) 48 (by omega), iM b (i - 16) (i - 15) (by omega) 48 (by omega),
  iM b (i - 16) (i - 7) (by omega) 48 (by omega), iM b (i - 16) (i - 2) (by omega) 48 (by omega)]
 show (ext (sched b (i - 16))).getD i 0 = _
 unfold ext
 rw [hl, show 16 + (i - 16) - 16 = i - 16 by omega, show 16 + (i - 16) - 15 = i - 15 by omega, show 16 + (i - 16) - 7 = i - 7 by omega, show 16 + (i - 16) - 2 = i - 2 by omega]
 have e : ∀ x : UInt32, (sched b (i - 16) ++ [x]).getD i 0 = x := fun x => by
  have h3 := Q2 (sched b (i - 16)) x 0
  rwa [show (sched b (i - 16)).length = i by omega] at h3
 exact e _
theorem aAt (R : List UInt32) (k w : UInt32) : (((R.getD 7 0 + j6 (R.getD 4 0) [6, 11, 25]) + (R.getD 6 0 ^^^ (R.getD 4 0 &&& (R.getD 5 0 ^^^ R.getD 6 0)))) + k) + w = t1f R k w := by
 rw [t1f, IQ, aFO]
theorem aAv (R : List UInt32) (t : UInt32) : (t + j6 (R.getD 0 0) [2, 13, 22]) + ((R.getD 0 0 &&& R.getD 1 0) ||| (R.getD 2 0 &&& (R.getD 0 0 ||| R.getD 1 0))) = t + t2f R := by
 rw [t2f, IQ, aAT, UInt32.add_assoc]
theorem FT (a x y z : UInt32) : a + (((j6 x [7, 18] ^^^ (x >>> UInt32.ofNat 3)) + z) + (j6 y [17, 19] ^^^ (y >>> UInt32.ofNat 10))) = ((a + sg0 x) + z) + sg1 y := by
 rw [sg0, sg1, IU, IU, UInt32.add_assoc, UInt32.add_assoc]
 simp only [UInt32.add_assoc]
theorem kw8 (R : List UInt32) (h : R.length = 8) : [Value.int .u32 ((R.getD 0 0).toNat : Int), .int .u32 ((R.getD 1 0).toNat : Int), .int .u32 ((R.getD 2 0).toNat : Int), .int .u32 ((R.getD 3 0).toNat : Int),
  .int .u32 ((R.getD 4 0).toNat : Int), .int .u32 ((R.getD 5 0).toNat : Int), .int .u32 ((R.getD 6 0).toNat : Int), .int .u32 ((R.getD 7 0).toNat : Int)] = kw R := by
 match R, h with
 | [a, b, c, d, e, f, g, i], _ => rfl
theorem VB (l : List UInt32) (i : Nat) (h : i < l.length) : (kw l)[i]? = some (.int .u32 ((l.getD i 0).toNat : Int)) := by
 simp [kw, h]
theorem CN (W : List UInt32) (i j m : Nat) (hj : j < 16) (hm : eZ i j = m) (h : m < W.length) : (win W i)[j]'(by rw [jB]; exact hj) = W.getD m 0 := by
 rw [IC W i j m _ hm h, jQ h]
theorem CK.cA {w : World} {b n : Nat} {e : TypeId} {l : List Nat} (h : aK w b e (l.map fun (n : Nat) => Value.int .i64 (n : Int))) (hn : l.length = n) : CK (.slice (some ⟨b, 0, none⟩) n n) l w :=
 jV.cA h (by simpa using hn)
theorem NP (b : List UInt8) : nR b 16 = win (sched b 48) 0 := by
 apply List.ext_getElem
 ·
  rw [kM, jB]
 ·
  intro j h1 h2
  rw [kM] at h1
  rw [CN (sched b 48) 0 j j h1 (by unfold eZ; omega) (by rw [bP]; omega), iM b 0 j (by omega) 48 (by omega)]
  simp [nR, sched, h1]
theorem aK.fX {w : World} {b o : Nat} {t : TypeId} {W : List UInt32} {i : Nat} (h : aK w b t (kw (win W i))) (j m : Nat) (hj : j < 16) (ho : o = j) (hm : eZ i j = m) (hW : m < W.length) : cX w ⟨b, o, none⟩ [.int .u32 ((W.getD m 0).toNat : Int)] := by
 have h1 := aK.aF h (aJ.word j (by rw [jB]; exact hj)) ho
 rwa [CN W i j m hj hm hW] at h1
theorem vR (W : List UInt32) (i : Nat) (hi : 16 ≤ i) (h : i < W.length) : (win W i).set (i % 16) (W.getD i 0) = win W (i + 1) := by
 rw [jQ h]; exact TY W i hi h
theorem aAU (l : List UInt32) (i : Nat) (h : i < l.length) : (kw l)[i]? = some (.int .u32 (l[i].toNat : Int)) := by simp [kw, h]
theorem bI.aC0 {w : World} {v : Value} {l : List UInt8} {lo hi : Nat} (h : bI (iS v 1 lo hi) ((l.drop lo).take (hi - lo)) w) (j : Nat) (hj : j < hi - lo) (hl : hi ≤ l.length) : cX w (jD (iS v 1 lo hi) (j * 1)) [.int .u8 ((l.getD (lo + j) 0).toNat : Int)] := by
 have h1 := bI.rd h j (by simp; omega)
 have e : ((l.drop lo).take (hi - lo))[j]'(by simp; omega) = l.getD (lo + j) 0 := by
  rw [jQ (by omega)]; simp
 rwa [e] at h1
theorem aK.YN {w : World} {b o : Nat} {t : TypeId} {l : List UInt32} (h : aK w b t (kw l)) (i : Nat) (hi : i < l.length) (ho : o = i) : cX w ⟨b, o, none⟩ [.int .u32 ((l.getD i 0).toNat : Int)] := by
 have h1 := aK.aF h (aJ.word i hi) ho
 rwa [← jQ (d := 0)] at h1
def aW (w : World) : Prop := cX w ⟨1, 0, none⟩ (kw k4)
theorem aAu {X : Nat → Prop} {w : World} {b : Nat} {s : List UInt32} {a : Value} {la : List UInt8} (hX : cW X w) (eR : aK w b 266 (kw s)) (bU : aH (fun c_ => X c_ ∨ c_ = b) (bI a la) w) (dA : aH (fun c_ => X c_ ∨ c_ = b) (aW) w) (wX : la.length = 64) (hs : s.length = 8) :
  bD Tryz.prog 160 [.pointer (some ⟨b, 0, none⟩), a].toArray w fun v w' => v = .tuple #[] ∧ Out (· = b) w w' ∧ aK w' b 266 (kw (comp s la)) := by
 refine bD.aI (N := 192) Tryz.func160 rfl rfl (by simp) ?_
 have H := St.c6 (b := b) (t := 266) (l := kw s) hX eR
 replace H := H.add (bY dA)
 replace H := H.add (bY bU)
 have hWl : (sched la 48).length = 64 := bP _ _
 refine WE.aA ?_
 refine WL.alloc H rfl aCj rfl ?_
 intro b4 w1 H
 refine WL.nil (WE.seq (WE.aA (WL.mv rfl rfl ?_)))
 replace H := H.conv (L' := [aO.blk b4 301 (kw (nR la 0))]) (by rw [KO])
 refine WL.nil (WE.block ?_)
 refine WE.loop (α := Nat) [5, 7, 24, 25, 26, 27, 28, 29, 30, 31, 32, 33, 34, 35, 36, 37, 38, 39, 40, 41, 42, 43, 44, 45, 46, 47, 48, 49] (fun i => [(24, .int .i64 i)]) (fun i wl => i ≤ 16 ∧ St X w wl [aO.blk b 266 (kw s)] [aO.blk b4 301 (kw (nR la i))] [bI a la, aW]) (fun i => 16 - i) 0 ⟨rfl, trivial⟩ ⟨Nat.zero_le _, H⟩ ?_
 intro i γ0 w2 hI
 try dsimp only at hI
 obtain ⟨hi, H⟩ := hI
 refine WE.aA (WL.pv (PV.lss rfl rfl rfl) rfl (WL.nil (WE.seq ?_)))
 refine WE.cond rfl (fun q7 => ?_) (fun q7 => ?_)
 ·
  try simp only [bW] at q7
  have hlt : i < 16 := by omega
  refine WE.skip (WE.seq (WE.block (WE.aA (WL.mv rfl rfl (WL.as rfl rfl (WL.nil (WE.aA ?_)))))))
  refine WL.mv rfl rfl (WL.mv rfl rfl (WL.pv (PV.qJ rfl rfl rfl (by omega) (by omega)) rfl (WL.mv rfl rfl (WL.pv (PV.qJ rfl rfl rfl (by omega) (by omega)) rfl (WL.pv (PV.bZ rfl rfl rfl (by omega) (by omega)) rfl ?_)))))
  refine WL.pv (PV.eq (v' := iS a 1 (4 * i) (4 * i + 4)) (PV.aCD rfl (H.p 0 rfl) eV iB rfl rfl rfl (by omega) (by omega)) (by congr 1 <;> omega)) rfl ?_
  replace H := H.add ((H.bN 0 rfl).imp fun _ h => bI.sub (lo := 4 * i) (hi := 4 * i + 4) h (by omega) (by omega))
  refine WL.pv (PV.eq (v' := .int .i64 4) (PV.dO (H.p 0 rfl) eV rfl) (by simp; omega)) rfl ?_
  refine WL.mv rfl rfl (WL.nil (WE.block ?_))
  refine WE.loop (α := Nat) [7, 35, 36, 37, 38, 39, 40, 41, 42, 43, 44, 45, 46, 47, 48] (fun j => [(35, .int .i64 j)]) (fun j wl => j ≤ 4 ∧ St X w wl [aO.blk b 266 (kw s)] [aO.blk b4 301 (kw ((nR la i).set i (MS la i j)))] [bI (iS a 1 (4 * i) (4 * i + 4)) ((la.drop (4 * i)).take (4 * i + 4 - 4 * i)), bI a la, aW]) (fun j => 4 - j) 0 ⟨rfl, trivial⟩ ⟨Nat.zero_le _, H.conv (by rw [show MS la i 0 = 0 from rfl, KP _ _ hlt])⟩ ?_
  intro j γ1 w3 hI
  try dsimp only at hI
  obtain ⟨hj, H⟩ := hI
  refine WE.aA (WL.pv (PV.lss rfl rfl rfl) rfl (WL.nil (WE.seq ?_)))
  refine WE.cond rfl (fun oD => ?_) (fun oD => ?_)
  ·
   try simp only [bW] at oD
   have hj4 : j < 4 := by omega
   refine WE.skip (WE.seq (WE.block (WE.aA ?_)))
   refine WL.pv (PV.eQ rfl (H.p 0 rfl) eV iB rfl rfl (by omega) (by simp; omega)) rfl ?_
   refine WL.aZ rfl B7 rfl rfl (bI.aC0 (H.p 0 rfl) j (by omega) (by omega)) (WL.as rfl rfl (WL.nil (WE.eM (WL.mv rfl rfl (WL.mv rfl rfl (WL.pv (PV.cG rfl qS fS rfl rfl (by omega) (by omega)) rfl ?_))))))
   refine WL.aZ rfl jX rfl rfl (by have h1 := aK.aF (o' := 0 + (i : Int).toNat * 1) (H.l 0 rfl) (aJ.word i (by simp [kM]; omega)) (by omega); rw [List.getElem_set_self] at h1; exact h1) ?_
   refine WL.pv (PV.N6 (n := 8) rfl rfl rfl (by omega)) rfl (WL.mv rfl rfl (WL.pv (PV.aFQ rfl pI PT rfl) rfl (WL.pv (PV.O4 rfl rfl rfl) rfl (WL.pv (PV.cG rfl qS fS rfl rfl (by omega) (by omega)) rfl ?_))))
   refine WL.aT H 0 rfl rfl rfl (new := _) rfl (by exact fS) (by exact bC _ rfl) (Laid.at (Laid.iW i (by simp [kM]; omega)) (by (simp; done))) rfl ?_
   intro w4 H
   refine WL.nil (WE.eM (WL.pv (PV.bZ rfl rfl rfl (by omega) (by omega)) rfl (WL.mv rfl rfl (WL.nil ?_))))
   replace H := H.conv (L' := [aO.blk b4 301 (kw ((nR la i).set i (MS la i (j + 1))))]) (by rw [List.set_set]; rfl)
   exact ⟨j + 1, (by repeat (first | with_reducible exact bQ.refl _ _ | refine bQ.dB rfl ?_ | refine bQ.cE rfl ?_ | refine bQ.cB rfl ?_)), ⟨rfl, trivial⟩, rfl, ⟨by omega, H⟩, (by omega)⟩
  ·
   try simp only [bW] at oD
   obtain rfl : j = 4 := by omega
   refine WE.exit (WE.eM (WL.pv (PV.bZ rfl rfl rfl (by omega) (by omega)) rfl (WL.mv rfl rfl (WL.nil ?_))))
   replace H := H.conv (L' := [aO.blk b4 301 (kw (nR la (i + 1)))]) (by rw [MR, NQ _ _ hlt])
   replace H := H.drop (fun p hp => List.mem_cons_of_mem _ hp)
   exact ⟨i + 1, (by repeat (first | with_reducible exact bQ.refl _ _ | refine bQ.dB rfl ?_ | refine bQ.cE rfl ?_ | refine bQ.cB rfl ?_)), ⟨rfl, trivial⟩, rfl, ⟨by omega, H⟩, (by omega)⟩
 ·
  try simp only [bW] at q7
  obtain rfl : i = 16 := by omega
  refine WE.exit ?_
  refine WE.bF (.take 0 (.take 1 (.take 2 (.take 3 (.take 4 (.take 5 (.take 6 (.take 7 (.take 8 (.take 9 (.take 10 (.take 11 (.take 12 (.take 13 (.take 14 (.take 15 (.take 16 (.take 17 (.take 18 (.take 19 (.take 20 (.take 21 (.take 22 (.take 23 (.take 24 (.take 25 (.take 26 (.take 27 (.take 28 (.take 29 (.take 30 (.take 31 (.take 32 (.take 33 (.take 34 (.take 35 (.take 36 (.take 37 (.take 38 (.take 39 .done)))))))))))))))))))))))))))))))))))))))) mixed (by kernel_rfl) ?_
  replace H := H.out (Out.drew _)
  refine WP.mv rfl rfl rfl (WP.aC rfl rfl (PV.nilCheck rfl rfl) (WP.aC rfl rfl (PV.cG rfl oR fS rfl rfl (by omega) (by omega)) (WP.aQ rfl rfl (RV.aY rfl jX rfl) (aK.YN (H.o 0 rfl) 0 (by omega) rfl) (WP.mv rfl rfl rfl (WP.aC rfl rfl (PV.nilCheck rfl rfl) (WP.aC rfl rfl (PV.cG rfl oR fS rfl rfl (by omega) (by omega)) (WP.aQ rfl rfl (RV.aY rfl jX rfl) (aK.YN (H.o 0 rfl) 1 (by omega) rfl) ?_)))))))
  refine WP.mv rfl rfl rfl (WP.aC rfl rfl (PV.nilCheck rfl rfl) (WP.aC rfl rfl (PV.cG rfl oR fS rfl rfl (by omega) (by omega)) (WP.aQ rfl rfl (RV.aY rfl jX rfl) (aK.YN (H.o 0 rfl) 2 (by omega) rfl) (WP.mv rfl rfl rfl (WP.aC rfl rfl (PV.nilCheck rfl rfl) (WP.aC rfl rfl (PV.cG rfl oR fS rfl rfl (by omega) (by omega)) (WP.aQ rfl rfl (RV.aY rfl jX rfl) (aK.YN (H.o 0 rfl) 3 (by omega) rfl) ?_)))))))
  refine WP.mv rfl rfl rfl (WP.aC rfl rfl (PV.nilCheck rfl rfl) (WP.aC rfl rfl (PV.cG rfl oR fS rfl rfl (by omega) (by omega)) (WP.aQ rfl rfl (RV.aY rfl jX rfl) (aK.YN (H.o 0 rfl) 4 (by omega) rfl) (WP.mv rfl rfl rfl (WP.aC rfl rfl (PV.nilCheck rfl rfl) (WP.aC rfl rfl (PV.cG rfl oR fS rfl rfl (by omega) (by omega)) (WP.aQ rfl rfl (RV.aY rfl jX rfl) (aK.YN (H.o 0 rfl) 5 (by omega) rfl) ?_)))))))
  refine WP.mv rfl rfl rfl (WP.aC rfl rfl (PV.nilCheck rfl rfl) (WP.aC rfl rfl (PV.cG rfl oR fS rfl rfl (by omega) (by omega)) (WP.aQ rfl rfl (RV.aY rfl jX rfl) (aK.YN (H.o 0 rfl) 6 (by omega) rfl) (WP.mv rfl rfl rfl (WP.aC rfl rfl (PV.nilCheck rfl rfl) (WP.aC rfl rfl (PV.cG rfl oR fS rfl rfl (by omega) (by omega)) (WP.aQ rfl rfl (RV.aY rfl jX rfl) (aK.YN (H.o 0 rfl) 7 (by omega) rfl) ?_)))))))
  refine WP.as rfl rfl rfl (WP.as rfl rfl rfl (WP.as rfl rfl rfl (WP.as rfl rfl rfl (WP.as rfl rfl rfl (WP.as rfl rfl rfl (WP.as rfl rfl rfl (WP.as rfl rfl rfl ?_)))))))
  refine WP.done (WE.seq (WE.aA ?_))
  refine WL.bG rfl aF9 rfl rfl (H.p 1 rfl) (by exact aCz) ?_
  refine WL.mv rfl rfl (WL.nil (WE.block ?_))
  refine WE.loop (α := Nat) [8, 9, 10, 11, 12, 13, 14, 15, 16, 17, 18, 19, 20, 21, 83, 84, 85, 86, 87, 88, 89, 90, 91, 92, 93, 94, 95, 96, 97, 98, 99, 100, 101, 102, 103, 104, 105, 106, 107, 108, 109, 110, 111, 112, 113, 114, 115, 116, 117, 118, 119, 120, 121, 122, 123, 124, 125, 126, 127, 128, 129, 130, 131, 132, 133, 134, 135, 136, 137, 138, 139, 140, 141, 142, 143, 144, 145, 146, 147, 148, 149, 150, 151, 152, 153, 154, 155, 156, 157, 158, 159, 160, 161, 162, 163, 164, 165, 166, 167, 168] (fun i => [(83, .int .i64 i), (8, .int .u32 (((j5 (sched la 48) s i).getD 0 0).toNat : Int)), (9, .int .u32 (((j5 (sched la 48) s i).getD 1 0).toNat : Int)), (10, .int .u32 (((j5 (sched la 48) s i).getD 2 0).toNat : Int)), (11, .int .u32 (((j5 (sched la 48) s i).getD 3 0).toNat : Int)), (12, .int .u32 (((j5 (sched la 48) s i).getD 4 0).toNat : Int)), (13, .int .u32 (((j5 (sched la 48) s i).getD 5 0).toNat : Int)), (14, .int .u32 (((j5 (sched la 48) s i).getD 6 0).toNat : Int)), (15, .int .u32 (((j5 (sched la 48) s i).getD 7 0).toNat : Int))]) (fun i wl => i ≤ 64 ∧ St X w wl [aO.blk b 266 (kw s)] [aO.blk b4 301 (kw (win (sched la 48) (i)))] [bI a la, aW]) (fun i => 64 - i) 0 ⟨rfl, rfl, rfl, rfl, rfl, rfl, rfl, rfl, rfl, trivial⟩ ⟨Nat.zero_le _, H.conv (by rw [NP])⟩ ?_
  intro i γ2 w5 hI
  try dsimp only at hI
  obtain ⟨hi, H⟩ := hI
  refine WE.aA (WL.pv (PV.lss rfl rfl rfl) rfl (WL.nil (WE.seq ?_)))
  refine WE.cond rfl (fun aBh => ?_) (fun aBh => ?_)
  ·
   try simp only [bW] at aBh
   have hlt : i < 64 := by omega
   refine WE.skip (WE.seq (WE.block (WE.aA (WL.mv rfl rfl (WL.pv (PV.GH (l := kw k4) rfl Z9 fS jX rfl rfl (by omega) (VB k4 i hlt)) rfl (WL.as rfl rfl (WL.as rfl rfl ?_)))))))
   refine WL.nil (WE.aA (WL.mv rfl rfl (WL.pv (PV.uI rfl rfl rfl (by omega) (by omega)) rfl (WL.as rfl rfl (WL.nil ?_)))))
   refine WE.cut (α := Unit) [19, 20, 89, 90, 91, 92, 93, 94, 95, 96, 97, 98, 99, 100, 101, 102, 103, 104, 105, 106, 107, 108, 109, 110, 111, 112, 113, 114, 115, 116, 117, 118, 119, 120, 121, 122, 123, 124] (fun _ => []) (fun _ wl => St X w wl [aO.blk b 266 (kw s)] [aO.blk b4 301 (kw (win (sched la 48) (i + 1)))] [bI a la, aW]) ?_ ?_
   ·
    refine WE.aA (WL.mv rfl rfl (WL.pv (PV.geq rfl rfl rfl) rfl (WL.nil ?_)))
    refine WE.cond rfl (fun aBg => ?_) (fun aBg => ?_)
    ·
     try simp only [bW] at aBg
     have TU : 16 ≤ i := by omega
     refine WE.bF (.take 0 (.take 1 (.take 2 (.take 3 (.take 4 (.take 5 (.take 6 (.take 7 (.take 8 (.take 9 (.take 10 (.take 11 .done)))))))))))) mixed (by kernel_rfl) ?_
     replace H := H.out (Out.drew _)
     refine WP.mv rfl rfl rfl (WP.aC rfl rfl (PV.bZ rfl rfl rfl (by omega) (by omega)) (WP.aC rfl rfl (PV.uI rfl rfl rfl (by omega) (by omega)) (WP.aC rfl rfl (PV.cG rfl qS fS rfl rfl (by omega) (by omega)) ?_)))
     refine WP.aQ rfl rfl (RV.aY rfl jX rfl) (aK.fX (H.l 0 rfl) ((i + 1) % 16) (i - 15) (by omega) (by omega) (by unfold eZ; omega) (by rw [bP]; omega)) ?_
     refine WP.mv rfl rfl rfl (WP.aC rfl rfl (PV.bZ rfl rfl rfl (by omega) (by omega)) (WP.aC rfl rfl (PV.uI rfl rfl rfl (by omega) (by omega)) (WP.aC rfl rfl (PV.cG rfl qS fS rfl rfl (by omega) (by omega)) ?_)))
     refine WP.aQ rfl rfl (RV.aY rfl jX rfl) (aK.fX (H.l 0 rfl) ((i + 14) % 16) (i - 2) (by omega) (by omega) (by unfold eZ; omega) (by rw [bP]; omega)) ?_
     refine WP.as rfl rfl rfl (WP.as rfl rfl rfl (WP.done ?_))
     refine WE.draw (.take 0 (.take 1 (.take 2 (.take 3 (.take 6 (.take 7 (.take 9 (.take 10 (.take 11 (.take 12 (.take 13 (.take 15 (.take 18 (.take 19 (.gN 4 (.gN 5 (.take 8 (.take 14 (.aG 16 (.aG 17 (.take 20 (.take 21 (.take 22 (.take 23 (.aG 24 .done))))))))) 16 (.aG 5 (.take 8 (.take 14 (.aG 17 (.take 20 (.take 21 (.take 22 (.take 23 (.aG 24 .done)))))))))) 16 (.aG 4 (.aG 5 (.take 8 (.take 14 (.aG 17 (.take 20 (.take 21 (.take 22 (.take 23 (.aG 24 .done))))))))))))))))))))))))) mixed (by kernel_rfl) ?_
     replace H := H.out (Out.drew _)
     refine WP.mv rfl rfl rfl (WP.aC rfl rfl (PV.cG rfl qS fS rfl rfl (by omega) (by omega)) ?_)
     refine WP.aQ rfl rfl (RV.aY rfl jX rfl) (aK.fX (H.l 0 rfl) (i % 16) (i - 16) (by omega) (by omega) (by unfold eZ; omega) (by rw [bP]; omega)) ?_
     refine WP.mv rfl rfl rfl (WP.mv rfl rfl rfl (WP.aC rfl rfl (PV.C0 (n := 3) rfl rfl rfl (by omega)) (WP.mv rfl rfl rfl (WP.aC rfl rfl (PV.bZ rfl rfl rfl (by omega) (by omega)) (WP.aC rfl rfl (PV.uI rfl rfl rfl (by omega) (by omega)) (WP.aC rfl rfl (PV.cG rfl qS fS rfl rfl (by omega) (by omega)) ?_))))))
     refine WP.aQ rfl rfl (RV.aY rfl jX rfl) (aK.fX (H.l 0 rfl) ((i + 9) % 16) (i - 7) (by omega) (by omega) (by unfold eZ; omega) (by rw [bP]; omega)) ?_
     refine WP.mv rfl rfl rfl (WP.mv rfl rfl rfl (WP.aC rfl rfl (PV.C0 (n := 10) rfl rfl rfl (by omega)) ?_))
     refine WP.gN rfl rfl ?_ ?_ 
     ·
      refine WL.bJ (l0 := [.int .i64 (0), .int .i64 (0)]) H rfl rT (by decide) (dG _ _) (Fl.cons rfl (by rfl) (by simp only [aR]) Laid.head (Fl.cons rfl (by rfl) (by simp only [aR]) (Laid.tail Laid.head rfl) Fl.nil)) rfl ?_
      intro aIp w6 H
      replace H := H.freeze (i := 0) rfl
      replace H := H.add ((H.bN 0 rfl).imp fun _ h => CK.cA (l := [7, 18]) h rfl)
      refine WL.nil ⟨(fa (fun _ _ => (aK.fX (H.l 0 rfl) ((i + 9) % 16) (i - 7) (by omega) (by omega) (by unfold eZ; omega) (by rw [bP]; omega))) (fa (fun _ _ => (aK.fX (H.l 0 rfl) (i % 16) (i - 16) (by omega) (by omega) (by unfold eZ; omega) (by rw [bP]; omega))) cV)), ?_⟩
      refine WP.gN rfl rfl ?_ ?_ 
      ·
       refine WL.call uN rfl (l9 (x := (sched la 48).getD (i - 15) 0) (l := [7, 18]) H.aS (by exact H.bN 0 rfl) (by decide) (by decide)) ?_
       rintro _ w7 ⟨rfl, hO⟩
       replace H := H.out hO
       refine WL.nil ⟨(fa (fun _ _ => (aK.fX (H.l 0 rfl) ((i + 9) % 16) (i - 7) (by omega) (by omega) (by unfold eZ; omega) (by rw [bP]; omega))) (fa (fun _ _ => (aK.fX (H.l 0 rfl) (i % 16) (i - 16) (by omega) (by omega) (by unfold eZ; omega) (by rw [bP]; omega))) cV)), ?_⟩
       refine WP.aC rfl rfl (PV.rP rfl rfl rfl) (WP.aC rfl rfl (PV.kT rfl rfl rfl) (WP.aG rfl ?_))
       refine WL.bJ (l0 := [.int .i64 (0), .int .i64 (0)]) H rfl rT (by decide) (dG _ _) (Fl.cons rfl (by rfl) (by simp only [aR]) Laid.head (Fl.cons rfl (by rfl) (by simp only [aR]) (Laid.tail Laid.head rfl) Fl.nil)) rfl ?_
       intro aFZ w8 H
       replace H := H.freeze (i := 0) rfl
       replace H := H.add ((H.bN 0 rfl).imp fun _ h => CK.cA (l := [17, 19]) h rfl)
       refine WL.nil ⟨(fa (fun _ _ => (aK.fX (H.l 0 rfl) ((i + 9) % 16) (i - 7) (by omega) (by omega) (by unfold eZ; omega) (by rw [bP]; omega))) (fa (fun _ _ => (aK.fX (H.l 0 rfl) (i % 16) (i - 16) (by omega) (by omega) (by unfold eZ; omega) (by rw [bP]; omega))) cV)), ?_⟩
       refine WP.aG rfl ?_
       refine WL.call uN rfl (l9 (x := (sched la 48).getD (i - 2) 0) (l := [17, 19]) H.aS (by exact H.bN 0 rfl) (by decide) (by decide)) ?_
       rintro _ w9 ⟨rfl, hO⟩
       replace H := H.out hO
       refine WL.nil ⟨(fa (fun _ _ => (aK.fX (H.l 0 rfl) ((i + 9) % 16) (i - 7) (by omega) (by omega) (by unfold eZ; omega) (by rw [bP]; omega))) (fa (fun _ _ => (aK.fX (H.l 0 rfl) (i % 16) (i - 16) (by omega) (by omega) (by unfold eZ; omega) (by rw [bP]; omega))) cV)), ?_⟩
       refine WP.aC rfl rfl (PV.rP rfl rfl rfl) (WP.aC rfl rfl (PV.kT rfl rfl rfl) (WP.aC rfl rfl (PV.kT rfl rfl rfl) (WP.aC rfl rfl (PV.cG rfl qS fS rfl rfl (by omega) (by omega)) (WP.aG rfl ?_))))
       refine WL.aT H 0 rfl rfl rfl (new := _) rfl (by exact fS) (by exact bC _ rfl) (Laid.at (Laid.iW (i % 16) (by rw [jB]; omega)) (by omega)) rfl ?_
       intro vT H
       replace H := H.conv (L' := [aO.blk b4 301 (kw (win (sched la 48) (i + 1)))]) (by rw [FT, ← A0 la i TU hlt, vR _ _ TU (by omega)]; rfl)
       refine WL.nil ⟨(fa (nw 24 13 (by decide +kernel)) (fa (nw 24 2 (by decide +kernel)) cV)), ?_⟩
       refine WP.done ?_
       replace H := H.drop (HQ := [bI a la, aW]) (by intro p hp; simp at hp ⊢; rcases hp with h | h <;> simp [h])
       exact ⟨(), (by repeat (first | with_reducible exact bQ.refl _ _ | refine bQ.dB rfl ?_)), trivial, rfl, H⟩
      ·
       refine WL.bJ (l0 := [.int .i64 (0), .int .i64 (0)]) H rfl rT (by decide) (dG _ _) (Fl.cons rfl (by rfl) (by simp only [aR]) Laid.head (Fl.cons rfl (by rfl) (by simp only [aR]) (Laid.tail Laid.head rfl) Fl.nil)) rfl ?_
       intro aFZ y8 H
       replace H := H.freeze (i := 0) rfl
       replace H := H.add ((H.bN 0 rfl).imp fun _ h => CK.cA (l := [17, 19]) h rfl)
       refine WL.nil ⟨(fa (fun _ _ => (aK.fX (H.l 0 rfl) ((i + 9) % 16) (i - 7) (by omega) (by omega) (by unfold eZ; omega) (by rw [bP]; omega))) (fa (fun _ _ => (aK.fX (H.l 0 rfl) (i % 16) (i - 16) (by omega) (by omega) (by unfold eZ; omega) (by rw [bP]; omega))) cV)), ?_⟩
       refine WP.aG rfl ?_
       refine WL.call uN rfl (l9 (x := (sched la 48).getD (i - 15) 0) (l := [7, 18]) H.aS (by exact H.bN 2 rfl) (by decide) (by decide)) ?_
       rintro _ IE ⟨rfl, hO⟩
       replace H := H.out hO
       refine WL.nil ⟨(fa (fun _ _ => (aK.fX (H.l 0 rfl) ((i + 9) % 16) (i - 7) (by omega) (by omega) (by unfold eZ; omega) (by rw [bP]; omega))) (fa (fun _ _ => (aK.fX (H.l 0 rfl) (i % 16) (i - 16) (by omega) (by omega) (by unfold eZ; omega) (by rw [bP]; omega))) cV)), ?_⟩
       refine WP.aC rfl rfl (PV.rP rfl rfl rfl) (WP.aC rfl rfl (PV.kT rfl rfl rfl) (WP.aG rfl ?_))
       refine WL.call uN rfl (l9 (x := (sched la 48).getD (i - 2) 0) (l := [17, 19]) H.aS (by exact H.bN 0 rfl) (by decide) (by decide)) ?_
       rintro _ FI ⟨rfl, hO⟩
       replace H := H.out hO
       refine WL.nil ⟨(fa (fun _ _ => (aK.fX (H.l 0 rfl) ((i + 9) % 16) (i - 7) (by omega) (by omega) (by unfold eZ; omega) (by rw [bP]; omega))) (fa (fun _ _ => (aK.fX (H.l 0 rfl) (i % 16) (i - 16) (by omega) (by omega) (by unfold eZ; omega) (by rw [bP]; omega))) cV)), ?_⟩
       refine WP.aC rfl rfl (PV.rP rfl rfl rfl) (WP.aC rfl rfl (PV.kT rfl rfl rfl) (WP.aC rfl rfl (PV.kT rfl rfl rfl) (WP.aC rfl rfl (PV.cG rfl qS fS rfl rfl (by omega) (by omega)) (WP.aG rfl ?_))))
       refine WL.aT H 0 rfl rfl rfl (new := _) rfl (by exact fS) (by exact bC _ rfl) (Laid.at (Laid.iW (i % 16) (by rw [jB]; omega)) (by omega)) rfl ?_
       intro KT H
       replace H := H.conv (L' := [aO.blk b4 301 (kw (win (sched la 48) (i + 1)))]) (by rw [FT, ← A0 la i TU hlt, vR _ _ TU (by omega)]; rfl)
       refine WL.nil ⟨(fa (nw 24 13 (by decide +kernel)) (fa (nw 24 2 (by decide +kernel)) cV)), ?_⟩
       refine WP.done ?_
       replace H := H.drop (HQ := [bI a la, aW]) (by intro p hp; simp at hp ⊢; rcases hp with h | h <;> simp [h])
       exact ⟨(), (by repeat (first | with_reducible exact bQ.refl _ _ | refine bQ.dB rfl ?_)), trivial, rfl, H⟩
     ·
      refine WL.bJ (l0 := [.int .i64 (0), .int .i64 (0)]) H rfl rT (by decide) (dG _ _) (Fl.cons rfl (by rfl) (by simp only [aR]) Laid.head (Fl.cons rfl (by rfl) (by simp only [aR]) (Laid.tail Laid.head rfl) Fl.nil)) rfl ?_
      intro aFZ NR H
      replace H := H.freeze (i := 0) rfl
      replace H := H.add ((H.bN 0 rfl).imp fun _ h => CK.cA (l := [17, 19]) h rfl)
      refine WL.nil ⟨(fa (fun _ _ => (aK.fX (H.l 0 rfl) ((i + 9) % 16) (i - 7) (by omega) (by omega) (by unfold eZ; omega) (by rw [bP]; omega))) (fa (fun _ _ => (aK.fX (H.l 0 rfl) (i % 16) (i - 16) (by omega) (by omega) (by unfold eZ; omega) (by rw [bP]; omega))) cV)), ?_⟩
      refine WP.aG rfl ?_
      refine WL.bJ (l0 := [.int .i64 (0), .int .i64 (0)]) H rfl rT (by decide) (dG _ _) (Fl.cons rfl (by rfl) (by simp only [aR]) Laid.head (Fl.cons rfl (by rfl) (by simp only [aR]) (Laid.tail Laid.head rfl) Fl.nil)) rfl ?_
      intro aIp TK H
      replace H := H.freeze (i := 0) rfl
      replace H := H.add ((H.bN 0 rfl).imp fun _ h => CK.cA (l := [7, 18]) h rfl)
      refine WL.nil ⟨(fa (fun _ _ => (aK.fX (H.l 0 rfl) ((i + 9) % 16) (i - 7) (by omega) (by omega) (by unfold eZ; omega) (by rw [bP]; omega))) (fa (fun _ _ => (aK.fX (H.l 0 rfl) (i % 16) (i - 16) (by omega) (by omega) (by unfold eZ; omega) (by rw [bP]; omega))) cV)), ?_⟩
      refine WP.aG rfl ?_
      refine WL.call uN rfl (l9 (x := (sched la 48).getD (i - 15) 0) (l := [7, 18]) H.aS (by exact H.bN 0 rfl) (by decide) (by decide)) ?_
      rintro _ TJ ⟨rfl, hO⟩
      replace H := H.out hO
      refine WL.nil ⟨(fa (fun _ _ => (aK.fX (H.l 0 rfl) ((i + 9) % 16) (i - 7) (by omega) (by omega) (by unfold eZ; omega) (by rw [bP]; omega))) (fa (fun _ _ => (aK.fX (H.l 0 rfl) (i % 16) (i - 16) (by omega) (by omega) (by unfold eZ; omega) (by rw [bP]; omega))) cV)), ?_⟩
      refine WP.aC rfl rfl (PV.rP rfl rfl rfl) (WP.aC rfl rfl (PV.kT rfl rfl rfl) (WP.aG rfl ?_))
      refine WL.call uN rfl (l9 (x := (sched la 48).getD (i - 2) 0) (l := [17, 19]) H.aS (by exact H.bN 2 rfl) (by decide) (by decide)) ?_
      rintro _ TI ⟨rfl, hO⟩
      replace H := H.out hO
      refine WL.nil ⟨(fa (fun _ _ => (aK.fX (H.l 0 rfl) ((i + 9) % 16) (i - 7) (by omega) (by omega) (by unfold eZ; omega) (by rw [bP]; omega))) (fa (fun _ _ => (aK.fX (H.l 0 rfl) (i % 16) (i - 16) (by omega) (by omega) (by unfold eZ; omega) (by rw [bP]; omega))) cV)), ?_⟩
      refine WP.aC rfl rfl (PV.rP rfl rfl rfl) (WP.aC rfl rfl (PV.kT rfl rfl rfl) (WP.aC rfl rfl (PV.kT rfl rfl rfl) (WP.aC rfl rfl (PV.cG rfl qS fS rfl rfl (by omega) (by omega)) (WP.aG rfl ?_))))
      refine WL.aT H 0 rfl rfl rfl (new := _) rfl (by exact fS) (by exact bC _ rfl) (Laid.at (Laid.iW (i % 16) (by rw [jB]; omega)) (by omega)) rfl ?_
      intro YF H
      replace H := H.conv (L' := [aO.blk b4 301 (kw (win (sched la 48) (i + 1)))]) (by rw [FT, ← A0 la i TU hlt, vR _ _ TU (by omega)]; rfl)
      refine WL.nil ⟨(fa (nw 24 13 (by decide +kernel)) (fa (nw 24 2 (by decide +kernel)) cV)), ?_⟩
      refine WP.done ?_
      replace H := H.drop (HQ := [bI a la, aW]) (by intro p hp; simp at hp ⊢; rcases hp with h | h <;> simp [h])
      exact ⟨(), (by repeat (first | with_reducible exact bQ.refl _ _ | refine bQ.dB rfl ?_)), trivial, rfl, H⟩
    ·
     try simp only [bW] at aBg
     have TU : i < 16 := by omega
     replace H := H.conv (L' := [aO.blk b4 301 (kw (win (sched la 48) (i + 1)))]) (by rw [KN _ _ TU])
     refine WE.skip ?_
     replace H := H.drop (HQ := [bI a la, aW]) (by intro p hp; simp at hp ⊢; rcases hp with h | h <;> simp [h])
     exact ⟨(), (by repeat (first | with_reducible exact bQ.refl _ _ | refine bQ.dB rfl ?_)), trivial, rfl, H⟩
   ·
    intro _ γ w20 hI
    try dsimp only at hI
    replace H := hI
    refine WE.bF (.take 0 (.take 1 (.take 5 (.take 6 (.take 7 (.take 8 (.take 9 (.take 10 (.take 11 (.take 13 (.take 15 (.take 16 (.take 17 (.aG 2 (.aG 3 (.take 4 (.take 12 (.take 14 (.take 18 (.take 19 .done)))))))))))))))))))) mixed (by kernel_rfl) ?_
    replace H := H.out (Out.drew _)
    refine WP.mv rfl rfl rfl (WP.mv rfl rfl rfl (WP.mv rfl rfl rfl (WP.mv rfl rfl rfl (WP.mv rfl rfl rfl (WP.mv rfl rfl rfl (WP.aC rfl rfl (PV.rP rfl rfl rfl) (WP.aC rfl rfl (PV.E3 rfl rfl rfl) ?_)))))))
    refine WP.aC rfl rfl (PV.rP rfl rfl rfl) (WP.mv rfl rfl rfl (WP.mv rfl rfl rfl (WP.aC rfl rfl (PV.cG rfl qS fS rfl rfl (by omega) (by omega)) ?_)))
    refine WP.aQ rfl rfl (RV.aY rfl jX rfl) (aK.fX (H.l 0 rfl) (i % 16) (i) (by omega) (by omega) (by unfold eZ; omega) (by rw [bP]; omega)) ?_
    refine WP.aG rfl ?_
    refine WL.bJ (l0 := [.int .i64 (0), .int .i64 (0), .int .i64 (0)]) H rfl rT (by decide) (dG _ _) (Fl.cons rfl (by rfl) (by simp only [aR]) Laid.head (Fl.cons rfl (by rfl) (by simp only [aR]) (Laid.tail Laid.head rfl) (Fl.cons rfl (by rfl) (by simp only [aR]) (Laid.tail (Laid.tail Laid.head rfl) rfl) Fl.nil))) rfl ?_
    intro aJy w21 H
    replace H := H.freeze (i := 0) rfl
    replace H := H.add ((H.bN 0 rfl).imp fun _ h => CK.cA (l := [6, 11, 25]) h rfl)
    refine WL.nil ⟨(fa (fun _ _ => (aK.fX (H.l 0 rfl) (i % 16) (i) (by omega) (by omega) (by unfold eZ; omega) (by rw [bP]; omega))) cV), ?_⟩
    refine WP.aG rfl ?_
    refine WL.call uN rfl (l9 (x := (j5 (sched la 48) s i).getD 4 0) (l := [6, 11, 25]) H.aS (by exact H.bN 0 rfl) (by decide) (by decide)) ?_
    rintro _ w22 ⟨rfl, hO⟩
    replace H := H.out hO
    refine WL.nil ⟨(fa (fun _ _ => (aK.fX (H.l 0 rfl) (i % 16) (i) (by omega) (by omega) (by unfold eZ; omega) (by rw [bP]; omega))) cV), ?_⟩
    refine WP.aC rfl rfl (PV.kT rfl rfl rfl) (WP.aC rfl rfl (PV.kT rfl rfl rfl) (WP.aC rfl rfl (PV.kT rfl rfl rfl) (WP.aC rfl rfl (PV.kT rfl rfl rfl) (WP.as rfl rfl rfl (WP.done ?_)))))
    refine WE.norm [8, 9, 10, 11, 12, 13, 14, 15, 16, 17, 18, 19, 20, 21, 83, 84, 85, 86, 87, 88, 89, 90, 91, 92, 93, 94, 95, 96, 97, 98, 99, 100, 101, 102, 103, 104, 105, 106, 107, 108, 109, 110, 111, 112, 113, 114, 115, 116, 117, 118, 119, 120, 121, 122, 123, 124, 125, 126, 127, 128, 129, 130, 131, 132, 133, 134, 135, 136, 137, 138, 139, 140, 141, 142, 143, 144, 145, 146, 147, 148, 149, 150, 151, 152, 153, 154, 155, 156, 157, 158, 159, 160, 161, 162, 163, 164, 165, 166, 167, 168] [(83, .int .i64 i), (21, .int .u32 ((t1f (j5 (sched la 48) s i) (k4.getD i 0) ((sched la 48).getD i 0)).toNat : Int)), (8, .int .u32 (((j5 (sched la 48) s i).getD 0 0).toNat : Int)), (9, .int .u32 (((j5 (sched la 48) s i).getD 1 0).toNat : Int)), (10, .int .u32 (((j5 (sched la 48) s i).getD 2 0).toNat : Int)), (11, .int .u32 (((j5 (sched la 48) s i).getD 3 0).toNat : Int)), (12, .int .u32 (((j5 (sched la 48) s i).getD 4 0).toNat : Int)), (13, .int .u32 (((j5 (sched la 48) s i).getD 5 0).toNat : Int)), (14, .int .u32 (((j5 (sched la 48) s i).getD 6 0).toNat : Int)), (15, .int .u32 (((j5 (sched la 48) s i).getD 7 0).toNat : Int))] (bQ.refl _ _) ⟨rfl, (by show Value.int .u32 _ = _; rw [aAt]), rfl, rfl, rfl, rfl, rfl, rfl, rfl, rfl, trivial⟩ ?_
    intro γ_
    refine WE.aA (WL.mv rfl rfl (WL.mv rfl rfl (WL.mv rfl rfl (WL.mv rfl rfl (WL.mv rfl rfl (WL.pv (PV.kT rfl rfl rfl) rfl (WL.as rfl rfl ?_)))))))
    refine WL.as rfl rfl (WL.as rfl rfl (WL.as rfl rfl (WL.nil (WE.eM (WL.mv rfl rfl (WL.mv rfl rfl (WL.mv rfl rfl ?_)))))))
    refine WL.mv rfl rfl (WL.mv rfl rfl ?_)
    refine WL.bJ (l0 := [.int .i64 (0), .int .i64 (0), .int .i64 (0)]) H rfl rT (by decide) (dG _ _) (Fl.cons rfl (by rfl) (by simp only [aR]) Laid.head (Fl.cons rfl (by rfl) (by simp only [aR]) (Laid.tail Laid.head rfl) (Fl.cons rfl (by rfl) (by simp only [aR]) (Laid.tail (Laid.tail Laid.head rfl) rfl) Fl.nil))) rfl ?_
    intro aJx w23 H
    replace H := H.freeze (i := 0) rfl
    replace H := H.add ((H.bN 0 rfl).imp fun _ h => CK.cA (l := [2, 13, 22]) h rfl)
    refine WL.call uN rfl (l9 (x := (j5 (sched la 48) s i).getD 0 0) (l := [2, 13, 22]) H.aS (by exact H.bN 0 rfl) (by decide) (by decide)) ?_
    rintro _ w24 ⟨rfl, hO⟩
    replace H := H.out hO
    refine WL.pv (PV.kT rfl rfl rfl) rfl (WL.mv rfl rfl (WL.mv rfl rfl (WL.pv (PV.E3 rfl rfl rfl) rfl (WL.mv rfl rfl (WL.mv rfl rfl (WL.mv rfl rfl (WL.pv (PV.O4 rfl rfl rfl) rfl ?_)))))))
    refine WL.pv (PV.E3 rfl rfl rfl) rfl (WL.pv (PV.O4 rfl rfl rfl) rfl (WL.pv (PV.kT rfl rfl rfl) rfl (WL.as rfl rfl (WL.as rfl rfl (WL.as rfl rfl (WL.as rfl rfl (WL.nil ?_)))))))
    refine WE.eM (WL.pv (PV.bZ rfl rfl rfl (by omega) (by omega)) rfl (WL.mv rfl rfl (WL.nil ?_)))
    replace H := H.drop (HQ := [bI a la, aW]) (by intro p hp; simp at hp ⊢; rcases hp with h | h <;> simp [h])
    exact ⟨i + 1, (by repeat (first | with_reducible exact bQ.refl _ _ | refine bQ.dB rfl ?_ | refine bQ.cE rfl ?_ | refine bQ.cB rfl ?_)), ⟨rfl, by show Value.int .u32 _ = _; rw [aAv]; rfl, rfl, rfl, rfl, rfl, rfl, rfl, rfl, trivial⟩, rfl, ⟨by omega, H⟩, (by omega)⟩
  ·
   try simp only [bW] at aBh
   obtain rfl : i = 64 := by omega
   refine WE.exit (WE.aA (WL.mv rfl rfl (WL.mv rfl rfl (WL.mv rfl rfl (WL.mv rfl rfl (WL.mv rfl rfl (WL.mv rfl rfl ?_)))))))
   refine WL.mv rfl rfl (WL.mv rfl rfl ?_)
   refine WL.pv (PV.eq (v' := .agg (kw (j5 (sched la 48) s 64)).toArray) (PV.mM (l := kw (j5 (sched la 48) s 64)) rfl aAa fS aCm (by rw [← kw8 _ (pD _ s hs 64)]; exact (Fl.cons rfl (by rfl) (by simp only [aR]) (Laid.iW 0 (by simp only [aR]; omega)) (Fl.cons rfl (by rfl) (by simp only [aR]) (Laid.iW 1 (by (simp [aN, bA, *]; done))) (Fl.cons rfl (by rfl) (by simp only [aR]) (Laid.iW 2 (by (simp [aN, bA, *]; done))) (Fl.cons rfl (by rfl) (by simp only [aR]) (Laid.iW 3 (by (simp [aN, bA, *]; done))) (Fl.cons rfl (by rfl) (by simp only [aR]) (Laid.iW 4 (by (simp [aN, bA, *]; done))) (Fl.cons rfl (by rfl) (by simp only [aR]) (Laid.iW 5 (by (simp [aN, bA, *]; done))) (Fl.cons rfl (by rfl) (by simp only [aR]) (Laid.iW 6 (by (simp [aN, bA, *]; done))) (Fl.cons rfl (by rfl) (by simp only [aR]) (Laid.iW 7 (by (simp [aN, bA, *]; done))) Fl.nil)))))))))) rfl) rfl ?_
   refine WL.mv rfl rfl (WL.nil (WE.block ?_))
   refine WE.loop (α := Nat) [22, 23, 178, 179, 180, 181, 182, 183, 184, 185, 186, 187, 188, 189, 190, 191] (fun i => [(178, .int .i64 i)]) (fun i wl => i ≤ 8 ∧ St X w wl [aO.blk b 266 (kw (lQ s (j5 (sched la 48) s 64) i))] [aO.blk b4 301 (kw (win (sched la 48) (64)))] [bI a la, aW]) (fun i => 8 - i) 0 ⟨rfl, trivial⟩ ⟨Nat.zero_le _, by rw [HJ _ _ hs]; exact H⟩ ?_
   intro i γ3 w25 hI
   try dsimp only at hI
   obtain ⟨hi, H⟩ := hI
   refine WE.aA (WL.pv (PV.lss rfl rfl rfl) rfl (WL.nil (WE.seq ?_)))
   refine WE.cond rfl (fun QT => ?_) (fun QT => ?_)
   ·
    try simp only [bW] at QT
    have hlt : i < 8 := by omega
    refine WE.skip (WE.seq (WE.block (WE.aA (WL.mv rfl rfl ?_))))
    refine WL.pv (PV.GH (l := kw (j5 (sched la 48) s 64)) rfl aAa fS jX rfl rfl (by omega) (aAU _ i (by rw [pD _ s hs]; exact hlt))) rfl ?_
    refine WL.as rfl rfl (WL.as rfl rfl (WL.nil ?_))
    refine WE.draw (.take 0 (.take 1 (.take 2 (.take 3 (.take 4 (.take 5 (.take 6 (.take 7 (.take 8 (.aG 9 .done)))))))))) mixed (by kernel_rfl) ?_
    replace H := H.out (Out.drew _)
    refine WP.mv rfl rfl rfl (WP.mv rfl rfl rfl (WP.aC rfl rfl (PV.nilCheck rfl rfl) (WP.aC rfl rfl (PV.cG rfl oR fS rfl rfl (by omega) (by omega)) ?_)))
    refine WP.aQ rfl rfl (RV.aY rfl jX rfl) (by exact aK.aF (H.o 0 rfl) (aJ.word i (by rw [gX]; exact hlt)) (by (simp; done))) ?_
    refine WP.mv rfl rfl rfl (WP.aC rfl rfl (PV.kT rfl rfl rfl) (WP.aC rfl rfl (PV.nilCheck rfl rfl) (WP.aC rfl rfl (PV.cG rfl oR fS rfl rfl (by omega) (by omega)) (WP.aG rfl ?_))))
    refine WL.kV H 0 rfl rfl rfl (new := _) rfl (by exact fS) (by exact bC _ rfl) (Laid.at (Laid.iW i (by rw [gX]; exact hlt)) (by (simp; done))) rfl ?_
    intro w26 H
    refine WL.nil ⟨(fa (nw 9 4 (by decide +kernel)) cV), ?_⟩
    refine WP.done (WE.eM (WL.pv (PV.bZ rfl rfl rfl (by omega) (by omega)) rfl (WL.mv rfl rfl (WL.nil ?_))))
    have e := MP s (j5 (sched la 48) s 64) i hs (pD _ s hs 64) hlt
    exact ⟨i + 1, (by repeat (first | with_reducible exact bQ.refl _ _ | refine bQ.dB rfl ?_ | refine bQ.cE rfl ?_ | refine bQ.cB rfl ?_)), ⟨rfl, trivial⟩, rfl, ⟨by omega, by rw [← e]; exact H⟩, (by omega)⟩
   ·
    try simp only [bW] at QT
    obtain rfl : i = 8 := by omega
    refine WE.exit ?_
    refine ⟨[], _, .nil _, trivial, ?_⟩
    exact ⟨rfl, H.cM, H.o 0 rfl⟩
def aBD (v : Value) (i : Nat) (xs : List Value) (_ : World) : Prop := xs = [mF v 1 (64 * i) (64 * i + 64)]
theorem HW {C : Nat → Prop} {w : World} {bs bn n : Nat} {v : Value} {l : List UInt8} (hC : ∀ b, C b → b < w.heap.size) (bU : aH C (bI v l) w) (dA : aH C (fun w => cX w ⟨bs, 0, none⟩ [v]) w) (fO : aH C (fun w => cX w ⟨bn, 0, none⟩ [.int .i64 64]) w) (hl : l.length = 64 * n) (hlm : l.length ≤ 2000000000) : XO Tryz.prog 193 [] [.pointer (some ⟨bs, 0, none⟩), .pointer (some ⟨bn, 0, none⟩)] (n) (aBD v) Nil C w := by
 intro f J Jx hst pJ aA2 mG hf
 show bD Tryz.prog 193 ([f, .pointer (some ⟨bs, 0, none⟩), .pointer (some ⟨bn, 0, none⟩)] : List Value).toArray w _
 refine bD.aI (N := 31) Tryz.func193 rfl rfl (by simp) ?_
 have H := St.begin (X := C) hC
 replace H := H.add (cF fO)
 replace H := H.add (cF dA)
 replace H := H.add (cF bU)
 refine WE.aA (WL.as rfl rfl (WL.nil (WE.block ?_)))
 refine WE.loop (α := Nat) [4, 5, 6, 7, 8, 9, 10, 11, 12, 13, 14, 15, 16, 17, 18, 19, 20, 21, 22, 23, 24, 25, 26, 27, 28, 29, 30] (fun k => [(4, .int .i64 ((64 * k : Nat) : Int))]) (fun k wl => k ≤ n ∧ J Nil k wl ∧ St C wl wl [] [] [bI v l, fun w => cX w ⟨bs, 0, none⟩ [v], fun w => cX w ⟨bn, 0, none⟩ [.int .i64 64]]) (fun k => n - k) 0 ⟨rfl, trivial⟩ ⟨Nat.zero_le _, hst Nil w (Out.refl _ _) (fun _ h => h.elim) (fun _ h => h), H⟩ ?_
 intro k γ0 w1 hI
 try dsimp only at hI
 obtain ⟨NA, hJ, H⟩ := hI
 have BJ : ∃ FP, FP = w1 := ⟨_, rfl⟩
 obtain ⟨FP, BJ⟩ := BJ
 rw [← BJ] at hJ H ⊢
 clear BJ
 refine WE.seq (WE.aA (WL.mv rfl rfl (WL.aZ rfl eL rfl rfl (H.p 1 rfl) (WL.pv (PV.dO (H.p 0 rfl) eV rfl) rfl (WL.pv (PV.lss rfl rfl rfl) rfl (WL.nil ?_))))))
 refine WE.cond rfl (fun xA => ?_) (fun xA => ?_)
 ·
  try simp only [bW] at xA
  have hlt : k < n := by omega
  refine WE.skip (WE.seq (WE.block ?_))
  refine WE.bF (.take 0 (.take 1 (.take 2 (.take 3 (.take 4 (.take 5 (.take 6 .done))))))) mixed (by kernel_rfl) ?_
  replace H := H.out (Out.drew _)
  refine WP.aQ rfl rfl (RV.aY rfl oZ rfl) (H.p 2 rfl) (WP.aQ rfl rfl (RV.aY rfl eL rfl) (H.p 1 rfl) (WP.mv rfl rfl rfl ?_))
  refine WP.aC rfl rfl (PV.eq (v' := iS v 1 (64 * k) l.length) (PV.qC rfl (H.p 0 rfl) eV iB rfl rfl (by omega) (by omega)) (by congr 1)) ?_
  refine WP.aC rfl rfl (PV.eq (v' := .int .i64 ((l.length - 64 * k : Nat) : Int)) (PV.dO (bI.sub (lo := 64 * k) (hi := l.length) (H.p 0 rfl) (by omega) (Nat.le_refl _)) eV rfl) (by simp)) ?_
  refine WP.aC rfl rfl (PV.eq (v' := .int .i64 64) (PV.aAS rfl rfl) (by congr 1; omega)) ?_
  refine WP.as rfl rfl rfl (WP.done (WE.aA (WL.mv rfl rfl (WL.aZ rfl eL rfl rfl (H.p 1 rfl) (WL.mv rfl rfl (WL.mv rfl rfl (WL.mv rfl rfl ?_)))))))
  refine WL.pv (PV.bZ rfl rfl rfl (by omega) (by omega)) rfl (WL.mv rfl rfl (WL.mv rfl rfl (WL.pv (PV.bZ rfl rfl rfl (by omega) (by omega)) rfl ?_)))
  refine WL.pv (PV.eq (v' := mF v 1 (64 * k) (64 * k + 64)) (PV.aAA rfl (H.p 0 rfl) eV iB rfl rfl rfl rfl (by omega) (by omega)) (by congr 1)) rfl ?_
  refine WL.iK rfl rfl (mG Nil k _ FP _ (by omega) hJ H.aM (aH.pure rfl)) ?_
  rintro _ w2 ⟨hk, ⟨rfl, hJ⟩ | ⟨rfl, hJ⟩⟩
  ·
   replace H := St.HG (Ps := [bI v l, fun w => cX w ⟨bs, 0, none⟩ [v], fun w => cX w ⟨bn, 0, none⟩ [.int .i64 64]]) hC hk (fun _ h => h.elim) (by intro p hp; simp at hp; rcases hp with rfl | rfl | rfl <;> assumption)
   refine WL.pv (PV.not rfl rfl) rfl (WL.nil (WE.iJ rfl (WE.skip (WE.eM (WL.mv rfl rfl (WL.aZ rfl oZ rfl rfl (H.p 2 rfl) (WL.pv (PV.bZ rfl rfl rfl (by omega) (by omega)) rfl ?_)))))))
   refine WL.as rfl rfl (WL.nil ?_)
   exact ⟨k + 1, (by repeat (first | with_reducible exact bQ.refl _ _ | refine bQ.dB rfl ?_ | refine bQ.cE rfl ?_ | refine bQ.cB rfl ?_)), ⟨rfl, trivial⟩, rfl, ⟨by omega, hJ, H⟩, (by omega)⟩
  ·
   refine WL.pv (PV.not rfl rfl) rfl (WL.nil (WE.kY rfl (WE.ret ?_)))
   refine ⟨[], _, .nil _, trivial, ?_⟩
   exact ⟨rfl, Nil, .inr hJ⟩
 ·
  try simp only [bW] at xA
  obtain rfl : k = n := by omega
  refine WE.exit ?_
  refine ⟨[], _, .nil _, trivial, ?_⟩
  exact ⟨rfl, Nil, .inl (pJ _ _ _ _ hJ H.aM)⟩
theorem X1 {X : Nat → Prop} {w : World} {v : Value} {l : List UInt8} (hX : cW X w) (bU : aH X (bI v l) w) :
  bD Tryz.prog 161 [v, .int .i64 64].toArray w fun r w' => ∃ bs bn, r = .func (.func 193) [].toArray [.pointer (some ⟨bs, 0, none⟩), .pointer (some ⟨bn, 0, none⟩)].toArray ∧ Out Nil w w' ∧ aH X (fun w => cX w ⟨bs, 0, none⟩ [v]) w' ∧ aH X (fun w => cX w ⟨bn, 0, none⟩ [.int .i64 64]) w' := by
 refine bD.aI (N := 9) Tryz.func161 rfl rfl (by simp) ?_
 have H := St.begin hX
 replace H := H.add (cF bU)
 refine WE.aA ?_
 refine WL.box (l := [v]) H rfl (by exact cS.cells (H.p 0 rfl)) rfl ?_
 intro b2 w1 H
 refine WL.box (l := _) H rfl (by rfl) rfl ?_
 intro b3 w2 H
 refine WL.as rfl rfl (WL.nil (WE.seq (WE.aA ?_)))
 refine WL.aZ rfl oZ rfl rfl (by exact aK.aF (H.l 0 rfl) (aJ.all _) (by rfl)) ?_
 refine WL.pv (PV.lss rfl rfl rfl) rfl (WL.nil ?_)
 refine WE.bB rfl (by decide) ?_
 refine WE.skip (WE.aA (WL.pv (PV.makeFunc rfl) rfl (WL.as rfl rfl (WL.nil (WE.ret ⟨[_], _, .nil _, ⟨rfl, trivial⟩, ?_⟩)))))
 replace H := (H.freeze (i := 0) rfl).freeze (i := 0) rfl
 exact ⟨b2, b3, rfl, H.aM, H.gU ((H.bN 0 rfl).imp fun _ h => h.rd), H.gU ((H.bN 1 rfl).imp fun _ h => h.rd)⟩
theorem aGi {X : Nat → Prop} {w : World} {a : Value} {la : List UInt8} (hX : cW X w) (bU : aH X (bI a la) w) (dA : aH X (aW) w) (wX : la.length ≤ 1000000000) :
  bD Tryz.prog 109 [a].toArray w fun v w' => v = .agg (kc (cR la)).toArray ∧ Out Nil w w' := by
 refine bD.aI (N := 34) Tryz.func109 rfl rfl (by simp) ?_
 have H := St.begin hX
 replace H := H.add (cF dA)
 replace H := H.add (cF bU)
 have aJi := OZ la
 have vC := n5 la
 have aG1 : zc la.length < 64 := by unfold zc; omega
 refine WE.aA ?_
 refine WL.alloc H rfl nP rfl ?_
 intro b2 w1 H
 refine WL.nil (WE.aA ?_)
 refine WL.call aFc rfl (UG  H.aS  ) ?_
 rintro _ w2 ⟨rfl, hO⟩
 replace H := H.out hO
 refine WL.alloc H rfl NG rfl ?_
 intro b3 w3 H
 refine WL.aT H 0 rfl rfl rfl (new := _) rfl (by exact N1) (by exact PO _) (Laid.at (Laid.all (by simp only [aR])) (by rfl)) rfl ?_
 intro w4 H
 refine WL.nil (WE.aA ?_)
 refine WL.pv (PV.eq (v' := .func (.func 160) [.pointer (some ⟨b3, 0, none⟩)].toArray [].toArray) (PV.makeFunc rfl) rfl) rfl ?_
 refine WL.alloc H rfl aCl rfl ?_
 intro b4 w5 H
 refine WL.aT H 0 rfl rfl rfl (new := _) rfl (by exact aCA) (by exact bC _ rfl) (Laid.at (Laid.all (by simp only [aR])) (by rfl)) rfl ?_
 intro w6 H
 refine WL.nil (WE.seq (WE.aA (WL.mv rfl rfl ?_)))
 refine WL.call aE9 rfl (aGl (la := la) H.aS (H.bN 0 rfl) wX) ?_
 rintro v11 w7 ⟨hO, hR⟩
 replace H := (H.out hO).add hR
 refine WL.call aFa rfl (X1  H.aS (by exact H.bN 0 rfl) ) ?_
 rintro _ w8 ⟨bs, bn, rfl, hO, LW, JH⟩
 replace H := ((H.out hO).add JH).add LW
 refine WL.nil (WE.block ?_)
 replace H := H.A6
 refine WE.A4 (α := Unit) (fun i _ => True) (fun i _ => []) (fun i _ => [aO.blk b4 268 [.func (.func 160) [.pointer (some ⟨b3, 0, none⟩)].toArray [].toArray], aO.blk b3 266 (kw (qF (gI la) i)), aO.blk b2 30 (kc (List.replicate 32 0))]) (fun i _ => [fun w => cX w ⟨bs, 0, none⟩ [v11], fun w => cX w ⟨bn, 0, none⟩ [.int .i64 64], bI v11 (gI la), bI a la, aW]) (fun _ _ => False) (fun _ _ => []) (fun _ _ => []) (fun _ _ => []) () H rfl aEY (fun W0 hO => HW (n := (gI la).length / 64) (H.WY hO) (H.xO hO 2 rfl) (H.xO hO 0 rfl) (H.xO hO 1 rfl) (by omega) (by omega)) (by intro _ _ _ h; rw [h]; rfl) ⟨trivial, rfl, rfl, rfl⟩ ?_ ?_ ?_
 ·
  intro i _ xs_ l_ d_ o_ T_ sc_ w9 iU zT QV
  obtain rfl := QV
  refine WE.eM (WL.as rfl rfl (WL.nil ?_))
  refine ⟨rfl, rfl, rfl, ?_⟩
  intro vT H
  refine WE.block (WE.eM ?_)
  refine WL.aZ rfl aGa rfl rfl (by exact aK.aF (H.l 0 rfl) (aJ.all _) (by rfl)) ?_
  refine WL.mv rfl rfl ?_
  refine WL.qQ aFb rfl rfl (aAu (b := b3) (s := qF (gI la) i) (la := ((gI la).drop (64 * i)).take (64 * i + 64 - 64 * i)) H.aS (H.l 1 rfl) ((H.eX 1 rfl 3 rfl).imp fun _ h => bI.KX h (by omega) (by omega)) (H.eX 1 rfl 5 rfl) (by simp; omega) (rW _ _)) ?_
  rintro _ y8 ⟨rfl, hO, hB⟩
  replace H := H.called 1 rfl hO hB
  refine WL.nil ?_
  replace H := H.conv (L' := [aO.blk b4 268 [.func (.func 160) [.pointer (some ⟨b3, 0, none⟩)].toArray [].toArray], aO.blk b3 266 (kw (qF (gI la) (i + 1))), aO.blk b2 30 (kc (List.replicate 32 0)), aO.obj l_ o_, aO.obj d_ (.deferred (some [])), aO.sn T_ vT]) (by rw [show 64 * i + 64 - 64 * i = 64 by omega]; rfl)
  replace H := H.drop (fun p hp => List.mem_cons_of_mem _ hp)
  exact ⟨(), trivial, H⟩
 ·
  intro _ WR IE zT H
  refine WE.aA ?_
  refine WL.alloc H rfl nP rfl ?_
  intro b6 FI H
  refine WL.nil (WE.seq (WE.aA (WL.mv rfl rfl (WL.nil (WE.block ?_)))))
  have hS := rW (gI la) ((gI la).length / 64)
  refine WE.loop (α := Nat) [7, 17, 18, 19, 20, 21, 22, 23, 24, 25, 26, 27, 28, 29, 30, 31, 32] (fun k => [(17, .int .i64 k)]) (fun k wl => k ≤ 32 ∧ St X w wl [] [aO.blk b6 30 (kc (qP 32 k (qI (qF (gI la) ((gI la).length / 64))))), aO.obj WR (.deferred (some [])), aO.blk b4 268 [.func (.func 160) [.pointer (some ⟨b3, 0, none⟩)].toArray [].toArray], aO.blk b3 266 (kw (qF (gI la) ((gI la).length / 64))), aO.blk b2 30 (kc (List.replicate 32 0))] [fun w => cX w ⟨bs, 0, none⟩ [v11], fun w => cX w ⟨bn, 0, none⟩ [.int .i64 64], bI v11 (gI la), bI a la, aW]) (fun k => 32 - k) 0 ⟨rfl, trivial⟩ ⟨Nat.zero_le _, by rw [GV]; exact H⟩ ?_
  intro k γ0 KT hI
  try dsimp only at hI
  obtain ⟨hi, H⟩ := hI
  refine WE.aA (WL.pv (PV.lss rfl rfl rfl) rfl (WL.nil (WE.seq ?_)))
  refine WE.cond rfl (fun q8 => ?_) (fun q8 => ?_)
  ·
   try simp only [bW] at q8
   have LP : k < 32 := by omega
   refine WE.skip (WE.seq (WE.block (WE.aA (WL.mv rfl rfl (WL.as rfl rfl (WL.nil (WE.eM ?_)))))))
   refine WL.mv rfl rfl (WL.mv rfl rfl ?_)
   refine WL.pv (PV.eq (v' := .int .i64 ((k / 4 : Nat) : Int)) (PV.zC rfl rfl rfl (by omega) (by omega) (by omega)) (by rfl)) rfl ?_
   refine WL.pv (PV.cG rfl oR fS rfl rfl (by omega) (by omega)) rfl ?_
   refine WL.aZ rfl jX rfl rfl (by exact aK.aF (H.l 3 rfl) (aJ.word (k / 4) (by rw [hS]; omega)) (by omega)) ?_
   refine WL.mv rfl rfl ?_
   refine WL.pv (PV.eq (v' := .int .i64 ((k % 4 : Nat) : Int)) (PV.uI rfl rfl rfl (by omega) (by omega)) (by rfl)) rfl ?_
   refine WL.pv (PV.eq (v' := .int .i64 ((8 * (k % 4) : Nat) : Int)) (PV.qJ rfl rfl rfl (by omega) (by omega)) (by rfl)) rfl ?_
   refine WL.pv (PV.eq (v' := .int .i64 ((24 - 8 * (k % 4) : Nat) : Int)) (PV.iT rfl rfl rfl (by omega) (by omega)) (by (congr 1; omega))) rfl ?_
   refine WL.pv (PV.C0 (n := 24 - 8 * (k % 4)) rfl rfl rfl (by omega)) rfl (WL.pv (PV.aFR rfl PT pI rfl) rfl (WL.pv (PV.cG rfl oY iB rfl rfl (by omega) (by omega)) rfl ?_))
   refine WL.aT H 0 rfl rfl rfl (new := _) rfl (by exact iB) (by exact bC _ rfl) (Laid.at (Laid.AH k (by rw [BW (by omega) (by rw [n9]; omega)]; omega)) (by (simp; done))) rfl ?_
   intro NR H
   refine WL.nil (WE.eM (WL.pv (PV.bZ rfl rfl rfl (by omega) (by omega)) rfl (WL.mv rfl rfl (WL.nil ?_))))
   have e := L0 (m := 32) (k := k) (l := qI (qF (gI la) ((gI la).length / 64))) (by omega) (by rw [n9]; omega)
   rw [K9 _ _ _ (by rw [hS]; omega)] at e
   exact ⟨k + 1, (by repeat (first | with_reducible exact bQ.refl _ _ | refine bQ.dB rfl ?_ | refine bQ.cE rfl ?_ | refine bQ.cB rfl ?_)), ⟨rfl, trivial⟩, rfl, ⟨by omega, H.conv (by rw [← e]; rfl)⟩, (by omega)⟩
  ·
   try simp only [bW] at q8
   obtain rfl : k = 32 := by omega
   refine WE.exit (WE.aA ?_)
   have e32 := L2 (m := 32) (l := qI (qF (gI la) ((gI la).length / 64))) (n9 _)
   rw [e32] at H
   refine WL.bG rfl iD rfl rfl (by exact aK.aF (H.l 0 rfl) (aJ.all _) (by rfl)) (by exact dK) ?_
   refine WL.aT H 4 rfl rfl rfl (new := _) rfl (by exact dK) (by exact bK _) (Laid.at (Laid.all (by rfl)) (by rfl)) rfl ?_
   intro TK H
   refine WL.nil (WE.ret ?_)
   (obtain ⟨TJ, wY, H⟩ := H.vU 1 rfl)
   refine ⟨[_], _, (wY _ (.nil _)), ⟨⟨_, rfl, aV iD (by exact aK.aF (H.l 3 rfl) (aJ.all _) rfl) (by exact dK)⟩, trivial⟩, ?_⟩
   exact ⟨rfl, H.aM⟩
 ·
  intro e_ _ WR TI QG zT H
  exact zT.elim
def k6 (x : UInt8) (k : Nat) : UInt8 := UInt8.ofNat (x.toNat / 2 ^ (8 - k) * 2 ^ (8 - k))
def pH (j q : Nat) : Nat := min (j - 8 * q) 8
def RM (l : List UInt8) (j : Nat) : List UInt8 := (List.range 32).map fun q => k6 (l.getD q 0) (pH j q)
def kG (b : Int) : Nat := (min (max b 0) 256).toNat
def dS (l : List UInt8) (b : Int) : List UInt8 := RM l (kG b)
theorem jG (l : List UInt8) (j : Nat) : (RM l j).length = 32 := by simp [RM]
theorem cY (l : List UInt8) (b : Int) : (dS l b).length = 32 := jG _ _
theorem yX (x : UInt8) (k : Nat) : (k6 x k).toNat = x.toNat / 2 ^ (8 - k) * 2 ^ (8 - k) := by
 have h := Nat.div_mul_le_self x.toNat (2 ^ (8 - k))
 have := x.toNat_lt
 simp [k6]; omega
theorem WS (l : List UInt8) (j i : Nat) (hi : i < 32) (hl : l.length = 32) : ((List.range 32).map fun q => if q < i then k6 (l.getD q 0) (pH j q) else l.getD q 0).set i (k6 (l.getD i 0) (pH j i)) = (List.range 32).map fun q => if q < i + 1 then k6 (l.getD q 0) (pH j q) else l.getD q 0 := by
 apply List.ext_getElem
 ·
  simp
 ·
  intro q h1 h2
  simp at h2
  rw [List.getElem_set]
  split
  ·
   rename_i h; subst h; simp
  ·
   rename_i h
   simp only [List.getElem_map, List.getElem_range]
   by_cases h3 : q < i
   ·
    rw [if_pos h3, if_pos (by omega)]
   ·
    rw [if_neg h3, if_neg (by omega)]
def iZ (l : List UInt8) (j i : Nat) : List UInt8 := (List.range 32).map fun q => if q < i then k6 (l.getD q 0) (pH j q) else l.getD q 0
theorem fE (l : List UInt8) (j i : Nat) : (iZ l j i).length = 32 := by simp [iZ]
theorem B3 (l : List UInt8) (j : Nat) (hl : l.length = 32) : iZ l j 0 = l := by
 apply List.ext_getElem
 ·
  rw [fE, hl]
 ·
  intro q h1 h2; simp [iZ, h2]
theorem EM (l : List UInt8) (j : Nat) : iZ l j 32 = RM l j := by
 unfold iZ RM
 apply List.map_congr_left
 intro q hq
 rw [if_pos (by simpa using hq)]
theorem EL (l : List UInt8) (j i : Nat) (hi : i < (iZ l j i).length) : (iZ l j i)[i] = l.getD i 0 := by simp [iZ]
theorem MM : ∀ k : Fin 9, ∀ x : Fin 256, IntKind.u8.wrap ((BitVec.ofInt IntKind.u8.bits (x.val : Int) &&& BitVec.ofInt IntKind.u8.bits (IntKind.u8.wrap (255 * 2 ^ (min ((8 : Int) - (k.val : Int)).toNat IntKind.u8.bits)))).toNat) = ((x.val / 2 ^ (8 - k.val) * 2 ^ (8 - k.val) : Nat) : Int) := by decide +kernel
theorem SD (x : UInt8) (k : Nat) (hk : k ≤ 8) (z : Int) (hz : z = 8 - (k : Int)) : IntKind.u8.wrap ((BitVec.ofInt IntKind.u8.bits (x.toNat : Int) &&& BitVec.ofInt IntKind.u8.bits (IntKind.u8.wrap (255 * 2 ^ (min z.toNat IntKind.u8.bits)))).toNat) = ((k6 x k).toNat : Int) := by
 subst hz
 rw [yX]
 exact MM ⟨k, by omega⟩ ⟨x.toNat, x.toNat_lt⟩
def bH (l : List UInt8) (i : Nat) : Nat := (l.getD (i / 8) 0).toNat / 2 ^ (7 - i % 8) % 2
def MH (l : List UInt8) (i : Int) : Int := if i < 0 ∨ 255 < i then -1 else (bH l i.toNat : Int)
theorem aDT (b t : Nat) : ((b / 2 ^ t : Nat) : Int) / 2 = ((b / 2 ^ (t + 1) : Nat) : Int) := by
 rw [Nat.pow_succ, ← Nat.div_div_eq_div_mul]; omega
def nG (l : List UInt8) (i : Nat) : List UInt8 := l.set (i / 8) (if bH l i = 0 then UInt8.ofNat ((l.getD (i / 8) 0).toNat + 2 ^ (7 - i % 8)) else UInt8.ofNat ((l.getD (i / 8) 0).toNat - 2 ^ (7 - i % 8)))
theorem eA (l : List UInt8) (i : Nat) : bH l i < 2 := Nat.mod_lt _ (by decide)
theorem aK.RX {w : World} {b o : Nat} {t : TypeId} {l : List UInt8} (h : aK w b t (kc l)) (i : Nat) (hi : i < l.length) (ho : o = i) : cX w ⟨b, o, none⟩ [.int .u8 ((l.getD i 0).toNat : Int)] := by
 have h1 := aK.aF h (aJ.byte i hi) ho
 rwa [← jQ (d := 0)] at h1
def fJ (bh bc : Nat) (bits : Int) (w : World) : Prop := cX w ⟨bh, 0, none⟩ [.pointer (some ⟨bc, 0, none⟩), .int .i64 bits]
theorem OO {X : Nat → Prop} {w : World} {l : List UInt8} {i : Int} (hX : cW X w) (hl : l.length = 32) (hi : -9223372036854775808 ≤ i ∧ i ≤ 9223372036854775807) :
  bD Tryz.prog 107 [.agg (kc l).toArray, .int .i64 i].toArray w fun v w' => v = .int .i64 (MH l i) ∧ Out Nil w w' := by
 refine bD.aI (N := 28) Tryz.func107 rfl rfl (by simp) ?_
 have H := St.begin hX
 refine WE.aA ?_
 refine WL.box (l := kc l) H rfl (by rfl) rfl ?_
 intro b2 w1 H
 refine WL.as rfl rfl (WL.nil (WE.seq (WE.aA (WL.mv rfl rfl (WL.pv (PV.lss rfl rfl rfl) rfl (WL.mv rfl rfl ?_))))))
 refine WL.split (t := 9) rfl (fun hg9 => ?_) (fun hg9 => ?_)
 ·
  refine WL.known (t := 8) (c := true) rfl hg9 ?_
  try simp only [bW] at hg9
  refine WL.off rfl (WL.off rfl (WL.pv (PV.dH rfl rfl rfl) rfl (WL.nil (WE.kY rfl (WE.aA (WL.as rfl rfl (WL.nil ?_)))))))
  refine WE.ret ⟨[_], _, .nil _, ⟨rfl, trivial⟩, ?_⟩
  refine ⟨?_, H.aM⟩
  rw [MH, if_pos (by omega)]; rfl
 ·
  refine WL.known (t := 8) (c := false) rfl hg9 ?_
  try simp only [bW] at hg9
  refine WL.mv rfl rfl (WL.pv (PV.gtr rfl rfl rfl) rfl (WL.pv (PV.c5 rfl rfl rfl) rfl (WL.nil ?_)))
  refine WE.cond rfl (fun kW => ?_) (fun kW => ?_)
  ·
   try simp only [bW] at kW
   refine WE.aA (WL.as rfl rfl (WL.nil (WE.ret ⟨[_], _, .nil _, ⟨rfl, trivial⟩, ?_⟩)))
   refine ⟨?_, H.aM⟩
   rw [MH, if_pos (by omega)]; rfl
  ·
   try simp only [bW] at kW
   obtain ⟨n, rfl⟩ : ∃ n : Nat, i = (n : Int) := ⟨i.toNat, by omega⟩
   have hn : n < 256 := by omega
   have hx := (l.getD (n / 8) 0).toNat_lt
   refine WE.skip (WE.aA (WL.mv rfl rfl (WL.pv (PV.zC rfl rfl rfl (by omega) (by omega) (by omega)) rfl (WL.pv (PV.cG rfl gQ iB rfl rfl (by omega) (by omega)) rfl (WL.aZ rfl B7 rfl rfl (aK.RX (H.l 0 rfl) (n / 8) (by omega) (by omega)) (WL.pv (PV.mL rfl pI yD rfl (by omega) (by omega)) rfl (WL.as rfl rfl ?_)))))))
   refine WL.nil (WE.seq (WE.aA (WL.mv rfl rfl (WL.pv (PV.uI rfl rfl rfl (by omega) (by omega)) rfl (WL.as rfl rfl (WL.nil (WE.block ?_)))))))
   refine WE.loop (α := Nat) [5, 6, 20, 21, 22, 23, 24, 25] (fun j => [(6, .int .i64 j), (5, .int .i64 (((l.getD (n / 8) 0).toNat / 2 ^ (j - n % 8) : Nat) : Int))]) (fun j wl => n % 8 ≤ j ∧ j ≤ 7 ∧ St X w wl [] [aO.blk b2 24 (kc l)] []) (fun j => 7 - j) (n % 8) ⟨rfl, by show Value.int .i64 _ = _; rw [Nat.sub_self, Nat.pow_zero, Nat.div_one], trivial⟩ ⟨Nat.le_refl _, by omega, H⟩ ?_
   intro j γ0 w2 hI
   try dsimp only at hI
   obtain ⟨hj0, hj7, H⟩ := hI
   refine WE.seq (WE.aA (WL.mv rfl rfl (WL.pv (PV.lss rfl rfl rfl) rfl (WL.nil ?_))))
   refine WE.cond rfl (fun oE => ?_) (fun oE => ?_)
   ·
    try simp only [bW] at oE
    have hlt : j < 7 := by omega
    refine WE.skip (WE.seq (WE.block (WE.eM (WL.mv rfl rfl ?_))))
    refine WL.pv (PV.eq (v' := .int .i64 (((l.getD (n / 8) 0).toNat / 2 ^ (j + 1 - n % 8) : Nat) : Int)) (PV.zC rfl rfl rfl (by generalize (l.getD (n / 8) 0).toNat / 2 ^ (j - n % 8) = Q; omega) (by have h2 := Nat.div_le_self (l.getD (n / 8) 0).toNat (2 ^ (j - n % 8)); generalize (l.getD (n / 8) 0).toNat / 2 ^ (j - n % 8) = Q at *; omega) (by omega)) (by rw [aDT, show j + 1 - n % 8 = (j - n % 8) + 1 by omega])) rfl ?_
    refine WL.as rfl rfl (WL.nil (WE.eM (WL.mv rfl rfl (WL.pv (PV.bZ rfl rfl rfl (by omega) (by omega)) rfl (WL.as rfl rfl (WL.nil ?_))))))
    exact ⟨j + 1, (by repeat (first | with_reducible exact bQ.refl _ _ | refine bQ.dB rfl ?_ | refine bQ.cE rfl ?_ | refine bQ.cB rfl ?_)), ⟨rfl, rfl, trivial⟩, rfl, ⟨by omega, by omega, H⟩, (by omega)⟩
   ·
    try simp only [bW] at oE
    obtain rfl : j = 7 := by omega
    refine WE.exit (WE.aA (WL.mv rfl rfl (WL.pv (PV.aCZ rfl rfl rfl (by omega)) rfl (WL.as rfl rfl (WL.nil (WE.ret ⟨[_], _, .nil _, ⟨rfl, trivial⟩, ?_⟩))))))
    refine ⟨?_, H.aM⟩
    rw [MH, if_neg (by omega)]
    show Value.int .i64 _ = _
    rw [Int.toNat_natCast]; rfl
theorem XQ {X : Nat → Prop} {w : World} {i : Int} (hX : cW X w) :
  bD Tryz.prog 28 [.int .i64 i].toArray w fun v w' => v = .bool (decide (0 ≤ i ∧ i ≤ 256)) ∧ Out Nil w w' := by
 refine bD.aI (N := 9) Tryz.func28 rfl rfl (by simp) ?_
 have H := St.begin hX
 refine WE.aA (WL.as rfl rfl (WL.nil (WE.aA (WL.mv rfl rfl (WL.pv (PV.geq rfl rfl rfl) rfl (WL.mv rfl rfl ?_))))))
 refine WL.split (t := 5) rfl (fun QC => ?_) (fun QC => ?_)
 ·
  refine WL.known (t := 4) (c := true) rfl QC ?_
  try simp only [bW] at QC
  refine WL.mv rfl rfl (WL.pv (PV.leq rfl rfl rfl) rfl (WL.pv (PV.dH rfl rfl rfl) rfl (WL.as rfl rfl (WL.nil (WE.ret ⟨[_], _, .nil _, ⟨rfl, trivial⟩, ?_⟩)))))
  refine ⟨?_, H.aM⟩
  show Value.bool _ = _
  congr 1
  (rw [decide_eq_decide]; omega)
 ·
  refine WL.known (t := 4) (c := false) rfl QC ?_
  try simp only [bW] at QC
  refine WL.off rfl (WL.off rfl (WL.pv (PV.c5 rfl rfl rfl) rfl (WL.as rfl rfl (WL.nil (WE.ret ⟨[_], _, .nil _, ⟨rfl, trivial⟩, ?_⟩)))))
  refine ⟨?_, H.aM⟩
  show Value.bool _ = _
  congr 1
  (symm; exact decide_eq_false (by omega))
theorem aGx {X : Nat → Prop} {w : World} {l : List UInt8} {i : Int} (hX : cW X w) (hl : l.length = 32) (hi : -9223372036854775808 ≤ i ∧ i ≤ 9223372036854775807) :
  bD Tryz.prog 108 [.agg (kc l).toArray, .int .i64 i].toArray w fun v w' => v = .agg (kc (dS l i)).toArray ∧ Out Nil w w' := by
 refine bD.aI (N := 29) Tryz.func108 rfl rfl (by simp) ?_
 have H := St.begin hX
 have hc : ((kG i : Nat) : Int) = min (max i 0) 256 := by unfold kG; omega
 refine WE.aA ?_
 refine WL.box (l := kc l) H rfl (by rfl) rfl ?_
 intro b2 w1 H
 refine WL.alloc H rfl nP rfl ?_
 intro b4 w2 H
 refine WL.nil (WE.aA (WL.mv rfl rfl (WL.pv (PV.aDg rfl rfl) rfl ?_)))
 refine WL.pv (PV.eq (v' := .int .i64 ((kG i : Nat) : Int)) (PV.aAS rfl rfl) (by rw [hc])) rfl ?_
 refine WL.as rfl rfl (WL.nil (WE.seq (WE.aA (WL.mv rfl rfl (WL.nil (WE.block ?_))))))
 refine WE.loop (α := Nat) [5, 6, 10, 11, 12, 13, 14, 15, 16, 17, 18, 19, 20, 21, 22, 23, 24, 25, 26, 27] (fun q => [(10, .int .i64 q)]) (fun q wl => q ≤ 32 ∧ St X w wl [] [aO.blk b4 30 (kc (List.replicate 32 0)), aO.blk b2 30 (kc (iZ l (kG i) q))] []) (fun q => 32 - q) 0 ⟨rfl, trivial⟩ ⟨Nat.zero_le _, by rw [B3 _ _ hl]; exact H⟩ ?_
 intro q γ0 w3 hI
 try dsimp only at hI
 obtain ⟨hq, H⟩ := hI
 have hcp := fE l (kG i) q
 have hk8 : pH (kG i) q ≤ 8 := by unfold pH; omega
 refine WE.aA (WL.pv (PV.lss rfl rfl rfl) rfl (WL.nil (WE.seq ?_)))
 refine WE.cond rfl (fun kC => ?_) (fun kC => ?_)
 ·
  try simp only [bW] at kC
  have hlt : q < 32 := by omega
  refine WE.skip (WE.seq (WE.block (WE.aA (WL.mv rfl rfl (WL.as rfl rfl (WL.nil (WE.aA ?_)))))))
  refine WL.mv rfl rfl (WL.mv rfl rfl (WL.pv (PV.qJ rfl rfl rfl (by omega) (by omega)) rfl (WL.pv (PV.iT rfl rfl rfl (by omega) (by omega)) rfl (WL.pv (PV.aDg rfl rfl) rfl ?_))))
  refine WL.pv (PV.eq (v' := .int .i64 ((pH (kG i) q : Nat) : Int)) (PV.aAS rfl rfl) (by congr 1; unfold pH; omega)) rfl ?_
  refine WL.as rfl rfl (WL.nil ?_)
  refine WE.draw (.take 0 (.take 1 (.take 2 (.take 3 (.take 4 (.take 5 (.take 6 (.take 7 (.aG 8 .done))))))))) mixed (by kernel_rfl) ?_
  replace H := H.out (Out.drew _)
  refine WP.mv rfl rfl rfl (WP.aC rfl rfl (PV.cG rfl oY iB rfl rfl (by omega) (by omega)) ?_)
  refine WP.aQ rfl rfl (RV.aY rfl B7 rfl) (by have h1 := aK.aF (o' := 0 + (q : Int).toNat * 1) (H.l 1 rfl) (aJ.byte q (by rw [fE]; exact hlt)) (by omega); rw [EL] at h1; exact h1) ?_
  refine WP.mv rfl rfl rfl (WP.aC rfl rfl (PV.iT rfl rfl rfl (by omega) (by omega)) (WP.aC rfl rfl (PV.UJ rfl rfl rfl (by omega)) ?_))
  refine WP.aC rfl rfl (PV.eq (v' := .int .u8 ((k6 (l.getD q 0) (pH (kG i) q)).toNat : Int)) (PV.G9 rfl rfl rfl) (congrArg (Value.int .u8) (SD _ _ (by unfold pH; omega) _ rfl))) ?_
  refine WP.aC rfl rfl (PV.cG rfl oY iB rfl rfl (by omega) (by omega)) (WP.aG rfl ?_)
  refine WL.aT H 1 rfl rfl rfl (new := _) rfl (by exact iB) (by exact bC _ rfl) (Laid.at (Laid.AH q (by rw [fE]; exact hlt)) (by (simp; done))) rfl ?_
  intro w4 H
  refine WL.nil ⟨(fa (nw 8 2 (by decide +kernel)) cV), ?_⟩
  refine WP.done (WE.eM (WL.pv (PV.bZ rfl rfl rfl (by omega) (by omega)) rfl (WL.mv rfl rfl (WL.nil ?_))))
  replace H := H.conv (L' := [aO.blk b4 30 (kc (List.replicate 32 0)), aO.blk b2 30 (kc (iZ l (kG i) (q + 1)))]) (by rw [show (iZ l (kG i) q).set q _ = _ from WS l (kG i) q hlt hl]; rfl)
  exact ⟨q + 1, (by repeat (first | with_reducible exact bQ.refl _ _ | refine bQ.dB rfl ?_ | refine bQ.cE rfl ?_ | refine bQ.cB rfl ?_)), ⟨rfl, trivial⟩, rfl, ⟨by omega, H⟩, (by omega)⟩
 ·
  try simp only [bW] at kC
  obtain rfl : q = 32 := by omega
  refine WE.exit (WE.aA ?_)
  rw [EM] at H
  have pX := jG l (kG i)
  refine WL.bG rfl iD rfl rfl (by exact aK.aF (H.l 1 rfl) (aJ.all _) (by rfl)) (by exact dK) ?_
  refine WL.aT H 0 rfl rfl rfl (new := _) rfl (by exact dK) (by exact bK _) (Laid.at (Laid.all (by simp only [aR, cY, jG, fE, iL])) (by rfl)) rfl ?_
  intro w5 H
  refine WL.nil (WE.ret ⟨[_], _, .nil _, ⟨⟨_, rfl, aV iD (by exact aK.aF (H.l 0 rfl) (aJ.all _) rfl) (by exact dK)⟩, trivial⟩, ?_⟩)
  exact ⟨rfl, H.aM⟩
theorem aGo {X : Nat → Prop} {w : World} {i : Int} (hX : cW X w) (bS : 0 ≤ i ∧ i ≤ 256) :
  bD Tryz.prog 70 [.int .i64 i].toArray w fun v w' => ∃ bh bc, v = .tuple [.pointer (some ⟨bh, 0, none⟩), .int .i64 0].toArray ∧ Out Nil w w' ∧ w.heap.size ≤ bc ∧ aK w' bc 213 [.int .i64 0] ∧ aH (fun c => X c ∨ c = bc) (fJ bh bc i) w' := by
 refine bD.aI (N := 15) Tryz.func70 rfl rfl (by simp) ?_
 have H := St.begin hX
 refine WE.aA (WL.as rfl rfl (WL.as rfl rfl (WL.nil (WE.seq (WE.aA (WL.mv rfl rfl (WL.pv (PV.lss rfl rfl rfl) rfl ?_)))))))
 refine WL.mv rfl rfl ?_
 refine WL.split (t := 6) rfl (fun hg6 => ?_) (fun hg6 => ?_)
 ·
  refine WL.known (t := 5) (c := true) rfl hg6 ?_
  try simp only [bW] at hg6
  exfalso; omega
 ·
  refine WL.known (t := 5) (c := false) rfl hg6 ?_
  try simp only [bW] at hg6
  refine WL.mv rfl rfl (WL.pv (PV.gtr rfl rfl rfl) rfl (WL.pv (PV.c5 rfl rfl rfl) rfl (WL.nil ?_)))
  refine WE.bB rfl (by simp; omega) ?_
  refine WE.skip (WE.aA (WL.pv (PV.dD rfl aC5 aCp Fl.nil) rfl ?_))
  refine WL.box (l := _) H rfl (by rfl) rfl ?_
  intro XC w1 H
  refine WL.mv rfl rfl ?_
  refine WL.pv (PV.dD rfl aC6 aCq (Fl.cons rfl (by rfl) (by simp only [aR, cY, jG, fE, iL]) Laid.head (Fl.cons rfl (by rfl) (by simp only [aR, cY, jG, fE, iL]) (Laid.tail Laid.head rfl) Fl.nil))) rfl ?_
  refine WL.box (l := _) H rfl (by rfl) rfl ?_
  intro uQ w2 H
  refine WL.as rfl rfl (WL.as rfl rfl (WL.nil (WE.ret ⟨[_, _], _, .nil _, ⟨rfl, rfl, trivial⟩, ?_⟩)))
  replace H := H.freeze (i := 0) rfl
  exact ⟨_, _, rfl, H.aM, H.jR _ (List.mem_of_getElem? (i := 0) rfl) _ rfl, H.l 0 rfl, (H.ZO 0 rfl).imp fun _ h => h.rd⟩
theorem rL {X : Nat → Prop} {w : World} {bh bc : Nat} {bits n : Int} {a : Value} {la : List UInt8} (hX : cW X w) (eR : aK w bc 213 ([.int .i64 n])) (bU : aH (fun c_ => X c_ ∨ c_ = bc) (fJ bh bc bits) w) (dA : aH (fun c_ => X c_ ∨ c_ = bc) (bI a la) w) (fO : aH (fun c_ => X c_ ∨ c_ = bc) (aW) w) (bS : 0 ≤ bits ∧ bits ≤ 256) (wX : la.length ≤ 1000000000) :
  bD Tryz.prog 68 [.pointer (some ⟨bh, 0, none⟩), a].toArray w fun v w' => v = .agg (kc (dS (cR la) bits)).toArray ∧ Out (· = bc) w w' ∧ aK w' bc 213 [.int .i64 (IntKind.i64.wrap (n + 1))] := by
 refine bD.aI (N := 25) Tryz.func68 rfl rfl (by simp) ?_
 have H := St.c6 (b := bc) (t := 213) (l := [.int .i64 n]) hX eR
 replace H := H.add (bY fO)
 replace H := H.add (bY dA)
 replace H := H.add (bY bU)
 refine WE.aA ?_
 refine WL.alloc H rfl nP rfl ?_
 intro b4 w1 H
 refine WL.nil (WE.seq (WE.aA (WL.mv rfl rfl (WL.pv (PV.iX rfl aC2 rfl rfl) rfl (WL.nil ?_)))))
 refine WE.bB rfl rfl ?_
 refine WE.skip (WE.aA (WL.mv rfl rfl (WL.pv (PV.nilCheck rfl rfl) rfl (WL.pv (PV.fieldAddr rfl V7 rfl) rfl ?_))))
 refine WL.aZ rfl aGc rfl rfl (by exact cX.at_ (o := 0) (H.p 0 rfl) rfl rfl) ?_
 refine WL.pv (PV.nilCheck rfl rfl) rfl (WL.pv (PV.fieldAddr rfl JP rfl) rfl ?_)
 refine WL.aZ rfl oZ rfl rfl (by exact aK.aF (H.o 0 rfl) aJ.hd (by rfl)) ?_
 refine WL.pv (PV.HI rfl rfl rfl) rfl (WL.pv (PV.nilCheck rfl rfl) rfl (WL.pv (PV.fieldAddr rfl JP rfl) rfl ?_))
 refine WL.kV H 0 rfl rfl rfl (new := _) rfl (by exact sz3) (by exact bC _ rfl) (Laid.at Laid.head (by rfl)) rfl ?_
 intro w2 H
 refine WL.nil ?_
 refine WE.bF (.take 0 (.take 2 (.take 3 (.take 4 (.take 5 (.aG 1 (.aG 6 (.aG 7 .done)))))))) mixed (by kernel_rfl) ?_
 replace H := H.out (Out.drew _)
 refine WP.mv rfl rfl rfl (WP.mv rfl rfl rfl (WP.aC rfl rfl (PV.nilCheck rfl rfl) (WP.aC rfl rfl (PV.fieldAddr rfl V6 rfl) ?_)))
 refine WP.aQ rfl rfl (RV.aY rfl oZ rfl) (by exact cX.at_ (o := 1) (H.p 0 rfl) rfl rfl) ?_
 refine WP.aG rfl ?_
 refine WL.call aFF rfl (aGi (la := la) H.aS (H.bN 1 rfl) (H.bN 2 rfl) wX) ?_
 rintro _ w3 ⟨rfl, hO⟩
 replace H := H.out hO
 refine WL.nil ⟨(fa (fun _ _ => (by exact cX.at_ (o := 1) (H.p 0 rfl) rfl rfl)) cV), ?_⟩
 refine WP.aG rfl ?_
 refine WL.call aFG rfl (aGx (l := cR la) (i := bits) H.aS (iL _) (by omega)) ?_
 rintro _ w4 ⟨rfl, hO⟩
 replace H := H.out hO
 refine WL.nil ⟨(fa (nw 6 5 (by decide +kernel)) cV), ?_⟩
 refine WP.aG rfl ?_
 refine WL.aT H 0 rfl rfl rfl (new := _) rfl (by exact dK) (by exact bK _) (Laid.at (Laid.all (by simp only [aR, cY, jG, fE, iL])) (by rfl)) rfl ?_
 intro w5 H
 refine WL.nil ⟨(fa (nw 7 5 (by decide +kernel)) cV), ?_⟩
 refine WP.done (WE.ret ⟨[_], _, .nil _, ⟨⟨_, rfl, aV iD (by exact aK.aF (H.l 0 rfl) (aJ.all _) rfl) (by exact dK)⟩, trivial⟩, ?_⟩)
 exact ⟨rfl, H.cM, H.o 0 rfl⟩
def num (k : List UInt8) : Nat := k.foldl (fun s x => s * 256 + x.toNat) 0
theorem zV (k : List UInt8) : ∀ a : Nat, k.foldl (fun s x => s * 256 + x.toNat) a = a * 256 ^ k.length + num k := by
 induction k with
 | nil => intro a; simp [num]
 | cons x k ih =>
  intro a
  have e : num (x :: k) = (0 * 256 + x.toNat) * 256 ^ k.length + num k := ih _
  rw [e, List.foldl_cons, ih, List.length_cons, Nat.pow_succ]
  rw [Nat.zero_mul, Nat.zero_add, Nat.add_mul, Nat.add_assoc, Nat.mul_assoc, Nat.mul_comm 256]
theorem kQ (x : UInt8) (k : List UInt8) : num (x :: k) = x.toNat * 256 ^ k.length + num k := by
 have h := zV k (0 * 256 + x.toNat)
 rw [Nat.zero_mul, Nat.zero_add] at h
 simpa [num] using h
theorem qZ (a b : List UInt8) : num (a ++ b) = num a * 256 ^ b.length + num b := by
 show (a ++ b).foldl _ 0 = _
 rw [List.foldl_append]
 exact zV b _
theorem wN (k : List UInt8) : num k < 256 ^ k.length := by
 induction k with
 | nil => simp [num]
 | cons x k ih =>
  rw [kQ, List.length_cons, Nat.pow_succ]
  have hx : x.toNat + 1 ≤ 256 := by have := x.toNat_lt; omega
  calc x.toNat * 256 ^ k.length + num k < x.toNat * 256 ^ k.length + 256 ^ k.length := by omega
   _ = (x.toNat + 1) * 256 ^ k.length := by rw [Nat.add_mul, Nat.one_mul]
   _ ≤ 256 * 256 ^ k.length := Nat.mul_le_mul_right _ hx
   _ = 256 ^ k.length * 256 := Nat.mul_comm _ _
theorem sA : ∀ (a b : List UInt8), a.length = b.length → num a = num b → a = b := by
 intro a
 induction a with
 | nil => intro b h _; exact (List.eq_nil_of_length_eq_zero h.symm).symm
 | cons x a ih =>
  intro b h hn
  cases b with
  | nil => cases h
  | cons y b =>
   have hl : a.length = b.length := by simpa using h
   rw [kQ, kQ, hl] at hn
   have h1 := wN a
   have h2 := wN b
   rw [hl] at h1
   have hxy : x.toNat = y.toNat := by
    have e1 : (x.toNat * 256 ^ b.length + num a) / 256 ^ b.length = x.toNat := by
     rw [Nat.mul_comm, Nat.mul_add_div (Nat.pow_pos (by decide)), Nat.div_eq_of_lt h1, Nat.add_zero]
    have e2 : (y.toNat * 256 ^ b.length + num b) / 256 ^ b.length = y.toNat := by
     rw [Nat.mul_comm, Nat.mul_add_div (Nat.pow_pos (by decide)), Nat.div_eq_of_lt h2, Nat.add_zero]
    rw [← e1, ← e2, hn]
   rw [UInt8.toNat_inj.1 hxy, ih b hl (by rw [hxy] at hn; omega)]
theorem W9 (k : List UInt8) (h : k.length = 32) (i : Nat) (hi : i < 256) : bH k i = num k / 2 ^ (255 - i) % 2 := by
 have hq : i / 8 < k.length := by omega
 have e : k = k.take (i / 8) ++ k[i / 8] :: k.drop (i / 8 + 1) := by rw [← List.drop_eq_getElem_cons hq, List.take_append_drop]
 have hn : num k = (num (k.take (i / 8)) * 256 + k[i / 8].toNat) * 256 ^ (31 - i / 8) + num (k.drop (i / 8 + 1)) := by
  have hl : (k.drop (i / 8 + 1)).length = 31 - i / 8 := by simp; omega
  have := qZ (k.take (i / 8)) (k[i / 8] :: k.drop (i / 8 + 1))
  rw [← e, kQ, List.length_cons, hl, Nat.pow_succ] at this
  rw [this, Nat.add_mul, Nat.mul_assoc, Nat.mul_comm 256, Nat.add_assoc]
 have hd := wN (k.drop (i / 8 + 1))
 rw [show (k.drop (i / 8 + 1)).length = 31 - i / 8 by simp; omega] at hd
 have h8 : (256 : Nat) ^ (31 - i / 8) = 2 ^ (8 * (31 - i / 8)) := by rw [show (256 : Nat) = 2 ^ 8 from rfl, ← Nat.pow_mul]
 have hdiv : num k / 2 ^ (8 * (31 - i / 8)) = num (k.take (i / 8)) * 256 + k[i / 8].toNat := by
  rw [← h8, hn, Nat.mul_comm _ (256 ^ _), Nat.mul_add_div (Nat.pow_pos (by decide)), Nat.div_eq_of_lt hd, Nat.add_zero]
 have aA3 : 255 - i = 8 * (31 - i / 8) + (7 - i % 8) := by omega
 rw [aA3, Nat.pow_add, ← Nat.div_div_eq_div_mul, hdiv]
 have aHL : (256 : Nat) = 2 ^ (7 - i % 8) * (2 ^ (i % 8) * 2) := by
  rw [← Nat.pow_succ, ← Nat.pow_add, show 7 - i % 8 + (i % 8 + 1) = 8 by omega]
 unfold bH
 rw [jQ hq]
 have e3 : num (k.take (i / 8)) * 256 + k[i / 8].toNat = 2 ^ (7 - i % 8) * (num (k.take (i / 8)) * (2 ^ (i % 8) * 2)) + k[i / 8].toNat := by
  rw [← Nat.mul_assoc, Nat.mul_comm (2 ^ (7 - i % 8)), Nat.mul_assoc, ← aHL]
 rw [e3, Nat.mul_add_div (Nat.pow_pos (by decide)), ← Nat.mul_assoc, Nat.mul_comm _ 2, Nat.mul_add_mod]
def pre (d : Nat) (k : List UInt8) : Nat := num k / 2 ^ (256 - d)
theorem mU (k : List UInt8) (h : k.length = 32) : pre 0 k = 0 := by
 unfold pre
 apply Nat.div_eq_of_lt
 have := wN k
 rw [h] at this
 exact this
theorem pE (k : List UInt8) : pre 256 k = num k := by simp [pre]
theorem kP (k : List UInt8) (h : k.length = 32) (d : Nat) (hd : d < 256) : pre (d + 1) k = 2 * pre d k + bH k d := by
 unfold pre
 rw [W9 k h d hd, show 256 - d = (255 - d) + 1 by omega, show 256 - (d + 1) = 255 - d by omega, Nat.pow_succ, ← Nat.div_div_eq_div_mul]
 omega
structure En where
 k : List UInt8
 s : Value
 v : List UInt8
def o6 (e : En) : List Value := kc e.k ++ [e.s]
def KL (m : List En) : Prop := ∀ e ∈ m, e.k.length = 32
def bR (m : List En) (d b : Nat) : List En := m.filter fun e => bH e.k d == b
structure Pm (d : Nat) (m : List En) : Prop where
 le : d ≤ 256
 kl : KL m
 L9 : m.Pairwise fun a b => num a.k ≠ num b.k
 Z6 : ∀ a ∈ m, ∀ b ∈ m, pre d a.k = pre d b.k
theorem Pm.lt {d : Nat} {m : List En} (h : Pm d m) (h2 : 2 ≤ m.length) : d < 256 := by
 rcases Nat.lt_or_ge d 256 with hlt | hge
 ·
  exact hlt
 ·
  have hd : d = 256 := by have := h.le; omega
  subst hd
  match m, h2 with
  | a :: b :: m, _ =>
   exfalso
   have h1 := (List.pairwise_cons.1 h.L9).1 b (by simp)
   have h3 := h.Z6 a (by simp) b (by simp)
   rw [pE, pE] at h3
   exact h1 h3
theorem Pm.part {d : Nat} {m : List En} (h : Pm d m) (hd : d < 256) (b : Nat) : Pm (d + 1) (bR m d b) where
 le := hd
 kl := fun e he => h.kl e (List.mem_filter.1 he).1
 L9 := h.L9.filter _
 Z6 := fun x hx y hy => by
  have hx' := List.mem_filter.1 hx
  have hy' := List.mem_filter.1 hy
  rw [kP _ (h.kl _ hx'.1) d hd, kP _ (h.kl _ hy'.1) d hd, h.Z6 _ hx'.1 _ hy'.1]
  have e1 : bH x.k d = b := by simpa using hx'.2
  have e2 : bH y.k d = b := by simpa using hy'.2
  rw [e1, e2]
theorem mV (m : List En) (d : Nat) : (bR m d 0).length + (bR m d 1).length = m.length := by
 induction m with
 | nil => rfl
 | cons e m ih =>
  have hb := eA e.k d
  have e0 : bR (e :: m) d 0 = if (bH e.k d == 0) = true then e :: bR m d 0 else bR m d 0 := List.filter_cons
  have e1 : bR (e :: m) d 1 = if (bH e.k d == 1) = true then e :: bR m d 1 else bR m d 1 := List.filter_cons
  rw [e0, e1, List.length_cons]
  by_cases h : bH e.k d = 0
  ·
   rw [if_pos (by simp [h]), if_neg (by simp [h]), List.length_cons]; omega
  ·
   have h1 : bH e.k d = 1 := by omega
   rw [if_neg (by simp [h1]), if_pos (by simp [h1]), List.length_cons]; omega
theorem Pm.zero {m : List En} (hk : KL m) (hd : m.Pairwise fun a b => num a.k ≠ num b.k) : Pm 0 m := ⟨by omega, hk, hd, fun a ha b hb => by rw [mU _ (hk a ha), mU _ (hk b hb)]⟩
inductive Sh where
 | nil
 | leaf (k v : List UInt8)
 | inner (l r : Sh)
def Sh.fU : Sh → Nat
 | .nil => 0
 | .leaf _ _ => 1
 | .inner l r => l.fU + r.fU
def Sh.kind : Sh → Int
 | .nil => 0
 | .leaf _ _ => 1
 | .inner _ _ => 2
def mQ (bits : Int) (v : List UInt8) : List UInt8 := dS (cR (2 :: v)) bits
def PL (bits : Int) (k v : List UInt8) : List UInt8 := dS (cR (0 :: (k ++ mQ bits v))) bits
def uL (bits : Int) (a b : List UInt8) : List UInt8 := dS (cR (1 :: (a ++ b))) bits
def lK (bits : Int) : List UInt8 := dS (cR [3]) bits
def Sh.lV (bits : Int) : Sh → List UInt8
 | .nil => lK bits
 | .leaf k v => PL bits k v
 | .inner l r => uL bits (l.lV bits) (r.lV bits)
theorem gH (bits : Int) (s : Sh) : (s.lV bits).length = 32 := by cases s <;> exact cY _ _
def jW : Sh → Sh → Sh
 | .nil, .inner l r => .inner .nil (.inner l r)
 | .nil, s => s
 | .inner l r, .nil => .inner (.inner l r) .nil
 | s, .nil => s
 | s, t => .inner s t
def D9 : Nat → Nat → List En → Sh
 | _, _, [] => .nil
 | _, _, [e] => .leaf e.k e.v
 | 0, _, e :: _ => .leaf e.k e.v
 | n + 1, d, m => .inner (D9 n (d + 1) (bR m d 0)) (D9 n (d + 1) (bR m d 1))
def grow (d : Nat) (m : List En) : Sh := D9 (256 - d) d m
theorem eD (d : Nat) : grow d [] = .nil := by unfold grow; cases 256 - d <;> rfl
theorem dI (d : Nat) (e : En) : grow d [e] = .leaf e.k e.v := by unfold grow; cases 256 - d <;> rfl
theorem jF (d : Nat) (m : List En) (hd : d < 256) (h : 2 ≤ m.length) : grow d m = .inner (grow (d + 1) (bR m d 0)) (grow (d + 1) (bR m d 1)) := by
 unfold grow
 rw [show 256 - d = (256 - (d + 1)) + 1 by omega]
 match m, h with
 | a :: b :: m, _ => rfl
theorem D8 {P : Nat → List En → Sh → Prop} (h0 : ∀ d, P d [] .nil) (h1 : ∀ d e, P d [e] (.leaf e.k e.v))
  (h2 : ∀ d m, Pm d m → d < 256 → 2 ≤ m.length → P (d + 1) (bR m d 0) (grow (d + 1) (bR m d 0)) → P (d + 1) (bR m d 1) (grow (d + 1) (bR m d 1)) → P d m (.inner (grow (d + 1) (bR m d 0)) (grow (d + 1) (bR m d 1)))) :
  ∀ (n d : Nat) (m : List En), 256 - d = n → Pm d m → P d m (grow d m) := by
 intro n
 induction n with
 | zero =>
  intro d m hn hp
  match m, hp with
  | [], _ => rw [eD]; exact h0 d
  | [e], _ => rw [dI]; exact h1 d e
  | a :: b :: m, hp => have := hp.lt (by simp); omega
 | succ n ih =>
  intro d m hn hp
  match m, hp with
  | [], _ => rw [eD]; exact h0 d
  | [e], _ => rw [dI]; exact h1 d e
  | a :: b :: m, hp =>
   have hd := hp.lt (by simp)
   rw [jF d _ hd (by simp)]
   exact h2 d _ hp hd (by simp) (ih _ _ (by omega) (hp.part hd 0)) (ih _ _ (by omega) (hp.part hd 1))
theorem nE {d : Nat} {m : List En} (h : Pm d m) : (grow d m).fU = m.length :=
 D8 (P := fun _ m s => s.fU = m.length) (fun _ => rfl) (fun _ _ => rfl) (fun d m _ _ _ h0 h1 => by
  show (grow _ _).fU + (grow _ _).fU = _
  rw [h0, h1, mV]) _ d m rfl h
theorem DP {l r : Sh} (h : 2 ≤ l.fU + r.fU) : jW l r = .inner l r := by
 cases l <;> cases r <;> first | rfl | (simp [Sh.fU] at h; done)
 all_goals (simp [Sh.fU] at h)
def aCY (bits : Int) (d : Nat) (m : List En) : List UInt8 := (grow d m).lV bits
theorem pV {a b : List UInt8} (hl : a.length = b.length) (i : Nat) (hi : i < a.length) (hp : a.take i = b.take i) (h : a[i].toNat < (b[i]'(by omega)).toNat) : num a < num b := by
 have hib : i < b.length := by omega
 have ea : a = a.take i ++ a[i] :: a.drop (i + 1) := by rw [← List.drop_eq_getElem_cons hi, List.take_append_drop]
 have eb : b = a.take i ++ b[i] :: b.drop (i + 1) := by rw [hp, ← List.drop_eq_getElem_cons hib, List.take_append_drop]
 have h1 := qZ (a.take i) (a[i] :: a.drop (i + 1))
 have h2 := qZ (a.take i) (b[i] :: b.drop (i + 1))
 rw [← ea, kQ] at h1
 rw [← eb, kQ] at h2
 have wX : (a.drop (i + 1)).length = (b.drop (i + 1)).length := by simp; omega
 have h3 := wN (a.drop (i + 1))
 rw [List.length_cons] at h1 h2
 rw [wX] at h1 h3
 rw [h1, h2]
 have h4 : (a[i].toNat + 1) * 256 ^ (b.drop (i + 1)).length ≤ b[i].toNat * 256 ^ (b.drop (i + 1)).length := Nat.mul_le_mul_right _ h
 rw [Nat.add_mul, Nat.one_mul] at h4
 omega
def gP (a b : List UInt8) : Int := if num a < num b then -1 else if num b < num a then 1 else 0
theorem lL {a b : List UInt8} : gP a b < 0 ↔ num a < num b := by
 unfold gP
 by_cases h : num a < num b
 ·
  simp [h]
 ·
  rw [if_neg h]
  by_cases h2 : num b < num a <;> simp [h, h2]
def eY (m : List En) (k : List UInt8) : List En := m.filter fun x => decide (x.k ≠ k)
def ins (e : En) : List En → List En
 | [] => [e]
 | x :: r => if num e.k < num x.k then e :: x :: r else x :: ins e r
def gL (m : List En) (e : En) : List En := ins e (eY m e.k)
def k7 (m : List En) : Prop := m.Pairwise fun a b => num a.k < num b.k
def n4 (e : En) (p : List En × Bool) (x : En) : List En × Bool := if p.2 = false ∧ num e.k < num x.k then (p.1 ++ [e, x], true) else (p.1 ++ [x], p.2)
theorem K5 (e : En) : ∀ (l out : List En), l.foldl (n4 e) (out, true) = (out ++ l, true) := by
 intro l
 induction l with
 | nil => intro out; simp
 | cons x l ih =>
  intro out
  rw [List.foldl_cons]
  have : n4 e (out, true) x = (out ++ [x], true) := by simp [n4]
  rw [this, ih]; simp
theorem OR (e : En) : ∀ (l out : List En), cond (l.foldl (n4 e) (out, false)).2 (l.foldl (n4 e) (out, false)).1 ((l.foldl (n4 e) (out, false)).1 ++ [e]) = out ++ ins e l := by
 intro l
 induction l with
 | nil => intro out; simp [ins]
 | cons x l ih =>
  intro out
  rw [List.foldl_cons]
  by_cases h : num e.k < num x.k
  ·
   have : n4 e (out, false) x = (out ++ [e, x], true) := by simp [n4, h]
   rw [this, K5]
   simp [ins, h]
  ·
   have : n4 e (out, false) x = (out ++ [x], false) := by simp [n4, h]
   rw [this, ih]
   simp [ins, h]
theorem I4 {e x : En} {l : List En} : x ∈ ins e l ↔ x = e ∨ x ∈ l := by
 induction l with
 | nil => simp [ins]
 | cons y l ih =>
  unfold ins
  split
  ·
   simp
  ·
   simp [ih]; constructor
   ·
    rintro (h | h | h) <;> simp [h]
   ·
    rintro (h | h | h) <;> simp [h]
theorem VH {e : En} {l : List En} (h : k7 l) (hn : ∀ x ∈ l, num x.k ≠ num e.k) : k7 (ins e l) := by
 induction l with
 | nil => simp [ins, k7]
 | cons y l ih =>
  have h1 := List.pairwise_cons.1 h
  unfold ins
  split
  ·
   rename_i hlt
   refine List.pairwise_cons.2 ⟨fun x hx => ?_, h⟩
   cases List.mem_cons.1 hx with
   | inl e => rw [e]; exact hlt
   | inr hx => exact Nat.lt_trans hlt (h1.1 x hx)
  ·
   rename_i hnl
   refine List.pairwise_cons.2 ⟨fun x hx => ?_, ih h1.2 fun x hx => hn x (List.mem_cons_of_mem _ hx)⟩
   rcases I4.1 hx with rfl | hx
   ·
    have := hn y (by simp); omega
   ·
    exact h1.1 x hx
theorem iO {m : List En} {k : List UInt8} {x : En} : x ∈ eY m k ↔ x ∈ m ∧ x.k ≠ k := by simp [eY]
theorem wF {m : List En} {e : En} (h : k7 m) (hk : KL m) (he : e.k.length = 32) : k7 (gL m e) :=
 VH (h.filter _) fun x hx hn => (iO.1 hx).2 (sA _ _ (by rw [hk x (iO.1 hx).1, he]) hn)
theorem mZ {m : List En} {e x : En} : x ∈ gL m e ↔ x = e ∨ (x ∈ m ∧ x.k ≠ e.k) := by
 unfold gL; rw [I4, iO]
theorem A5 {m : List En} {e : En} (hk : KL m) (he : e.k.length = 32) : KL (gL m e) := fun x hx => by
 rcases mZ.1 hx with rfl | hx
 ·
  exact he
 ·
  exact hk x hx.1
theorem VJ (e : En) (l : List En) : (ins e l).length = l.length + 1 := by
 induction l with
 | nil => rfl
 | cons y l ih => unfold ins; split <;> simp [ih]
theorem C9 (m : List En) (e : En) : (gL m e).length ≤ m.length + 1 := by
 unfold gL
 rw [VJ]
 have : (eY m e.k).length ≤ m.length := List.length_filter_le _ _
 omega
theorem k7.L9 {m : List En} (h : k7 m) : m.Pairwise fun a b => num a.k ≠ num b.k := h.imp fun h => Nat.ne_of_lt h
theorem kE {e : En} (h : e.k.length = 32) : (o6 e).length = 33 := by simp [o6, aN, h]
theorem WO (m : List En) (hk : KL m) (i : Nat) (hi : i < m.length) : ((m.flatMap o6).drop (i * 33)).take 33 = o6 m[i] := by
 induction m generalizing i with
 | nil => cases hi
 | cons e m ih =>
  have he := kE (hk e (by simp))
  cases i with
  | zero =>
   rw [Nat.zero_mul, List.drop_zero, List.flatMap_cons, List.take_append_of_le_length (by omega), List.take_of_length_le (by omega)]
   rfl
  | succ i =>
   have := ih (fun x hx => hk x (List.mem_cons_of_mem _ hx)) i (by simpa using hi)
   rw [List.flatMap_cons, show (i + 1) * 33 = (o6 e).length + i * 33 by rw [he]; omega, List.drop_append]
   rw [List.drop_eq_nil_of_le (by omega), List.nil_append, show (o6 e).length + i * 33 - (o6 e).length = i * 33 by omega, this]
   rfl
def gE (v : Value) (m : List En) (w : World) : Prop := cS w v 33 m.length (m.flatMap o6)
def fB (m : List En) (w : World) : Prop := ∀ e ∈ m, bI e.s e.v w
theorem gE.rd {v : Value} {m : List En} {w : World} (h : gE v m w) (hk : KL m) (i : Nat) (hi : i < m.length) : cX w (jD v (i * 33)) (o6 m[i]) := by
 have := cS.rd h i hi
 rwa [WO m hk i hi] at this
theorem vN {X : Nat → Prop} {w : World} {x : UInt8} {s : Value} {vs : List Value} {ls : List (List UInt8)} (hX : cW X w) (bU : aH X (jV s vs) w) (dA : aH X (pR vs ls) w) (hvs : vs.length ≤ 1000000) (aDq : ls.flatten.length ≤ 70368744177000) :
  bD Tryz.prog 110 [.int .u8 (x.toNat : Int), s].toArray w fun v w' => Out Nil w w' ∧ aH X (bI v (x :: ls.flatten)) w' := by
 refine bD.aI (N := 10) Tryz.func110 rfl rfl (by simp) ?_
 have H := St.begin hX
 replace H := H.add (cF dA)
 replace H := H.add (cF bU)
 refine WE.aA (WL.as rfl rfl (WL.nil (WE.aA (WL.mv rfl rfl ?_))))
 refine WL.bJ (l0 := [.int .u8 (0)]) H rfl jZ (by decide) (dG _ _) (Fl.cons rfl (by rfl) (by simp only [aR]) Laid.head Fl.nil) rfl ?_
 intro b6 w1 H
 replace H := H.IK (n := 1) (sz := 1) (i := 0) rfl rfl (by decide)
 refine WL.mv rfl rfl ?_
 refine WL.call aEE rfl (TE  H.aS (by exact H.bN 0 rfl) (by exact H.bN 1 rfl) (by assumption) (by omega)) ?_
 rintro v8 w2 ⟨hO, hR⟩
 replace H := (H.out hO).add hR
 refine WL.append H 0 jZ (by decide) rfl rfl rfl (by exact H.p 0 rfl) (by exact bK _) (by omega) (by decide) rfl ?_
 intro v9 w3 H
 refine WL.as rfl rfl (WL.nil (WE.ret ⟨[_], _, .nil _, ⟨rfl, trivial⟩, ?_⟩))
 replace H := H.freeze (i := 0) rfl
 exact ⟨H.aM, H.gU ((H.bN 0 rfl).imp fun _ h => bI.eH (l := x :: ls.flatten) h)⟩
theorem KB {X : Nat → Prop} {w : World} {a : Value} {la : List UInt8} (hX : cW X w) (bU : aH X (bI a la) w) (wX : la.length ≤ 70368744177000) :
  bD Tryz.prog 168 [a].toArray w fun v w' => Out Nil w w' ∧ aH X (bI v (2 :: la)) w' := by
 refine bD.aI (N := 6) Tryz.func168 rfl rfl (by simp) ?_
 have H := St.begin hX
 replace H := H.add (cF bU)
 refine WE.aA (WL.as rfl rfl (WL.nil (WE.aA (WL.mv rfl rfl ?_))))
 refine WL.bJ (l0 := [.slice none 0 0]) H rfl IP (by decide) (dG _ _) (Fl.cons rfl (by exact cS.cells (H.p 0 rfl)) (by simp only [aR]) Laid.head Fl.nil) rfl ?_
 intro b4 w1 H
 replace H := H.freeze (i := 0) rfl
 replace H := H.add ((H.bN 0 rfl).imp fun _ h => jV.cA h rfl)
 replace H := H.add ((H.bN 2 rfl).imp fun w h => pR.cons h (pR.nil w))
 refine WL.call JT rfl (vN (x := 2) (vs := [a]) (ls := [la]) H.aS (H.bN 1 rfl) (H.bN 0 rfl) (by simp) (by simpa using wX)) ?_
 rintro v5 w2 ⟨hO, hR⟩
 replace H := (H.out hO).add hR
 refine WL.as rfl rfl (WL.nil (WE.ret ⟨[_], _, .nil _, ⟨rfl, trivial⟩, ?_⟩))
 exact ⟨H.aM, H.gU ((H.bN 0 rfl).imp fun _ h => (show bI v5 (2 :: la) _ by simpa using h))⟩
theorem KG {X : Nat → Prop} {w : World}  (hX : cW X w) :
  bD Tryz.prog 69 [].toArray w fun v w' => Out Nil w w' ∧ aH X (bI v [3]) w' := by
 refine bD.aI (N := 2) Tryz.func69 rfl rfl (by decide +revert) ?_
 have H := St.begin hX
 refine WE.aA (WL.as rfl rfl (WL.nil (WE.aA ?_)))
 refine WL.call JT rfl (vN (x := 3) (vs := []) (ls := []) H.aS (fun w _ => cS.nil w 1) (fun w _ => pR.nil w) (by simp) (by simp)) ?_
 rintro v1 w1 ⟨hO, hR⟩
 replace H := (H.out hO).add hR
 refine WL.as rfl rfl (WL.nil (WE.ret ⟨[_], _, .nil _, ⟨rfl, trivial⟩, ?_⟩))
 exact ⟨H.aM, H.gU (H.bN 0 rfl)⟩
theorem SY {X : Nat → Prop} {w : World} {k l : List UInt8} (hX : cW X w) (hk : k.length = 32) (hl : l.length = 32) :
  bD Tryz.prog 219 [.agg (kc k ++ kc l).toArray].toArray w fun v w' => Out Nil w w' ∧ aH X (bI v (0 :: (k ++ l))) w' := by
 refine bD.aI (N := 9) Tryz.func219 rfl rfl (by simp) ?_
 have H := St.begin hX
 refine WE.aA ?_
 refine WL.box (l := _) H rfl (by rfl) rfl ?_
 intro b1 w1 H
 refine WL.as rfl rfl (WL.nil ?_)
 refine WE.bF (.take 0 (.take 1 (.take 2 (.take 3 (.aG 4 (.aG 5 (.take 6 .done))))))) mixed (by kernel_rfl) ?_
 replace H := H.out (Out.drew _)
 refine WP.aC rfl rfl (PV.fieldAddr rfl kD rfl) ?_
 refine WP.aC rfl rfl (PV.fP rfl gQ (by rw [iB]; rfl) rfl) ?_
 refine WP.aC rfl rfl (PV.fieldAddr rfl GW rfl) ?_
 refine WP.aC rfl rfl (PV.fP rfl oY (by rw [iB]; rfl) rfl) ?_
 refine WP.aG rfl ?_
 refine WL.bJ (l0 := [.slice none 0 0, .slice none 0 0]) H rfl IP (by decide) (dG _ _) (Fl.cons rfl (by rfl) (by simp only [aR]) Laid.head (Fl.cons rfl (by rfl) (by simp only [aR]) (Laid.tail Laid.head rfl) Fl.nil)) rfl ?_
 intro b7 w2 H
 replace H := H.freeze (i := 0) rfl
 replace H := H.freeze (i := 0) rfl
 replace H := H.add ((H.bN 1 rfl).imp fun _ h => jV.cA h rfl)
 replace H := H.add ((H.bN 1 rfl).imp fun w h => pR.cons (bI.mX (a := ⟨b1, 0, none⟩) (aK.aF h (aJ.l (aJ.all (kc k))) rfl) hk (Nat.le_refl _)) (pR.cons (bI.mX (a := ⟨b1, 32, none⟩) (aK.aF h (aJ.r (aJ.all (kc l)) rfl) (by simp [aN, hk])) hl (Nat.le_refl _)) (pR.nil w)))
 refine WL.nil ⟨cV, ?_⟩
 refine WP.aG rfl ?_
 refine WL.call JT rfl (vN (x := 0) (vs := [_, _]) (ls := [k, l]) H.aS (H.bN 1 rfl) (H.bN 0 rfl) (by simp) (by simp [hk, hl])) ?_
 rintro v8 w3 ⟨hO, hR⟩
 replace H := (H.out hO).add hR
 refine WL.nil ⟨cV, ?_⟩
 refine WP.as rfl rfl rfl (WP.done (WE.ret ⟨[_], _, .nil _, ⟨rfl, trivial⟩, ?_⟩))
 exact ⟨H.aM, H.gU ((H.bN 0 rfl).imp fun _ h => (show bI v8 (0 :: (k ++ l)) _ by simpa using h))⟩
theorem SV {X : Nat → Prop} {w : World} {k l : List UInt8} (hX : cW X w) (hk : k.length = 32) (hl : l.length = 32) :
  bD Tryz.prog 216 [.agg (kc k).toArray, .agg (kc l).toArray].toArray w fun v w' => Out Nil w w' ∧ aH X (bI v (1 :: (k ++ l))) w' := by
 refine bD.aI (N := 9) Tryz.func216 rfl rfl (by simp) ?_
 have H := St.begin hX
 refine WE.aA ?_
 refine WL.box (l := _) H rfl (by rfl) rfl ?_
 intro b2 w1 H
 refine WL.box (l := _) H rfl (by rfl) rfl ?_
 intro b3 w2 H
 refine WL.as rfl rfl (WL.nil ?_)
 refine WE.bF (.take 0 (.take 1 (.aG 2 (.aG 3 (.take 4 .done))))) mixed (by kernel_rfl) ?_
 replace H := H.out (Out.drew _)
 refine WP.aC rfl rfl (PV.fP rfl oY (by rw [iB]; rfl) rfl) ?_
 refine WP.aC rfl rfl (PV.fP rfl oY (by rw [iB]; rfl) rfl) ?_
 refine WP.aG rfl ?_
 refine WL.bJ (l0 := [.slice none 0 0, .slice none 0 0]) H rfl IP (by decide) (dG _ _) (Fl.cons rfl (by rfl) (by simp only [aR]) Laid.head (Fl.cons rfl (by rfl) (by simp only [aR]) (Laid.tail Laid.head rfl) Fl.nil)) rfl ?_
 intro b7 w3 H
 replace H := H.freeze (i := 0) rfl
 replace H := H.freeze (i := 0) rfl
 replace H := H.freeze (i := 0) rfl
 replace H := H.add ((H.bN 2 rfl).imp fun _ h => jV.cA h rfl)
 replace H := H.add (((H.bN 1 rfl).and (H.bN 2 rfl)).imp fun w h => pR.cons (bI.cA h.1 hk) (pR.cons (bI.cA h.2 hl) (pR.nil w)))
 refine WL.nil ⟨cV, ?_⟩
 refine WP.aG rfl ?_
 refine WL.call JT rfl (vN (x := 1) (vs := [_, _]) (ls := [k, l]) H.aS (H.bN 1 rfl) (H.bN 0 rfl) (by simp) (by simp [hk, hl])) ?_
 rintro v8 w4 ⟨hO, hR⟩
 replace H := (H.out hO).add hR
 refine WL.nil ⟨cV, ?_⟩
 refine WP.as rfl rfl rfl (WP.done (WE.ret ⟨[_], _, .nil _, ⟨rfl, trivial⟩, ?_⟩))
 exact ⟨H.aM, H.gU ((H.bN 0 rfl).imp fun _ h => (show bI v8 (1 :: (k ++ l)) _ by simpa using h))⟩
inductive Tr where
 | nil
 | leaf (a : Nat) (k v : List UInt8) (s : Value)
 | inner (a : Nat) (l r : Tr)
def Tr.addr : Tr → Option Addr
 | .nil => none
 | .leaf a _ _ _ => some ⟨a, 0, none⟩
 | .inner a _ _ => some ⟨a, 0, none⟩
def Tr.ptr (T : Tr) : Value := .pointer T.addr
def Tr.er : Tr → Sh
 | .nil => .nil
 | .leaf _ k v _ => .leaf k v
 | .inner _ l r => .inner l.er r.er
def PM (bits : Int) (k v : List UInt8) (s : Value) : List Value := (kc k ++ kc (mQ bits v)) ++ [s]
def GG (bits : Int) (l r : Tr) : List Value := [l.ptr, r.ptr] ++ ((kc (l.er.lV bits) ++ kc (r.er.lV bits)) ++ [.int .i64 ((l.er.fU + r.er.fU : Nat) : Int)])
def rK (a : Nat) (t : TypeId) (L : List Value) (D : List UInt8) (w : World) : Prop := aK w a 143 ([.iface t (.agg L.toArray)] ++ kc D)
def cQ (bits : Int) : Tr → World → Prop
 | .nil, _ => True
 | .leaf a k v s, w => k.length = 32 ∧ bI s v w ∧ v.length ≤ 1000000 ∧ rK a 150 (PM bits k v s) (PL bits k v) w
 | .inner a l r, w => cQ bits l w ∧ cQ bits r w ∧ rK a 154 (GG bits l r) (uL bits (l.er.lV bits) (r.er.lV bits)) w
def y4 : List Value := (kc (List.replicate 32 0) ++ kc (List.replicate 32 0)) ++ [.slice none 0 0]
def vQ : List Value := [.pointer none, .pointer none] ++ ((kc (List.replicate 32 0) ++ kc (List.replicate 32 0)) ++ [.int .i64 0])
def Tr.lfC (bits : Int) : Tr → List Value
 | .leaf _ k v s => PM bits k v s
 | _ => y4
def Tr.inC (bits : Int) : Tr → List Value
 | .inner _ l r => GG bits l r
 | _ => vQ
def Tr.left : Tr → Tr
 | .inner _ l _ => l
 | _ => .nil
def Tr.right : Tr → Tr
 | .inner _ _ r => r
 | _ => .nil
def Tr.key : Tr → List UInt8
 | .leaf _ k _ _ => k
 | _ => List.replicate 32 0
def Tr.val : Tr → List UInt8
 | .leaf _ _ v _ => v
 | _ => []
def Tr.vs : Tr → Value
 | .leaf _ _ _ s => s
 | _ => .slice none 0 0
def Tr.vd (bits : Int) : Tr → List UInt8
 | .leaf _ _ v _ => mQ bits v
 | _ => List.replicate 32 0
def Tr.aAY : Tr → Nat
 | .inner _ l r => l.er.fU + r.er.fU
 | _ => 0
def Tr.ld (bits : Int) : Tr → List UInt8
 | .inner _ l _ => l.er.lV bits
 | _ => List.replicate 32 0
def Tr.rd (bits : Int) : Tr → List UInt8
 | .inner _ _ r => r.er.lV bits
 | _ => List.replicate 32 0
theorem fY (bits : Int) (v : List UInt8) : (mQ bits v).length = 32 := cY _ _
theorem aU : (∀ l b, (dS l b).length = 32) ∧ (∀ l, (cR l).length = 32) ∧ (∀ b (s : Sh), (s.lV b).length = 32) ∧ (∀ b v, (mQ b v).length = 32) := ⟨cY, iL, gH, fY⟩
theorem Tr.aP (bits : Int) (T : Tr) : (T.vd bits).length = 32 := match T with | .leaf _ _ v _ => fY bits v | .nil => List.length_replicate | .inner _ _ _ => List.length_replicate
theorem Tr.bM (bits : Int) (T : Tr) : (T.ld bits).length = 32 := match T with | .inner _ l _ => gH bits l.er | .nil => List.length_replicate | .leaf _ _ _ _ => List.length_replicate
theorem Tr.bL (bits : Int) (T : Tr) : (T.rd bits).length = 32 := match T with | .inner _ _ r => gH bits r.er | .nil => List.length_replicate | .leaf _ _ _ _ => List.length_replicate
theorem cQ.gG {bits : Int} {T : Tr} {w : World} (h : cQ bits T w) : T.key.length = 32 := by
 cases T <;> first | exact h.1 | simp [Tr.key]
theorem cQ.vsl {bits : Int} {T : Tr} {w : World} (h : cQ bits T w) : bI T.vs T.val w := by
 cases T <;> first | exact h.2.1 | exact bI.nil _
theorem cQ.NS {bits : Int} {T : Tr} {w : World} (h : cQ bits T w) : T.val.length ≤ 1000000 := by
 cases T <;> first | exact h.2.2.1 | simp [Tr.val]
theorem cQ.left {bits : Int} {T : Tr} {w : World} (h : cQ bits T w) : cQ bits T.left w := by
 cases T <;> first | exact h.1 | trivial
theorem cQ.right {bits : Int} {T : Tr} {w : World} (h : cQ bits T w) : cQ bits T.right w := by
 cases T <;> first | exact h.2.1 | trivial
theorem Tr.BD (bits : Int) (T : Tr) : T.lfC bits = (kc T.key ++ kc (T.vd bits)) ++ [T.vs] := by cases T <;> rfl
theorem Tr.wV (bits : Int) (T : Tr) : T.inC bits = [T.left.ptr, T.right.ptr] ++ ((kc (T.ld bits) ++ kc (T.rd bits)) ++ [.int .i64 (T.aAY : Int)]) := by cases T <;> rfl
theorem Tr.U1 {bits : Int} {T : Tr} {w : World} (h : cQ bits T w) : eC (T.lfC bits) := by
 rw [Tr.BD]; exact bO (bO (bK _) (bK _)) (bC _ (by simp [cS.fG h.vsl]))
theorem Tr.U2 (bits : Int) (T : Tr) : eC (T.inC bits) := by
 rw [Tr.wV]; exact bO (bC _ rfl) (bO (bO (bK _) (bK _)) (bC _ rfl))
theorem Tr.U8 {bits : Int} {T : Tr} {w : World} (h : cQ bits T w) : (T.lfC bits).length = 65 := by
 rw [Tr.BD]; simp [aN, h.gG, Tr.aP]
theorem Tr.U9 (bits : Int) (T : Tr) : (T.inC bits).length = 67 := by
 rw [Tr.wV]; simp [aN, Tr.bM, Tr.bL]
theorem Tr.YW {T : Tr} (h : T.er.kind = 1) : ∃ a k v s, T = .leaf a k v s := by cases T <;> first | exact ⟨_, _, _, _, rfl⟩ | simp [Tr.er, Sh.kind] at h
theorem Tr.zQ {T : Tr} (h : T.er.kind = 2) : ∃ a l r, T = .inner a l r := by cases T <;> first | exact ⟨_, _, _, rfl⟩ | simp [Tr.er, Sh.kind] at h
theorem Tr.U7 {bits : Int} {T : Tr} (h : T.er.kind ≠ 1) : T.lfC bits = y4 := by cases T <;> first | rfl | exact absurd rfl h
theorem Tr.VK {bits : Int} {T : Tr} (h : T.er.kind ≠ 2) : T.inC bits = vQ := by cases T <;> first | rfl | exact absurd rfl h
theorem Tr.RQ (T : Tr) : T.er.fU = if T.er.kind = 1 then 1 else T.aAY := by cases T <;> simp [Tr.er, Sh.fU, Sh.kind, Tr.aAY]
theorem MV {X : Nat → Prop} {w : World}  (hX : cW X w) :
  bD Tryz.prog 31 [.pointer none].toArray w fun v w' => v = .int .i64 0 ∧ Out Nil w w' := by
 refine bD.aI (N := 15) Tryz.func31 rfl rfl (by simp) ?_
 have H := St.begin hX
 refine WE.aA (WL.as rfl rfl (WL.nil (WE.seq (WE.aA (WL.mv rfl rfl (WL.pv (PV.iX rfl wH rfl rfl) rfl (WL.nil ?_)))))))
 refine WE.cO rfl rfl ?_
 refine WE.aA (WL.as rfl rfl (WL.nil (WE.ret ⟨[_], _, .nil _, ⟨rfl, trivial⟩, ?_⟩)))
 exact ⟨rfl, H.aM⟩
theorem HT {X : Nat → Prop} {w : World} {a : Nat} {L : List Value} {D : List UInt8} (hX : cW X w) (bU : aH X (rK a 150 L D) w) :
  bD Tryz.prog 31 [.pointer (some ⟨a, 0, none⟩)].toArray w fun v w' => v = .int .i64 1 ∧ Out Nil w w' := by
 refine bD.aI (N := 15) Tryz.func31 rfl rfl (by simp) ?_
 have H := St.begin hX
 replace H := H.add (cF bU)
 refine WE.aA (WL.as rfl rfl (WL.nil (WE.seq (WE.aA (WL.mv rfl rfl (WL.pv (PV.iX rfl wH rfl rfl) rfl (WL.nil ?_)))))))
 refine WE.bB rfl rfl ?_
 refine WE.skip (WE.seq (WE.aA (WL.mv rfl rfl (WL.pv (PV.nilCheck rfl rfl) rfl (WL.pv (PV.fieldAddr rfl vK rfl) rfl (WL.aZ rfl KA rfl rfl (cX.at_ (o := 0) (aK.rd (H.p 0 rfl)) rfl rfl) (WL.nil ?_)))))))
 refine WE.block (WE.aA (WL.pv (PV.xV rfl EO X8 rfl) rfl (WL.pv (PV.extract rfl rfl rfl) rfl (WL.pv (PV.extract rfl rfl rfl) rfl (WL.nil ?_)))))
 refine WE.cO rfl rfl ?_
 refine WE.aA (WL.as rfl rfl (WL.nil (WE.ret ⟨[_], _, .nil _, ⟨rfl, trivial⟩, ?_⟩)))
 exact ⟨rfl, H.aM⟩
theorem E8 {X : Nat → Prop} {w : World} {a : Nat} {L : List Value} {D : List UInt8} (hX : cW X w) (bU : aH X (rK a 154 L D) w) :
  bD Tryz.prog 31 [.pointer (some ⟨a, 0, none⟩)].toArray w fun v w' => v = .int .i64 2 ∧ Out Nil w w' := by
 refine bD.aI (N := 15) Tryz.func31 rfl rfl (by simp) ?_
 have H := St.begin hX
 replace H := H.add (cF bU)
 refine WE.aA (WL.as rfl rfl (WL.nil (WE.seq (WE.aA (WL.mv rfl rfl (WL.pv (PV.iX rfl wH rfl rfl) rfl (WL.nil ?_)))))))
 refine WE.bB rfl rfl ?_
 refine WE.skip (WE.seq (WE.aA (WL.mv rfl rfl (WL.pv (PV.nilCheck rfl rfl) rfl (WL.pv (PV.fieldAddr rfl vK rfl) rfl (WL.aZ rfl KA rfl rfl (cX.at_ (o := 0) (aK.rd (H.p 0 rfl)) rfl rfl) (WL.nil ?_)))))))
 refine WE.block (WE.aA (WL.pv (PV.xV rfl EO X8 rfl) rfl (WL.pv (PV.extract rfl rfl rfl) rfl (WL.pv (PV.extract rfl rfl rfl) rfl (WL.nil ?_)))))
 refine WE.bB rfl rfl ?_
 refine WE.aA (WL.pv (PV.xV rfl JY aCe rfl) rfl (WL.pv (PV.extract rfl rfl rfl) rfl (WL.pv (PV.extract rfl rfl rfl) rfl (WL.nil ?_))))
 refine WE.cO rfl rfl ?_
 refine WE.aA (WL.as rfl rfl (WL.nil (WE.ret ⟨[_], _, .nil _, ⟨rfl, trivial⟩, ?_⟩)))
 exact ⟨rfl, H.aM⟩
theorem fC {X : Nat → Prop} {w : World} {bits : Int} {T : Tr} (hX : cW X w) (bU : aH X (cQ bits T) w) :
  bD Tryz.prog 31 [T.ptr].toArray w fun v w' => v = .int .i64 T.er.kind ∧ Out Nil w w' := by
 cases T with
 | nil => exact MV hX
 | leaf a k v s => exact HT hX (bU.imp fun _ h => h.2.2.2)
 | inner a l r => exact E8 hX (bU.imp fun _ h => h.2.2)
theorem I8 {X : Nat → Prop} {w : World} {bits : Int} {T : Tr} (hX : cW X w) (bU : aH X (cQ bits T) w) :
  bD Tryz.prog 72 [T.ptr].toArray w fun v w' => v = .agg (T.lfC bits).toArray ∧ Out Nil w w' := by
 refine bD.aI (N := 12) Tryz.func72 rfl rfl (by simp) ?_
 have H := St.begin hX
 replace H := H.add (cF bU)
 have hlen := Tr.U8 (bU.here)
 have gC := Tr.U1 (bU.here)
 refine WE.aA ?_
 refine WL.alloc H rfl HZ rfl ?_
 intro b2 w1 H
 refine WL.nil (WE.seq (WE.aA (WL.mv rfl rfl ?_)))
 refine WL.call mJ rfl (fC (T := T) H.aS (H.bN 0 rfl)) ?_
 rintro _ w2 ⟨rfl, hO⟩
 replace H := H.out hO
 refine WL.pv (PV.neq rfl rfl rfl) rfl (WL.nil ?_)
 refine WE.cond rfl (fun tN => ?_) (fun tN => ?_)
 ·
  try simp only [bW] at tN
  have hz := Tr.U7 (bits := bits) tN
  refine WE.aA ?_
  refine WL.pv (PV.eq (v' := .agg (T.lfC bits).toArray) (PV.dD (l := T.lfC bits) rfl YR HZ (by rw [hz]; exact Fl.nil)) rfl) rfl ?_
  refine WL.aT H 0 rfl rfl rfl (new := _) rfl (by (rw [CU]; refine congrArg some ?_; (symm; assumption))) gC (Laid.all (by rw [hlen]; rfl)) rfl ?_
  intro w3 H
  refine WL.nil (WE.ret ⟨[_], _, .nil _, ⟨⟨_, rfl, aV aAg (by exact aK.aF (H.l 0 rfl) (aJ.all _) rfl) (by (rw [CU]; refine congrArg some ?_; (symm; assumption)))⟩, trivial⟩, ?_⟩)
  exact ⟨rfl, H.aM⟩
 ·
  try simp only [bW] at tN
  obtain ⟨a, k, v, s, rfl⟩ := Tr.YW tN
  refine WE.skip (WE.aA (WL.mv rfl rfl (WL.pv (PV.nilCheck rfl rfl) rfl (WL.pv (PV.fieldAddr rfl vK rfl) rfl (WL.aZ rfl KA rfl rfl (cX.at_ (o := 0) (aK.rd ((H.p 0 rfl : cQ bits _ _).2.2.2)) rfl rfl) (WL.pv (PV.J8 rfl EO rfl) rfl ?_))))))
  refine WL.aT H 0 rfl rfl rfl (new := _) rfl (by (rw [CU]; refine congrArg some ?_; (symm; assumption))) gC (Laid.all (show (PM bits k v s).length = _ from hlen)) rfl ?_
  intro w4 H
  refine WL.nil (WE.ret ⟨[_], _, .nil _, ⟨⟨_, rfl, aV aAg (by exact aK.aF (H.l 0 rfl) (aJ.all _) rfl) (by (rw [CU]; refine congrArg some ?_; (symm; assumption)))⟩, trivial⟩, ?_⟩)
  exact ⟨rfl, H.aM⟩
theorem wU {X : Nat → Prop} {w : World} {bits : Int} {T : Tr} (hX : cW X w) (bU : aH X (cQ bits T) w) :
  bD Tryz.prog 153 [T.ptr].toArray w fun v w' => v = .agg (T.inC bits).toArray ∧ Out Nil w w' := by
 refine bD.aI (N := 12) Tryz.func153 rfl rfl (by simp) ?_
 have H := St.begin hX
 replace H := H.add (cF bU)
 have hlen := Tr.U9 bits T
 have gC := Tr.U2 bits T
 refine WE.aA ?_
 refine WL.alloc H rfl NH rfl ?_
 intro b2 w1 H
 refine WL.nil (WE.seq (WE.aA (WL.mv rfl rfl ?_)))
 refine WL.call mJ rfl (fC (T := T) H.aS (H.bN 0 rfl)) ?_
 rintro _ w2 ⟨rfl, hO⟩
 replace H := H.out hO
 refine WL.pv (PV.neq rfl rfl rfl) rfl (WL.nil ?_)
 refine WE.cond rfl (fun tN => ?_) (fun tN => ?_)
 ·
  try simp only [bW] at tN
  have hz := Tr.VK (bits := bits) tN
  refine WE.aA ?_
  refine WL.pv (PV.eq (v' := .agg (T.inC bits).toArray) (PV.dD (l := T.inC bits) rfl YQ NH (by rw [hz]; exact Fl.nil)) rfl) rfl ?_
  refine WL.aT H 0 rfl rfl rfl (new := _) rfl (by (rw [IL]; refine congrArg some ?_; (symm; assumption))) gC (Laid.all (by rw [hlen]; rfl)) rfl ?_
  intro w3 H
  refine WL.nil (WE.ret ⟨[_], _, .nil _, ⟨⟨_, rfl, aV aAf (by exact aK.aF (H.l 0 rfl) (aJ.all _) rfl) (by (rw [IL]; refine congrArg some ?_; (symm; assumption)))⟩, trivial⟩, ?_⟩)
  exact ⟨rfl, H.aM⟩
 ·
  try simp only [bW] at tN
  obtain ⟨a, l, r, rfl⟩ := Tr.zQ tN
  refine WE.skip (WE.aA (WL.mv rfl rfl (WL.pv (PV.nilCheck rfl rfl) rfl (WL.pv (PV.fieldAddr rfl vK rfl) rfl (WL.aZ rfl KA rfl rfl (cX.at_ (o := 0) (aK.rd ((H.p 0 rfl : cQ bits _ _).2.2)) rfl rfl) (WL.pv (PV.J8 rfl JY rfl) rfl ?_))))))
  refine WL.aT H 0 rfl rfl rfl (new := _) rfl (by (rw [IL]; refine congrArg some ?_; (symm; assumption))) gC (Laid.all (show (GG bits l r).length = _ from hlen)) rfl ?_
  intro w4 H
  refine WL.nil (WE.ret ⟨[_], _, .nil _, ⟨⟨_, rfl, aV aAf (by exact aK.aF (H.l 0 rfl) (aJ.all _) rfl) (by (rw [IL]; refine congrArg some ?_; (symm; assumption)))⟩, trivial⟩, ?_⟩)
  exact ⟨rfl, H.aM⟩
theorem mE {X : Nat → Prop} {w : World} {bits : Int} {T : Tr} (hX : cW X w) (bU : aH X (cQ bits T) w) :
  bD Tryz.prog 32 [T.ptr].toArray w fun v w' => v = .agg (kc T.key ++ kc (T.vd bits)).toArray ∧ Out Nil w w' := by
 refine bD.aI (N := 6) Tryz.func32 rfl rfl (by simp) ?_
 have H := St.begin hX
 replace H := H.add (cF bU)
 have hk := cQ.gG (bU.here)
 have hd := Tr.aP bits T
 refine WE.aA ?_
 refine WL.alloc H rfl NF rfl ?_
 intro b2 w1 H
 refine WL.nil (WE.aA (WL.mv rfl rfl ?_))
 refine WL.call aEx rfl (I8 (T := T) H.aS (H.bN 0 rfl)) ?_
 rintro _ w2 ⟨rfl, hO⟩
 replace H := H.out hO
 rw [Tr.BD]
 refine WL.pv (PV.kX rfl B2 rfl (dR.agg HH (cI AX (by simp only [aR, aU, Tr.aP, Tr.bM, Tr.bL]; omega)) (aJ.l (aJ.all _)))) rfl ?_
 refine WL.aT H 0 rfl rfl rfl (new := _) rfl (cI AX (by simp only [aR, aU, Tr.aP, Tr.bM, Tr.bL]; omega)) (bO (bK _) (bK _)) (Laid.at (Laid.all (by simp only [aR, aU, Tr.aP, Tr.bM, Tr.bL]; omega)) (by rfl)) rfl ?_
 intro w3 H
 refine WL.nil (WE.ret ⟨[_], _, .nil _, ⟨⟨_, rfl, aV HH (by exact aK.aF (H.l 0 rfl) (aJ.all _) rfl) (cI AX (by simp only [aR, aU, Tr.aP, Tr.bM, Tr.bL]; omega))⟩, trivial⟩, ?_⟩)
 exact ⟨rfl, H.aM⟩
theorem SX {X : Nat → Prop} {w : World} {bits : Int} {T : Tr} (hX : cW X w) (bU : aH X (cQ bits T) w) :
  bD Tryz.prog 112 [T.ptr].toArray w fun v w' => v = T.left.ptr ∧ Out Nil w w' := by
 refine bD.aI (N := 7) Tryz.func112 rfl rfl (by simp) ?_
 have H := St.begin hX
 replace H := H.add (cF bU)
 refine WE.aA (WL.as rfl rfl (WL.nil (WE.aA (WL.mv rfl rfl ?_))))
 refine WL.call RA rfl (wU (T := T) H.aS (H.bN 0 rfl)) ?_
 rintro _ w1 ⟨rfl, hO⟩
 replace H := H.out hO
 rw [Tr.wV]
 refine WL.pv (PV.kX rfl JS rfl (dR.agg SE (by exact IM) (aJ.l (aJ.all _)))) rfl ?_
 refine WL.pv (PV.q6 (i := 0) rfl R7 lC rfl rfl (by decide) (dR.one gZ aJ.hd)) rfl (WL.as rfl rfl (WL.nil (WE.ret ⟨[_], _, .nil _, ⟨rfl, trivial⟩, ?_⟩)))
 exact ⟨rfl, H.aM⟩
theorem E7 {X : Nat → Prop} {w : World} {bits : Int} {T : Tr} (hX : cW X w) (bU : aH X (cQ bits T) w) :
  bD Tryz.prog 113 [T.ptr].toArray w fun v w' => v = T.right.ptr ∧ Out Nil w w' := by
 refine bD.aI (N := 7) Tryz.func113 rfl rfl (by simp) ?_
 have H := St.begin hX
 replace H := H.add (cF bU)
 refine WE.aA (WL.as rfl rfl (WL.nil (WE.aA (WL.mv rfl rfl ?_))))
 refine WL.call RA rfl (wU (T := T) H.aS (H.bN 0 rfl)) ?_
 rintro _ w1 ⟨rfl, hO⟩
 replace H := H.out hO
 rw [Tr.wV]
 refine WL.pv (PV.kX rfl JS rfl (dR.agg SE (by exact IM) (aJ.l (aJ.all _)))) rfl ?_
 refine WL.pv (PV.q6 (i := 1) rfl R7 lC rfl rfl (by decide) (dR.one gZ (aJ.tl aJ.hd rfl))) rfl (WL.as rfl rfl (WL.nil (WE.ret ⟨[_], _, .nil _, ⟨rfl, trivial⟩, ?_⟩)))
 exact ⟨rfl, H.aM⟩
theorem aAj {X : Nat → Prop} {w : World} {bits : Int} {T : Tr} (hX : cW X w) (bU : aH X (cQ bits T) w) :
  bD Tryz.prog 99 [T.ptr].toArray w fun v w' => v = .int .i64 (T.er.fU : Int) ∧ Out Nil w w' := by
 refine bD.aI (N := 9) Tryz.func99 rfl rfl (by simp) ?_
 have H := St.begin hX
 replace H := H.add (cF bU)
 have hd := Tr.bM bits T
 have hr := Tr.bL bits T
 refine WE.aA (WL.as rfl rfl (WL.nil (WE.seq (WE.aA (WL.mv rfl rfl ?_)))))
 refine WL.call mJ rfl (fC (T := T) H.aS (H.bN 0 rfl)) ?_
 rintro _ w1 ⟨rfl, hO⟩
 replace H := H.out hO
 refine WL.pv (PV.eql rfl rfl rfl) rfl (WL.nil ?_)
 refine WE.cond rfl (fun tN => ?_) (fun tN => ?_)
 ·
  try simp only [bW] at tN
  refine WE.aA (WL.as rfl rfl (WL.nil (WE.ret ⟨[_], _, .nil _, ⟨rfl, trivial⟩, ?_⟩)))
  refine ⟨?_, H.aM⟩
  rw [Tr.RQ, if_pos tN]; rfl
 ·
  try simp only [bW] at tN
  refine WE.skip (WE.aA (WL.mv rfl rfl ?_))
  refine WL.call RA rfl (wU (T := T) H.aS (H.bN 0 rfl)) ?_
  rintro _ w2 ⟨rfl, hO⟩
  replace H := H.out hO
  rw [Tr.wV]
  refine WL.pv (PV.kX rfl V9 rfl (dR.one oZ (aJ.r (aJ.r (aJ.all _) (by with_reducible rfl)) (by simp only [aR, aU, Tr.aP, Tr.bM, Tr.bL])))) rfl ?_
  refine WL.as rfl rfl (WL.nil (WE.ret ⟨[_], _, .nil _, ⟨rfl, trivial⟩, ?_⟩))
  refine ⟨?_, H.aM⟩
  rw [Tr.RQ, if_neg tN]; rfl
theorem FF {X : Nat → Prop} {w : World} {a : Value} {la : List UInt8} (hX : cW X w) (bU : aH X (bI a la) w) (wX : la.length ≤ 70368744177664) :
  bD Tryz.prog 102 [a].toArray w fun v w' => Out Nil w w' ∧ w'.ownsRow w.heap.size 5 1 v la.length (kc la) := by
 refine bD.aI (N := 8) Tryz.func102 rfl rfl (by simp) ?_
 have H := St.begin hX
 replace H := H.add (cF bU)
 refine WE.aA (WL.as rfl rfl (WL.nil (WE.seq (WE.aA (WL.mv rfl rfl (WL.pv (PV.Z4 rfl (H.p 0 rfl) eV rfl rfl) rfl (WL.nil ?_)))))))
 refine WE.cond rfl (fun VV => ?_) (fun VV => ?_)
 ·
  try simp only [bW] at VV
  have h0 : la = [] := List.eq_nil_of_length_eq_zero (cS.PC (H.p 0 rfl) VV)
  subst h0
  refine WE.aA (WL.as rfl rfl (WL.nil (WE.ret ⟨[_], _, .nil _, ⟨rfl, trivial⟩, ?_⟩)))
  exact ⟨H.aM, World.ownsRow_nil _ _ _ _⟩
 ·
  try simp only [bW] at VV
  refine WE.skip (WE.aA ?_)
  refine WL.bJ (l0 := []) H rfl jZ (by decide) (dG _ _) Fl.nil rfl ?_
  intro b5 w1 H
  replace H := H.IK (n := 0) (sz := 1) (i := 0) rfl rfl (by decide)
  refine WL.mv rfl rfl ?_
  refine WL.append H 0 jZ (by decide) rfl rfl rfl (H.p 0 rfl) (by exact bK _) (by omega) (by decide) rfl ?_
  intro v7 w2 H
  refine WL.as rfl rfl (WL.nil (WE.ret ⟨[_], _, .nil _, ⟨rfl, trivial⟩, ?_⟩))
  exact ⟨H.aM, by have := H.l 0 rfl; rw [Nat.zero_add] at this; exact this⟩
theorem SZ {X : Nat → Prop} {w : World} {bh bc : Nat} {bits n : Int} {a : Value} {k la : List UInt8} (hX : cW X w) (eR : aK w bc 213 ([.int .i64 n])) (bU : aH (fun c_ => X c_ ∨ c_ = bc) (fJ bh bc bits) w) (dA : aH (fun c_ => X c_ ∨ c_ = bc) (bI a la) w) (fO : aH (fun c_ => X c_ ∨ c_ = bc) (aW) w) (bS : 0 ≤ bits ∧ bits ≤ 256) (wX : la.length ≤ 1000000) (hk : k.length = 32) :
  bD Tryz.prog 173 [.pointer (some ⟨bh, 0, none⟩), .agg (kc k).toArray, a].toArray w fun v w' => ∃ m, v = .agg (kc k ++ kc (mQ bits la)).toArray ∧ Out (· = bc) w w' ∧ aK w' bc 213 [.int .i64 m] := by
 refine bD.aI (N := 13) Tryz.func173 rfl rfl (by simp) ?_
 have H := St.c6 (b := bc) (t := 213) (l := [.int .i64 n]) hX eR
 replace H := H.add (bY fO)
 replace H := H.add (bY dA)
 replace H := H.add (bY bU)
 refine WE.aA ?_
 refine WL.box (l := kc k) H rfl (by rfl) rfl ?_
 intro b4 w1 H
 refine WL.alloc H rfl NF rfl ?_
 intro b6 w2 H
 refine WL.nil ?_
 refine WE.bF (.take 0 (.take 1 (.take 2 (.aG 3 (.aG 4 (.take 5 (.aG 6 .done))))))) mixed (by kernel_rfl) ?_
 replace H := H.out (Out.drew _)
 refine WP.dF rfl rfl rfl cU rfl (by exact aK.aF (H.l 1 rfl) (aJ.all _) (by rfl)) (cI cN (by simp only [aR, aU, Tr.aP, Tr.bM, Tr.bL]; omega)) ?_
 refine WP.mv rfl rfl rfl (WP.mv rfl rfl rfl (WP.aG rfl ?_))
 refine WL.call ZV rfl (KB (la := la) H.aS (H.bN 1 rfl) (by omega)) ?_
 rintro v10 w3 ⟨hO, hR⟩
 replace H := (H.out hO).add hR
 refine WL.nil ⟨(fa (fun _ _ => (by exact aK.aF (H.l 1 rfl) (aJ.all _) (by rfl))) cV), ?_⟩
 refine WP.aG rfl ?_
 refine WL.call GX rfl (rL (la := 2 :: la) H.aS (H.o 0 rfl) (by exact H.aL 0 rfl 1 rfl) (by exact H.aL 0 rfl 0 rfl) (by exact H.aL 0 rfl 3 rfl) bS (by simp; omega)) ?_
 rintro _ w4 ⟨rfl, hO, hB⟩
 replace H := H.eS 0 rfl hO hB
 refine WL.nil ⟨(fa (fun _ _ => (by exact aK.aF (H.l 1 rfl) (aJ.all _) (by rfl))) cV), ?_⟩
 refine WP.aC rfl rfl (PV.dD rfl aAL NF (Fl.cons rfl (by rfl) (by simp only [aR, aU, Tr.aP, Tr.bM, Tr.bL]; omega) (Laid.left (Laid.all (by simp only [aR, aU, Tr.aP, Tr.bM, Tr.bL]; omega))) (Fl.cons rfl (by rfl) (by simp only [aR, aU, Tr.aP, Tr.bM, Tr.bL]) (Laid.right (Laid.all (by simp only [aR, aU, Tr.aP, Tr.bM, Tr.bL])) (by simp only [aR, aU, Tr.aP, Tr.bM, Tr.bL]; omega)) Fl.nil))) ?_
 refine WP.aG rfl ?_
 refine WL.aT H 0 rfl rfl rfl (new := _) rfl (cI AX (by simp only [aR, aU, Tr.aP, Tr.bM, Tr.bL]; omega)) (bO (bK _) (bK _)) (Laid.at (Laid.all (by simp only [aR, aU, Tr.aP, Tr.bM, Tr.bL]; omega)) (by rfl)) rfl ?_
 intro w5 H
 refine WL.nil ⟨(fa (nw 6 0 (by decide +kernel)) cV), ?_⟩
 refine WP.done (WE.ret ⟨[_], _, .nil _, ⟨⟨_, rfl, aV HH (by exact aK.aF (H.l 0 rfl) (aJ.all _) rfl) (cI AX (by simp only [aR, aU, Tr.aP, Tr.bM, Tr.bL]; omega))⟩, trivial⟩, ?_⟩)
 exact ⟨_, rfl, H.cM, H.o 0 rfl⟩
theorem LG {X : Nat → Prop} {w : World} {k d : List UInt8} {s : Value} (hX : cW X w) (hk : k.length = 32) (hd : d.length = 32) :
  bD Tryz.prog 242 [.agg ((kc k ++ kc d) ++ [s]).toArray].toArray w fun v w' => Out Nil w w' ∧ aH X (bI v (0 :: (k ++ d))) w' := by
 refine bD.aI (N := 6) Tryz.func242 rfl rfl (by simp) ?_
 have H := St.begin hX
 refine WE.aA ?_
 refine WL.box (l := (kc k ++ kc d) ++ [s]) H rfl (by rfl) rfl ?_
 intro b1 w1 H
 refine WL.as rfl rfl (WL.nil (WE.aA (WL.pv (PV.fieldAddr rfl B2 rfl) rfl ?_)))
 refine WL.bG rfl HH rfl rfl (by exact aK.aF (H.l 0 rfl) (aJ.l (aJ.all _)) (by rfl)) (cI AX (by simp only [aR, aU, Tr.aP, Tr.bM, Tr.bL]; omega)) ?_
 refine WL.call ZP rfl (SY (k := k) (l := d) H.aS hk hd) ?_
 rintro v5 w2 ⟨hO, hR⟩
 replace H := (H.out hO).add hR
 refine WL.as rfl rfl (WL.nil (WE.ret ⟨[_], _, .nil _, ⟨rfl, trivial⟩, ?_⟩))
 exact ⟨H.aM, H.gU (H.bN 0 rfl)⟩
theorem GF {X : Nat → Prop} {w : World} {p d e : List UInt8} {x y z : Value} (hX : cW X w) (hd : d.length = 32) (he : e.length = 32) :
  bD Tryz.prog 243 [.agg ([x, y] ++ ((kc d ++ kc e) ++ [z])).toArray].toArray w fun v w' => Out Nil w w' ∧ aH X (bI v (1 :: (d ++ e))) w' := by
 refine bD.aI (N := 10) Tryz.func243 rfl rfl (by simp) ?_
 have H := St.begin hX
 refine WE.aA ?_
 refine WL.box (l := [x, y] ++ ((kc d ++ kc e) ++ [z])) H rfl (by rfl) rfl ?_
 intro b1 w1 H
 refine WL.as rfl rfl (WL.nil (WE.aA (WL.pv (PV.fieldAddr rfl JR rfl) rfl (WL.pv (PV.cG rfl xW dK rfl rfl (by omega) (by omega)) rfl ?_))))
 refine WL.bG rfl iD rfl rfl (by exact aK.aF (H.l 0 rfl) (aJ.r (aJ.l (aJ.l (aJ.all _))) (by with_reducible rfl)) (by rfl)) (cI dK (by simp only [aR, aU, Tr.aP, Tr.bM, Tr.bL]; omega)) ?_
 refine WL.pv (PV.fieldAddr rfl JR rfl) rfl (WL.pv (PV.cG rfl xW dK rfl rfl (by omega) (by omega)) rfl ?_)
 refine WL.bG rfl iD rfl rfl (by exact aK.aF (H.l 0 rfl) (aJ.r (aJ.l (aJ.r (aJ.all _) (by with_reducible rfl))) (by with_reducible rfl)) (by (simp [aN, bA, *]; done))) (cI dK (by simp only [aR, aU, Tr.aP, Tr.bM, Tr.bL]; omega)) ?_
 refine WL.call ZQ rfl (SV (k := d) (l := e) H.aS hd he) ?_
 rintro v9 w2 ⟨hO, hR⟩
 replace H := (H.out hO).add hR
 refine WL.as rfl rfl (WL.nil (WE.ret ⟨[_], _, .nil _, ⟨rfl, trivial⟩, ?_⟩))
 exact ⟨H.aM, H.gU (H.bN 0 rfl)⟩
theorem FQ {X : Nat → Prop} {w : World} {bh bc : Nat} {bits n : Int} {k d : List UInt8} {s : Value} (hX : cW X w) (eR : aK w bc 213 ([.int .i64 n])) (bU : aH (fun c_ => X c_ ∨ c_ = bc) (fJ bh bc bits) w) (dA : aH (fun c_ => X c_ ∨ c_ = bc) (aW) w) (bS : 0 ≤ bits ∧ bits ≤ 256) (hk : k.length = 32) (hd : d.length = 32) :
  bD Tryz.prog 172 [.pointer (some ⟨bh, 0, none⟩), .iface 150 (.agg ((kc k ++ kc d) ++ [s]).toArray)].toArray w fun v w' => ∃ a m, v = .pointer (some ⟨a, 0, none⟩) ∧ Out (· = bc) w w' ∧ aK w' bc 213 [.int .i64 m] ∧ aH (fun c => X c ∨ c = bc) (rK a 150 ((kc k ++ kc d) ++ [s]) (dS (cR (0 :: (k ++ d))) bits)) w' := by
 refine bD.aI (N := 12) Tryz.func172 rfl rfl (by simp) ?_
 have H := St.c6 (b := bc) (t := 213) (l := [.int .i64 n]) hX eR
 replace H := H.add (bY dA)
 replace H := H.add (bY bU)
 refine WE.aA (WL.as rfl rfl (WL.nil (WE.aA (WL.mv rfl rfl (WL.mv rfl rfl (WL.mv rfl rfl ?_))))))
 refine WL.invoke rfl (by kernel_rfl) EO aEI rfl (LG (k := k) (d := d) (s := s) H.aS hk hd) ?_
 rintro v8 w2 ⟨hO, hR⟩
 replace H := (H.out hO).add hR
 refine WL.call GX rfl (rL (la := 0 :: (k ++ d)) H.aS (H.o 0 rfl) (by exact H.aL 0 rfl 1 rfl) (by exact H.aL 0 rfl 0 rfl) (by exact H.aL 0 rfl 2 rfl) bS (by simp; omega)) ?_
 rintro _ w4 ⟨rfl, hO, hB⟩
 replace H := H.eS 0 rfl hO hB
 refine WL.pv (PV.dD rfl YS YC (Fl.cons rfl (by rfl) (by simp only [aR, aU, Tr.aP, Tr.bM, Tr.bL]) (Laid.left (Laid.all (by simp only [aR, aU, Tr.aP, Tr.bM, Tr.bL]))) (Fl.cons rfl (by rfl) (by simp only [aR, aU, Tr.aP, Tr.bM, Tr.bL]) (Laid.right (Laid.all (by simp only [aR, aU, Tr.aP, Tr.bM, Tr.bL])) (by simp only [aR, aU, Tr.aP, Tr.bM, Tr.bL])) Fl.nil))) rfl ?_
 refine WL.box (l := _) H rfl (by rfl) rfl ?_
 intro XC w5 H
 refine WL.as rfl rfl (WL.nil (WE.ret ⟨[_], _, .nil _, ⟨rfl, trivial⟩, ?_⟩))
 replace H := H.freeze (i := 0) rfl
 exact ⟨_, _, rfl, H.cM, H.o 0 rfl, (H.fM (H.bN 0 rfl)).imp fun _ h => h⟩
theorem CM {X : Nat → Prop} {w : World} {bh bc : Nat} {bits n : Int} {d e : List UInt8} {x y z : Value} (hX : cW X w) (eR : aK w bc 213 ([.int .i64 n])) (bU : aH (fun c_ => X c_ ∨ c_ = bc) (fJ bh bc bits) w) (dA : aH (fun c_ => X c_ ∨ c_ = bc) (aW) w) (bS : 0 ≤ bits ∧ bits ≤ 256) (hd : d.length = 32) (he : e.length = 32) :
  bD Tryz.prog 172 [.pointer (some ⟨bh, 0, none⟩), .iface 154 (.agg ([x, y] ++ ((kc d ++ kc e) ++ [z])).toArray)].toArray w fun v w' => ∃ a m, v = .pointer (some ⟨a, 0, none⟩) ∧ Out (· = bc) w w' ∧ aK w' bc 213 [.int .i64 m] ∧ aH (fun c => X c ∨ c = bc) (rK a 154 ([x, y] ++ ((kc d ++ kc e) ++ [z])) (dS (cR (1 :: (d ++ e))) bits)) w' := by
 refine bD.aI (N := 12) Tryz.func172 rfl rfl (by simp) ?_
 have H := St.c6 (b := bc) (t := 213) (l := [.int .i64 n]) hX eR
 replace H := H.add (bY dA)
 replace H := H.add (bY bU)
 refine WE.aA (WL.as rfl rfl (WL.nil (WE.aA (WL.mv rfl rfl (WL.mv rfl rfl (WL.mv rfl rfl ?_))))))
 refine WL.invoke rfl (by kernel_rfl) JY aEH rfl (GF (p := []) (x := x) (y := y) (z := z) H.aS hd he) ?_
 rintro v8 w2 ⟨hO, hR⟩
 replace H := (H.out hO).add hR
 refine WL.call GX rfl (rL (la := 1 :: (d ++ e)) H.aS (H.o 0 rfl) (by exact H.aL 0 rfl 1 rfl) (by exact H.aL 0 rfl 0 rfl) (by exact H.aL 0 rfl 2 rfl) bS (by simp; omega)) ?_
 rintro _ w4 ⟨rfl, hO, hB⟩
 replace H := H.eS 0 rfl hO hB
 refine WL.pv (PV.dD rfl YS YC (Fl.cons rfl (by rfl) (by simp only [aR, aU, Tr.aP, Tr.bM, Tr.bL]) (Laid.left (Laid.all (by simp only [aR, aU, Tr.aP, Tr.bM, Tr.bL]))) (Fl.cons rfl (by rfl) (by simp only [aR, aU, Tr.aP, Tr.bM, Tr.bL]) (Laid.right (Laid.all (by simp only [aR, aU, Tr.aP, Tr.bM, Tr.bL])) (by simp only [aR, aU, Tr.aP, Tr.bM, Tr.bL])) Fl.nil))) rfl ?_
 refine WL.box (l := _) H rfl (by rfl) rfl ?_
 intro XC w5 H
 refine WL.as rfl rfl (WL.nil (WE.ret ⟨[_], _, .nil _, ⟨rfl, trivial⟩, ?_⟩))
 replace H := H.freeze (i := 0) rfl
 exact ⟨_, _, rfl, H.cM, H.o 0 rfl, (H.fM (H.bN 0 rfl)).imp fun _ h => h⟩
theorem cX.aF {w : World} {b o o' : Nat} {l0 l : List Value} (h : cX w ⟨b, 0, none⟩ l0) (s : aJ l0 o l) (ho : o' = o) : cX w ⟨b, o', none⟩ l := by
 subst ho
 have := cX.sub h s
 rwa [lP, Nat.zero_add] at this
theorem aH.aF7 {X : Nat → Prop} {p q r : World → Prop} {w : World} (h : aH X p w) (h' : aH X q w) (h'' : aH X r w) : aH X (fun w => p w ∧ q w ∧ r w) w := fun w' hw => ⟨h w' hw, h' w' hw, h'' w' hw⟩
theorem uU {X : Nat → Prop} {w : World} {bh bc : Nat} {bits n : Int} (hX : cW X w) (eR : aK w bc 213 ([.int .i64 n])) (bU : aH (fun c_ => X c_ ∨ c_ = bc) (fJ bh bc bits) w) (dA : aH (fun c_ => X c_ ∨ c_ = bc) (aW) w) (bS : 0 ≤ bits ∧ bits ≤ 256) :
  bD Tryz.prog 27 [.pointer (some ⟨bh, 0, none⟩), .pointer none].toArray w fun v w' => ∃ m, v = .agg (kc (lK bits)).toArray ∧ Out (· = bc) w w' ∧ aK w' bc 213 [.int .i64 m] := by
 refine bD.aI (N := 14) Tryz.func27 rfl rfl (by simp) ?_
 have H := St.c6 (b := bc) (t := 213) (l := [.int .i64 n]) hX eR
 replace H := H.add (bY dA)
 replace H := H.add (bY bU)
 refine WE.aA ?_
 refine WL.alloc H rfl nP rfl ?_
 intro b4 w1 H
 refine WL.nil (WE.seq (WE.aA (WL.mv rfl rfl (WL.pv (PV.iX rfl wH rfl rfl) rfl (WL.nil ?_)))))
 refine WE.cO rfl rfl ?_
 refine WE.aA (WL.mv rfl rfl ?_)
 refine WL.call aEz rfl (KG H.aS) ?_
 rintro v8 w2 ⟨hO, hR⟩
 replace H := (H.out hO).add hR
 refine WL.call GX rfl (rL (la := [3]) H.aS (H.o 0 rfl) (by exact H.aL 0 rfl 1 rfl) (by exact H.aL 0 rfl 0 rfl) (by exact H.aL 0 rfl 2 rfl) bS (by simp)) ?_
 rintro _ w3 ⟨rfl, hO, hB⟩
 replace H := H.eS 0 rfl hO hB
 refine WL.aT H 0 rfl rfl rfl (new := _) rfl (by exact dK) (by exact bK _) (Laid.at (Laid.all (by simp only [aR, aU, Tr.aP, Tr.bM, Tr.bL])) (by rfl)) rfl ?_
 intro w4 H
 refine WL.nil (WE.ret ⟨[_], _, .nil _, ⟨⟨_, rfl, aV iD (by exact aK.aF (H.l 0 rfl) (aJ.all _) rfl) (by exact dK)⟩, trivial⟩, ?_⟩)
 exact ⟨_, rfl, H.cM, H.o 0 rfl⟩
theorem x9 {X : Nat → Prop} {w : World} {h : Value} {a : Nat} {t : TypeId} {L : List Value} {D : List UInt8} (hX : cW X w) (bU : aH X (rK a t L D) w) (hD : D.length = 32) :
  bD Tryz.prog 27 [h, .pointer (some ⟨a, 0, none⟩)].toArray w fun v w' => v = .agg (kc D).toArray ∧ Out Nil w w' := by
 refine bD.aI (N := 14) Tryz.func27 rfl rfl (by simp) ?_
 have H := St.begin hX
 replace H := H.add (cF bU)
 refine WE.aA ?_
 refine WL.alloc H rfl nP rfl ?_
 intro b4 w1 H
 refine WL.nil (WE.seq (WE.aA (WL.mv rfl rfl (WL.pv (PV.iX rfl wH rfl rfl) rfl (WL.nil ?_)))))
 refine WE.bB rfl rfl ?_
 refine WE.skip (WE.aA (WL.mv rfl rfl (WL.pv (PV.nilCheck rfl rfl) rfl (WL.pv (PV.fieldAddr rfl WB rfl) rfl ?_))))
 refine WL.bG rfl iD rfl rfl (cX.aF (aK.rd (H.p 0 rfl)) (aJ.r (a := [.iface t (.agg L.toArray)]) (aJ.all (kc D)) rfl) rfl) (cI dK (by simp only [aR, aU, Tr.aP, Tr.bM, Tr.bL]; omega)) ?_
 refine WL.aT H 0 rfl rfl rfl (new := _) rfl (cI dK (by simp only [aR, aU, Tr.aP, Tr.bM, Tr.bL]; omega)) (by exact bK _) (Laid.at (Laid.all (by simp only [aR, aU, Tr.aP, Tr.bM, Tr.bL]; omega)) (by rfl)) rfl ?_
 intro w2 H
 refine WL.nil (WE.ret ⟨[_], _, .nil _, ⟨⟨_, rfl, aV iD (by exact aK.aF (H.l 0 rfl) (aJ.all _) rfl) (cI dK (by simp only [aR, aU, Tr.aP, Tr.bM, Tr.bL]; omega))⟩, trivial⟩, ?_⟩)
 exact ⟨rfl, H.aM⟩
theorem sR {X : Nat → Prop} {w : World} {bh bc : Nat} {bits n : Int} {T : Tr} (hX : cW X w) (eR : aK w bc 213 [.int .i64 n]) (bU : aH (fun c => X c ∨ c = bc) (fJ bh bc bits) w)
  (dA : aH (fun c => X c ∨ c = bc) (cQ bits T) w) (fO : aH (fun c => X c ∨ c = bc) aW w) (bS : 0 ≤ bits ∧ bits ≤ 256) :
  bD Tryz.prog 27 [.pointer (some ⟨bh, 0, none⟩), T.ptr].toArray w fun v w' => ∃ m, v = .agg (kc (T.er.lV bits)).toArray ∧ Out (· = bc) w w' ∧ aK w' bc 213 [.int .i64 m] := by
 have old : ∀ {w' : World}, Out Nil w w' → Out (· = bc) w w' ∧ aK w' bc 213 [.int .i64 n] := fun hO => ⟨hO.mono fun _ _ h => h.elim, eR.of_eq (hO.block _ eR.lt id)⟩
 cases T with
 | nil => exact uU hX eR bU fO bS
 | leaf a k v s =>
  refine (x9 (X := Nil) (D := PL bits k v) (mY _) ((dA.imp fun _ h => h.2.2.2).nil) (cY _ _)).mono ?_
  rintro v w' ⟨rfl, hO⟩
  exact ⟨n, rfl, old hO⟩
 | inner a l r =>
  refine (x9 (X := Nil) (D := uL bits (l.er.lV bits) (r.er.lV bits)) (mY _) ((dA.imp fun _ h => h.2.2).nil) (cY _ _)).mono ?_
  rintro v w' ⟨rfl, hO⟩
  exact ⟨n, rfl, old hO⟩
theorem XY {X : Nat → Prop} {w : World} {bh bc : Nat} {bits n : Int} {l r : Tr} (hX : cW X w) (eR : aK w bc 213 ([.int .i64 n])) (bU : aH (fun c_ => X c_ ∨ c_ = bc) (fJ bh bc bits) w) (dA : aH (fun c_ => X c_ ∨ c_ = bc) (cQ bits l) w) (fO : aH (fun c_ => X c_ ∨ c_ = bc) (cQ bits r) w) (jM : aH (fun c_ => X c_ ∨ c_ = bc) (aW) w) (bS : 0 ≤ bits ∧ bits ≤ 256) (hA : l.addr.isNone = true → r.er.kind = 2) (hB_ : r.addr.isNone = true → l.er.kind = 2) (QI : l.er.fU + r.er.fU ≤ 1000000000) :
  bD Tryz.prog 140 [.pointer (some ⟨bh, 0, none⟩), l.ptr, r.ptr].toArray w fun v w' => ∃ (T : Tr) (m : Int), v = T.ptr ∧ T.er = .inner l.er r.er ∧ Out (· = bc) w w' ∧ aK w' bc 213 [.int .i64 m] ∧ aH (fun c => X c ∨ c = bc) (cQ bits T) w' := by
 refine bD.aI (N := 44) Tryz.func140 rfl rfl (by simp) ?_
 have H := St.c6 (b := bc) (t := 213) (l := [.int .i64 n]) hX eR
 replace H := H.add (bY jM)
 replace H := H.add (bY fO)
 replace H := H.add (bY dA)
 replace H := H.add (bY bU)
 refine WE.aA (WL.as rfl rfl (WL.nil ?_))
 refine WE.cut (α := Unit) [6, 8, 9, 10, 11, 12, 13, 14, 15] (fun _ => []) (fun _ wl => St X w wl [aO.blk bc 213 [.int .i64 n]] [] [fJ bh bc bits, cQ bits l, cQ bits r, aW]) ?_ ?_
 ·
  refine WE.aA (WL.mv rfl rfl (WL.pv (PV.iX rfl wH rfl rfl) rfl (WL.mv rfl rfl ?_)))
  refine WL.split (t := 10) rfl (fun LR => ?_) (fun LR => ?_)
  ·
   refine WL.known (t := 9) (c := true) rfl LR ?_
   try simp only [bW] at LR
   refine WL.mv rfl rfl ?_
   refine WL.call mJ rfl (fC (X := Nil) (T := r) (mY _) (by exact (H.bN 2 rfl).nil)) ?_
   rintro _ w1 ⟨rfl, hO⟩
   replace H := H.out hO
   refine WL.pv (PV.neq rfl rfl rfl) rfl (WL.pv (PV.dH rfl rfl rfl) rfl (WL.nil ?_))
   refine WE.bB rfl (by simp [hA LR]) ?_
   refine WE.skip ?_
   exact ⟨(), (by repeat (first | with_reducible exact bQ.refl _ _ | refine bQ.dB rfl ?_)), trivial, rfl, H⟩
  ·
   refine WL.known (t := 9) (c := false) rfl LR ?_
   try simp only [bW] at LR
   refine WL.off rfl (WL.off rfl (WL.off rfl (WL.pv (PV.c5 rfl rfl rfl) rfl (WL.nil (WE.iJ rfl (WE.skip ?_))))))
   exact ⟨(), (by repeat (first | with_reducible exact bQ.refl _ _ | refine bQ.dB rfl ?_)), trivial, rfl, H⟩
 ·
  intro _ γ w2 hI
  try dsimp only at hI
  replace H := hI
  refine WE.cut (α := Unit) [6, 16, 17, 18, 19, 20, 21, 22, 23] (fun _ => []) (fun _ wl => St X w wl [aO.blk bc 213 [.int .i64 n]] [] [fJ bh bc bits, cQ bits l, cQ bits r, aW]) ?_ ?_
  ·
   refine WE.aA (WL.mv rfl rfl (WL.pv (PV.iX rfl wH rfl rfl) rfl (WL.mv rfl rfl ?_)))
   refine WL.split (t := 18) rfl (fun sF => ?_) (fun sF => ?_)
   ·
    refine WL.known (t := 17) (c := true) rfl sF ?_
    try simp only [bW] at sF
    refine WL.mv rfl rfl ?_
    refine WL.call mJ rfl (fC (X := Nil) (T := l) (mY _) (by exact (H.bN 1 rfl).nil)) ?_
    rintro _ w3 ⟨rfl, hO⟩
    replace H := H.out hO
    refine WL.pv (PV.neq rfl rfl rfl) rfl (WL.pv (PV.dH rfl rfl rfl) rfl (WL.nil ?_))
    refine WE.bB rfl (by simp [hB_ sF]) ?_
    refine WE.skip ?_
    exact ⟨(), (by repeat (first | with_reducible exact bQ.refl _ _ | refine bQ.dB rfl ?_)), trivial, rfl, H⟩
   ·
    refine WL.known (t := 17) (c := false) rfl sF ?_
    try simp only [bW] at sF
    refine WL.off rfl (WL.off rfl (WL.off rfl (WL.pv (PV.c5 rfl rfl rfl) rfl (WL.nil (WE.iJ rfl (WE.skip ?_))))))
    exact ⟨(), (by repeat (first | with_reducible exact bQ.refl _ _ | refine bQ.dB rfl ?_)), trivial, rfl, H⟩
  ·
   intro _ γ w4 hI
   try dsimp only at hI
   replace H := hI
   refine WE.aA (WL.mv rfl rfl (WL.mv rfl rfl ?_))
   refine WL.pv (PV.eq (v' := .agg [l.ptr, r.ptr].toArray) (PV.mM rfl R7 lC YB (Fl.cons rfl (by rfl) (by simp only [aR, aU, Tr.aP, Tr.bM, Tr.bL]) (Laid.aAO 0 (by simp only [aR, aU, Tr.aP, Tr.bM, Tr.bL]; omega)) (Fl.cons rfl (by rfl) (by simp only [aR, aU, Tr.aP, Tr.bM, Tr.bL]) (Laid.aAO 1 (by (simp [aN, bA, *]; done))) Fl.nil))) rfl) rfl ?_
   refine WL.alloc H rfl YB rfl ?_
   intro b7 w5 H
   refine WL.aT H 0 rfl rfl rfl (new := _) rfl (by exact IM) (by exact bC _ rfl) (Laid.at (Laid.all (by simp only [aR, aU, Tr.aP, Tr.bM, Tr.bL])) (by rfl)) rfl ?_
   intro w6 H
   refine WL.nil ?_
   refine WE.bF (.take 0 (.take 1 (.take 2 (.take 3 (.take 5 (.take 6 (.take 9 (.take 11 (.aG 4 (.aG 7 (.take 8 (.aG 10 (.aG 12 (.take 13 (.take 14 (.take 15 (.aG 16 (.take 17 .done)))))))))))))))))) mixed (by kernel_rfl) ?_
   replace H := H.out (Out.drew _)
   refine WP.mv rfl rfl rfl ?_
   refine WP.dF rfl rfl rfl SE rfl (by exact aK.aF (H.l 0 rfl) (aJ.all _) (by rfl)) (by exact IM) ?_
   refine WP.mv rfl rfl rfl (WP.mv rfl rfl rfl (WP.mv rfl rfl rfl (WP.mv rfl rfl rfl (WP.mv rfl rfl rfl (WP.mv rfl rfl rfl (WP.aG rfl ?_))))))
   refine WL.call Q7 rfl (sR (T := l) H.aS (H.o 0 rfl) (by exact H.aL 0 rfl 0 rfl) (by exact H.aL 0 rfl 1 rfl) (by exact H.aL 0 rfl 3 rfl) bS) ?_
   rintro _ w7 ⟨aIY, rfl, hO, hB⟩
   replace H := H.eS 0 rfl hO hB
   refine WL.nil ⟨(fa (fun _ _ => (by exact aK.aF (H.l 0 rfl) (aJ.all _) (by rfl))) cV), ?_⟩
   refine WP.aG rfl ?_
   refine WL.call Q7 rfl (sR (T := r) H.aS (H.o 0 rfl) (by exact H.aL 0 rfl 0 rfl) (by exact H.aL 0 rfl 2 rfl) (by exact H.aL 0 rfl 3 rfl) bS) ?_
   rintro _ w8 ⟨aIX, rfl, hO, hB⟩
   replace H := H.eS 0 rfl hO hB
   refine WL.nil ⟨(fa (fun _ _ => (by exact aK.aF (H.l 0 rfl) (aJ.all _) (by rfl))) cV), ?_⟩
   refine WP.aC rfl rfl (PV.mM rfl xW dK NI (Fl.cons rfl (by rfl) (by simp only [aR, aU, Tr.aP, Tr.bM, Tr.bL]) (Laid.left (Laid.all (by simp only [aR, aU, Tr.aP, Tr.bM, Tr.bL]))) (Fl.cons rfl (by rfl) (by simp only [aR, aU, Tr.aP, Tr.bM, Tr.bL]) (Laid.right (Laid.all (by simp only [aR, aU, Tr.aP, Tr.bM, Tr.bL])) (by simp only [aR, aU, Tr.aP, Tr.bM, Tr.bL])) Fl.nil))) ?_
   refine WP.aG rfl ?_
   refine WL.call aEr rfl (aAj (X := Nil) (T := l) (mY _) (by exact (H.bN 1 rfl).nil)) ?_
   rintro _ w9 ⟨rfl, hO⟩
   replace H := H.out hO
   refine WL.nil ⟨(fa (fun _ _ => (by exact aK.aF (H.l 0 rfl) (aJ.all _) (by rfl))) cV), ?_⟩
   refine WP.aG rfl ?_
   refine WL.call aEr rfl (aAj (X := Nil) (T := r) (mY _) (by exact (H.bN 2 rfl).nil)) ?_
   rintro _ vT ⟨rfl, hO⟩
   replace H := H.out hO
   refine WL.nil ⟨(fa (fun _ _ => (by exact aK.aF (H.l 0 rfl) (aJ.all _) (by rfl))) cV), ?_⟩
   refine WP.aC rfl rfl (PV.eq (v' := .int .i64 ((l.er.fU + r.er.fU : Nat) : Int)) (PV.bZ rfl rfl rfl (by omega) (by omega)) (by congr 1)) ?_
   refine WP.aC rfl rfl (PV.dD rfl YQ NH (Fl.cons rfl (by rfl) (by simp only [aR, aU, Tr.aP, Tr.bM, Tr.bL]) (Laid.left (Laid.all (by simp only [aR, aU, Tr.aP, Tr.bM, Tr.bL]))) (Fl.cons rfl (by rfl) (by simp only [aR, aU, Tr.aP, Tr.bM, Tr.bL]) (Laid.right (Laid.left (Laid.all (by simp only [aR, aU, Tr.aP, Tr.bM, Tr.bL]))) (by simp only [aR, aU, Tr.aP, Tr.bM, Tr.bL])) (Fl.cons rfl (by rfl) (by simp only [aR, aU, Tr.aP, Tr.bM, Tr.bL]) (Laid.right (Laid.right (Laid.all (by simp only [aR, aU, Tr.aP, Tr.bM, Tr.bL])) (by with_reducible rfl)) (by simp only [aR, aU, Tr.aP, Tr.bM, Tr.bL])) Fl.nil)))) ?_
   refine WP.aC rfl rfl (PV.I3 rfl JY) (WP.aG rfl ?_)
   refine WL.call ZT rfl (CM (d := l.er.lV bits) (e := r.er.lV bits) (x := l.ptr) (y := r.ptr) H.aS (H.o 0 rfl) (by exact H.aL 0 rfl 0 rfl) (by exact H.aL 0 rfl 3 rfl) bS (gH _ _) (gH _ _)) ?_
   rintro _ y8 ⟨a2, m2, rfl, hO, hB, hR⟩
   replace H := H.c9 0 rfl hO hB hR
   refine WL.nil ⟨(fa (nw 16 1 (by decide +kernel)) cV), ?_⟩
   refine WP.as rfl rfl rfl (WP.done (WE.ret ⟨[_], _, .nil _, ⟨rfl, trivial⟩, ?_⟩))
   exact ⟨.inner a2 l r, m2, rfl, rfl, H.cM, H.o 0 rfl, (H.fM (aH.aF7 (H.bN 2 rfl) (H.bN 3 rfl) (H.bN 0 rfl))).imp fun _ h => h⟩
theorem XX {X : Nat → Prop} {w : World} {h : Value} {bits : Int} {r : Tr} (hX : cW X w) (bU : aH X (cQ bits r) w) (hk : r.er.kind ≠ 2) :
  bD Tryz.prog 140 [h, .pointer none, r.ptr].toArray w fun v w' => v = r.ptr ∧ Out Nil w w' := by
 refine bD.aI (N := 44) Tryz.func140 rfl rfl (by simp) ?_
 have H := St.begin hX
 replace H := H.add (cF bU)
 refine WE.aA (WL.as rfl rfl (WL.nil (WE.seq (WE.aA (WL.mv rfl rfl (WL.pv (PV.iX rfl wH rfl rfl) rfl (WL.mv rfl rfl ?_)))))))
 refine WL.known (t := 10) (c := true) rfl rfl (WL.mv rfl rfl ?_)
 refine WL.call mJ rfl (fC (T := r) H.aS (H.bN 0 rfl)) ?_
 rintro _ w1 ⟨rfl, hO⟩
 replace H := H.out hO
 refine WL.pv (PV.neq rfl rfl rfl) rfl (WL.pv (PV.dH rfl rfl rfl) rfl (WL.nil ?_))
 refine WE.cO rfl (by simp [hk]) ?_
 refine WE.aA (WL.mv rfl rfl (WL.as rfl rfl (WL.nil (WE.ret ⟨[_], _, .nil _, ⟨rfl, trivial⟩, ?_⟩))))
 exact ⟨rfl, H.aM⟩
theorem XW {X : Nat → Prop} {w : World} {h : Value} {bits : Int} {l : Tr} (hX : cW X w) (bU : aH X (cQ bits l) w) (hn : l.addr.isNone = false) (hk : l.er.kind ≠ 2) :
  bD Tryz.prog 140 [h, l.ptr, .pointer none].toArray w fun v w' => v = l.ptr ∧ Out Nil w w' := by
 refine bD.aI (N := 44) Tryz.func140 rfl rfl (by simp) ?_
 have H := St.begin hX
 replace H := H.add (cF bU)
 refine WE.aA (WL.as rfl rfl (WL.nil (WE.seq (WE.aA (WL.mv rfl rfl (WL.pv (PV.iX rfl wH rfl rfl) rfl (WL.mv rfl rfl ?_)))))))
 refine WL.known (t := 10) (c := false) rfl hn (WL.off rfl (WL.off rfl (WL.off rfl (WL.pv (PV.c5 rfl rfl rfl) rfl (WL.nil (WE.iJ rfl (WE.skip ?_)))))))
 refine WE.seq (WE.aA (WL.mv rfl rfl (WL.pv (PV.iX rfl wH rfl rfl) rfl (WL.mv rfl rfl (WL.known (t := 18) (c := true) rfl rfl (WL.mv rfl rfl ?_))))))
 refine WL.call mJ rfl (fC (T := l) H.aS (H.bN 0 rfl)) ?_
 rintro _ w1 ⟨rfl, hO⟩
 replace H := H.out hO
 refine WL.pv (PV.neq rfl rfl rfl) rfl (WL.pv (PV.dH rfl rfl rfl) rfl (WL.nil ?_))
 refine WE.cO rfl (by simp [hk]) ?_
 refine WE.aA (WL.mv rfl rfl (WL.as rfl rfl (WL.nil (WE.ret ⟨[_], _, .nil _, ⟨rfl, trivial⟩, ?_⟩))))
 exact ⟨rfl, H.aM⟩
theorem Tr.F8 {T : Tr} (h : T.addr.isNone = true) : T = .nil := by cases T <;> first | rfl | cases h
theorem Tr.SF {T : Tr} (h : T ≠ .nil) : T.addr.isNone = false := by cases T <;> first | rfl | exact absurd rfl h
theorem VE {s : Sh} (h : s.kind ≠ 2) : jW .nil s = s := by cases s <;> first | rfl | exact absurd rfl h
theorem VD {s : Sh} (h : s.kind ≠ 2) : jW s .nil = s := by cases s <;> first | rfl | exact absurd rfl h
theorem VF {s t : Sh} (h1 : s = .nil → t.kind = 2) (h2 : t = .nil → s.kind = 2) : jW s t = .inner s t := by
 cases s <;> cases t <;> first | rfl | (have := h1 rfl; simp [Sh.kind] at this; done) | (have := h2 rfl; simp [Sh.kind] at this)
theorem x7 {X : Nat → Prop} {w : World} {bh bc : Nat} {bits n : Int} {l r : Tr} (hX : cW X w) (eR : aK w bc 213 [.int .i64 n]) (bU : aH (fun c => X c ∨ c = bc) (fJ bh bc bits) w)
  (dA : aH (fun c => X c ∨ c = bc) (cQ bits l) w) (fO : aH (fun c => X c ∨ c = bc) (cQ bits r) w) (jM : aH (fun c => X c ∨ c = bc) aW w) (bS : 0 ≤ bits ∧ bits ≤ 256) (QI : l.er.fU + r.er.fU ≤ 1000000000) :
  bD Tryz.prog 140 [.pointer (some ⟨bh, 0, none⟩), l.ptr, r.ptr].toArray w fun v w' => ∃ (T : Tr) (m : Int), v = T.ptr ∧ T.er = jW l.er r.er ∧ Out (· = bc) w w' ∧ aK w' bc 213 [.int .i64 m] ∧ aH (fun c => X c ∨ c = bc) (cQ bits T) w' := by
 have old : ∀ {w' : World}, Out Nil w w' → Out (· = bc) w w' ∧ aK w' bc 213 [.int .i64 n] := fun hO => ⟨hO.mono fun _ _ h => h.elim, eR.of_eq (hO.block _ eR.lt id)⟩
 have bN : ∀ {w' : World} {T : Tr}, aH (fun c => X c ∨ c = bc) (cQ bits T) w → Out Nil w w' → aH (fun c => X c ∨ c = bc) (cQ bits T) w' := fun h hO => h.out hO (fun _ _ h => h.elim) fun _ _ h => h
 by_cases h1 : l = .nil ∧ r.er.kind ≠ 2
 ·
  obtain ⟨rfl, hk⟩ := h1
  refine (XX (X := Nil) (mY _) fO.nil hk).mono ?_
  rintro v w' ⟨rfl, hO⟩
  exact ⟨r, n, rfl, (VE hk).symm, (old hO).1, (old hO).2, bN fO hO⟩
 ·
  by_cases h2 : r = .nil ∧ l.er.kind ≠ 2
  ·
   obtain ⟨rfl, hk⟩ := h2
   have hn : l ≠ .nil := fun e => h1 ⟨e, by simp [Tr.er, Sh.kind]⟩
   refine (XW (X := Nil) (mY _) dA.nil (Tr.SF hn) hk).mono ?_
   rintro v w' ⟨rfl, hO⟩
   exact ⟨l, n, rfl, (VD hk).symm, (old hO).1, (old hO).2, bN dA hO⟩
  ·
   have e1 : l = .nil → r.er.kind = 2 := fun e => Decidable.byContradiction fun h => h1 ⟨e, h⟩
   have e2 : r = .nil → l.er.kind = 2 := fun e => Decidable.byContradiction fun h => h2 ⟨e, h⟩
   refine (XY hX eR bU dA fO jM bS (fun h => e1 (Tr.F8 h)) (fun h => e2 (Tr.F8 h)) QI).mono ?_
   rintro v w' ⟨T, m, rfl, hT, h⟩
   refine ⟨T, m, rfl, ?_, h⟩
   rw [hT, VF]
   ·
    intro e; cases l <;> first | exact e1 rfl | cases e
   ·
    intro e; cases r <;> first | exact e2 rfl | cases e
def o4 (m : List En) : Prop := ∀ e ∈ m, e.s.oneCell' = true
theorem o4.of {m : List En} {w : World} (h : fB m w) : o4 m := fun e he => cS.fG (h e he)
theorem r7 {e : En} (h : e.s.oneCell' = true) : eC (o6 e) := bO (bK _) (bC _ (by simp [h]))
theorem F4 (m : List En) (d b k : Nat) (h : k < m.length) : bR (m.take (k + 1)) d b = bR (m.take k) d b ++ (if bH m[k].k d = b then [m[k]] else []) := by
 unfold bR
 rw [List.take_succ_eq_append_getElem h, List.filter_append]
 by_cases hb : bH m[k].k d = b <;> simp [hb]
theorem OI (m : List En) (q : List UInt8) (k : Nat) (h : k < m.length) : eY (m.take (k + 1)) q = eY (m.take k) q ++ (if m[k].k ≠ q then [m[k]] else []) := by
 unfold eY
 rw [List.take_succ_eq_append_getElem h, List.filter_append]
 by_cases hb : m[k].k = q <;> simp [hb]
theorem gE.rdk {v : Value} {m : List En} {w : World} (h : gE v m w) (hk : KL m) (i : Nat) (hi : i < m.length) : cX w ((jD v (i * 33)).add 0) (kc m[i].k) :=
 cX.sub (h.rd hk i hi) (aJ.l (b := [m[i].s]) (aJ.all (kc m[i].k)))
theorem gE.rdv {v : Value} {m : List En} {w : World} (h : gE v m w) (hk : KL m) (i : Nat) (hi : i < m.length) : cX w ((jD v (i * 33)).add 32) [m[i].s] :=
 cX.sub (h.rd hk i hi) (aJ.r (a := kc m[i].k) (aJ.all [m[i].s]) (by rw [aN, hk _ (List.getElem_mem hi)]))
theorem PV.dL {P : Program} {σ : Env} {o : Oper} {s ft : TypeId} {x : Operand} {f off n : Nat} {a : Addr} (h : o.op = .fieldAddr s x f) (hf : cD P s f = some (off, ft, n + 1)) (hx : ev σ x = .pointer (some a)) :
  PV P σ o (.pointer (some (a.add off))) := fun w => by
 obtain ⟨fs, fl, i, hu, JG, h1, h2, hi, hn⟩ := nS hf
 have h3 := pB hi hn (by omega) h2 h1 a w
 simp [execOp, h, hx, Instr.fieldAt, run_underlying hu, JG, Instr.sureAddr, h3]
theorem A3 {X : Nat → Prop} {w : World} {k l : List UInt8} (hX : cW X w) (hk : k.length = 32) (hl : l.length = 32) :
  bD Tryz.prog 88 [.agg (kc k).toArray, .agg (kc l).toArray].toArray w fun v w' => v = .int .i64 (gP k l) ∧ Out Nil w w' := by
 refine bD.aI (N := 24) Tryz.func88 rfl rfl (by simp) ?_
 have H := St.begin hX
 refine WE.aA ?_
 refine WL.box (l := kc k) H rfl (by rfl) rfl ?_
 intro b2 w1 H
 refine WL.box (l := kc l) H rfl (by rfl) rfl ?_
 intro b3 w2 H
 refine WL.as rfl rfl (WL.nil (WE.seq (WE.aA (WL.as rfl rfl (WL.nil (WE.block ?_))))))
 refine WE.loop (α := Nat) [4, 5, 6, 7, 8, 9, 10, 11, 12, 13, 14, 15, 16, 17, 18, 19, 20, 21, 22, 23] (fun i => [(5, .int .i64 i)]) (fun i wl => i ≤ 32 ∧ k.take i = l.take i ∧ St X w wl [] [aO.blk b3 24 (kc l), aO.blk b2 24 (kc k)] []) (fun i => 32 - i) 0 ⟨rfl, trivial⟩ ⟨Nat.zero_le _, by simp, H⟩ ?_
 intro i γ0 w3 hI
 try dsimp only at hI
 obtain ⟨hi, hpre, H⟩ := hI
 refine WE.seq (WE.aA (WL.mv rfl rfl (WL.pv (PV.lss rfl rfl rfl) rfl (WL.nil ?_))))
 refine WE.cond rfl (fun yS => ?_) (fun yS => ?_)
 ·
  try simp only [bW] at yS
  have hlt : i < 32 := by omega
  refine WE.skip (WE.seq (WE.block (WE.seq ?_)))
  refine WE.bF (.take 0 (.take 1 (.take 2 (.take 3 (.take 4 (.take 5 (.take 6 .done))))))) mixed (by kernel_rfl) ?_
  replace H := H.out (Out.drew _)
  refine WP.mv rfl rfl rfl (WP.aC rfl rfl (PV.cG rfl gQ iB rfl rfl (by omega) (by omega)) ?_)
  refine WP.aQ rfl rfl (RV.aY rfl B7 rfl) (by exact aK.aF (H.l 1 rfl) (aJ.byte i (by omega)) (by (simp; done))) ?_
  refine WP.mv rfl rfl rfl (WP.aC rfl rfl (PV.cG rfl gQ iB rfl rfl (by omega) (by omega)) ?_)
  refine WP.aQ rfl rfl (RV.aY rfl B7 rfl) (by exact aK.aF (H.l 0 rfl) (aJ.byte i (by omega)) (by (simp; done))) ?_
  refine WP.aC rfl rfl (PV.lss rfl rfl rfl) (WP.done ?_)
  refine WE.cond rfl (fun tO => ?_) (fun tO => ?_)
  ·
   try simp only [bW] at tO
   have aA6 := pV (by omega) i (by omega) hpre (by omega)
   refine WE.aA (WL.as rfl rfl (WL.nil (WE.ret ⟨[_], _, .nil _, ⟨rfl, trivial⟩, ?_⟩)))
   refine ⟨?_, H.aM⟩
   rw [gP, if_pos aA6]; rfl
  ·
   try simp only [bW] at tO
   refine WE.skip ?_
   refine WE.bF (.take 0 (.take 1 (.take 2 (.take 3 (.take 4 (.take 5 (.take 6 .done))))))) mixed (by kernel_rfl) ?_
   replace H := H.out (Out.drew _)
   refine WP.mv rfl rfl rfl (WP.aC rfl rfl (PV.cG rfl gQ iB rfl rfl (by omega) (by omega)) ?_)
   refine WP.aQ rfl rfl (RV.aY rfl B7 rfl) (by exact aK.aF (H.l 1 rfl) (aJ.byte i (by omega)) (by (simp; done))) ?_
   refine WP.mv rfl rfl rfl (WP.aC rfl rfl (PV.cG rfl gQ iB rfl rfl (by omega) (by omega)) ?_)
   refine WP.aQ rfl rfl (RV.aY rfl B7 rfl) (by exact aK.aF (H.l 0 rfl) (aJ.byte i (by omega)) (by (simp; done))) ?_
   refine WP.aC rfl rfl (PV.gtr rfl rfl rfl) (WP.done ?_)
   refine WE.cond rfl (fun lH => ?_) (fun lH => ?_)
   ·
    try simp only [bW] at lH
    have aA6 := pV (a := l) (b := k) (by omega) i (by omega) hpre.symm (by omega)
    refine WE.aA (WL.as rfl rfl (WL.nil (WE.ret ⟨[_], _, .nil _, ⟨rfl, trivial⟩, ?_⟩)))
    refine ⟨?_, H.aM⟩
    rw [gP, if_neg (by omega), if_pos aA6]; rfl
   ·
    try simp only [bW] at lH
    have heq : k[i] = l[i] := UInt8.toNat_inj.1 (by omega)
    have aDv : k.take (i + 1) = l.take (i + 1) := by rw [List.take_succ_eq_append_getElem (by omega), List.take_succ_eq_append_getElem (by omega), hpre, heq]
    refine WE.skip (WE.eM (WL.mv rfl rfl (WL.pv (PV.bZ rfl rfl rfl (by omega) (by omega)) rfl (WL.as rfl rfl (WL.nil ?_)))))
    exact ⟨i + 1, (by repeat (first | with_reducible exact bQ.refl _ _ | refine bQ.dB rfl ?_ | refine bQ.cE rfl ?_ | refine bQ.cB rfl ?_)), ⟨rfl, trivial⟩, rfl, ⟨by omega, aDv, H⟩, (by omega)⟩
 ·
  try simp only [bW] at yS
  have aHx : i = 32 := by omega
  refine WE.exit (WE.aA (WL.as rfl rfl (WL.nil (WE.ret ⟨[_], _, .nil _, ⟨rfl, trivial⟩, ?_⟩))))
  refine ⟨?_, H.aM⟩
  have e : k = l := by rw [← List.take_of_length_le (show k.length ≤ i by omega), ← List.take_of_length_le (show l.length ≤ i by omega), hpre]
  rw [e, gP, if_neg (by omega), if_neg (by omega)]; rfl
theorem aID {X : Nat → Prop} {w : World} {s : Value} {m : List En} {d b : Nat} (hX : cW X w) (bU : aH X (gE s m) w) (pW : KL m) (gC : o4 m) (hlen : m.length ≤ 1000000) (hd : d < 256) :
  bD Tryz.prog 66 [s, .int .i64 (d : Int), .int .i64 (b : Int)].toArray w fun v w' => Out Nil w w' ∧ aH X (gE v (bR m d b)) w' := by
 refine bD.aI (N := 32) Tryz.func66 rfl rfl (by simp) ?_
 have H := St.begin hX
 replace H := H.add (cF bU)
 refine WE.aA (WL.as rfl rfl (WL.nil (WE.aA (WL.as rfl rfl (WL.nil (WE.seq (WE.aA ?_)))))))
 refine WL.as rfl rfl (WL.nil (WE.block ?_))
 replace H := H.lG 111 33
 refine WE.loop (α := Nat × Value) [7, 8, 9, 10, 11, 12, 13, 14, 15, 16, 17, 18, 19, 20, 21, 22, 23, 24, 25, 26, 27, 28, 29, 30] (fun p => [(8, .int .i64 p.1), (7, p.2)]) (fun p wl => p.1 ≤ m.length ∧ St X w wl [] [aO.iA w.heap.size p.2 111 33 (bR (m.take p.1) d b).length ((bR (m.take p.1) d b).flatMap o6)] [gE s m]) (fun p => m.length - p.1) (0, .slice none 0 0) ⟨rfl, rfl, trivial⟩ ⟨Nat.zero_le _, H⟩ ?_
 intro ⟨k, v⟩ γ0 w1 hI
 try dsimp only at hI
 obtain ⟨hk, H⟩ := hI
 refine WE.seq (WE.aA (WL.mv rfl rfl (WL.mv rfl rfl (WL.pv (PV.dO (H.p 0 rfl : gE s m _) s7 rfl) rfl (WL.pv (PV.lss rfl rfl rfl) rfl (WL.nil ?_))))))
 refine WE.cond rfl (fun kW => ?_) (fun kW => ?_)
 ·
  try simp only [bW] at kW
  have hlt : k < m.length := by omega
  have hE : (o6 m[k]).length = 1 * 33 := kE (pW _ (List.getElem_mem hlt))
  have hE2 : (o6 m[k]).length = 33 := hE
  have hkk := pW _ (List.getElem_mem hlt)
  have vC : (bR (m.take k) d b).length ≤ k := Nat.le_trans (List.length_filter_le _ _) (by simp; omega)
  have hS := F4 m d b k hlt
  have hB : MH m[k].k (d : Int) = (bH m[k].k d : Int) := by rw [MH, if_neg (by omega), Int.toNat_natCast]
  refine WE.skip ?_
  refine WE.cut (α := Value) [7, 15, 16, 17, 18, 19, 20, 21, 22, 23, 24, 25, 26, 27, 28, 29, 30] (fun nF => [(7, nF)]) (fun nF wl => St X w wl [] [aO.iA w.heap.size nF 111 33 (bR (m.take (k + 1)) d b).length ((bR (m.take (k + 1)) d b).flatMap o6)] [gE s m]) ?_ ?_
  ·
   refine WE.block (WE.aA (WL.mv rfl rfl (WL.mv rfl rfl (WL.pv (PV.eQ rfl (H.p 0 rfl : gE s m _) s7 fL rfl rfl (by omega) (by omega)) rfl (WL.pv (PV.dL rfl gW rfl) rfl ?_)))))
   refine WL.bG rfl cU rfl rfl (gE.rdk (H.p 0 rfl) pW k hlt) (cI cN (by simp only [aR, aU]; omega)) ?_
   refine WL.mv rfl rfl ?_
   refine WL.call aFH rfl (OO (l := m[k].k) (i := (d : Int)) H.aS hkk (by omega)) ?_
   rintro _ w2 ⟨rfl, hO⟩
   replace H := H.out hO
   refine WL.mv rfl rfl (WL.pv (PV.eql rfl rfl rfl) rfl (WL.nil ?_))
   refine WE.cond rfl (fun lH => ?_) (fun lH => ?_)
   ·
    try simp only [bW] at lH
    rw [if_pos (by omega)] at hS
    refine WE.eM (WL.mv rfl rfl (WL.mv rfl rfl (WL.mv rfl rfl (WL.pv (PV.eQ rfl (H.p 0 rfl : gE s m _) s7 fL rfl rfl (by omega) (by omega)) rfl ?_))))
    refine WL.bG rfl oS rfl rfl (gE.rd (H.p 0 rfl) pW k hlt) (by (rw [fL]; refine congrArg some ?_; (simp [aN, bA, *]; done))) ?_
    refine WL.bJ (l0 := ((kc (List.replicate 32 0) ++ ([.slice none 0 0])))) H rfl yJ (by decide) (by rfl) (Fl.cons rfl (by rfl) (by simp only [aR, aU]; omega) (Laid.all (by simp only [aR, aU]; omega)) Fl.nil) rfl ?_
    intro b29 w3 H
    refine WL.append (m := 1) H 1 yJ (by decide) rfl rfl rfl (cS.cA (n := 1) (H.l 0 rfl) hE) (r7 (gC _ (List.getElem_mem hlt))) (by omega) (by decide) rfl ?_
    intro v30 w4 H
    have BS := congrArg List.length hS
    rw [List.length_append, show [m[k]].length = 1 from rfl] at BS
    have D6 := congrArg (List.flatMap o6) hS
    rw [List.flatMap_append, List.flatMap_singleton] at D6
    replace H := H.forget 0
    replace H := H.conv (L' := [aO.iA w.heap.size v30 111 33 (bR (m.take (k + 1)) d b).length ((bR (m.take (k + 1)) d b).flatMap o6)]) (by rw [BS, D6]; rfl)
    refine WL.as rfl rfl (WL.nil ?_)
    exact ⟨v30, (by repeat (first | with_reducible exact bQ.refl _ _ | refine bQ.dB rfl ?_)), ⟨rfl, trivial⟩, rfl, H⟩
   ·
    try simp only [bW] at lH
    rw [if_neg (by omega), List.append_nil] at hS
    refine WE.skip ?_
    exact ⟨v, (by repeat (first | with_reducible exact bQ.refl _ _ | refine bQ.dB rfl ?_)), ⟨rfl, trivial⟩, rfl, H.conv (by rw [hS])⟩
  ·
   intro nF γ w5 hI
   try dsimp only at hI
   replace H := hI
   refine WE.eM (WL.mv rfl rfl (WL.pv (PV.bZ rfl rfl rfl (by omega) (by omega)) rfl (WL.as rfl rfl (WL.nil ?_))))
   exact ⟨(k + 1, nF), (by repeat (first | with_reducible exact bQ.refl _ _ | refine bQ.dB rfl ?_ | refine bQ.cE rfl ?_ | refine bQ.cB rfl ?_)), ⟨rfl, rfl, trivial⟩, rfl, ⟨by dsimp only; omega, H⟩, (by dsimp only; omega)⟩
 ·
  try simp only [bW] at kW
  have TT : m.take k = m := List.take_of_length_le (by omega)
  refine WE.exit (WE.aA (WL.mv rfl rfl (WL.as rfl rfl (WL.nil (WE.ret ⟨[_], _, .nil _, ⟨rfl, trivial⟩, ?_⟩)))))
  replace H := H.freeze (i := 0) rfl
  exact ⟨H.aM, H.gU ((H.bN 0 rfl).imp fun _ h => by rw [TT] at h; exact cS.eH h)⟩
theorem xZ {X : Nat → Prop} {w : World} {s : Value} {m : List En} {q : List UInt8} (hX : cW X w) (bU : aH X (gE s m) w) (pW : KL m) (gC : o4 m) (hlen : m.length ≤ 1000000) (hq : q.length = 32) :
  bD Tryz.prog 47 [s, .agg (kc q).toArray].toArray w fun v w' => Out Nil w w' ∧ aH X (gE v (eY m q)) w' := by
 refine bD.aI (N := 28) Tryz.func47 rfl rfl (by simp) ?_
 have H := St.begin hX
 replace H := H.add (cF bU)
 refine WE.aA ?_
 refine WL.box (l := kc q) H rfl (by rfl) rfl ?_
 intro b3 w1 H
 refine WL.as rfl rfl (WL.nil (WE.aA (WL.as rfl rfl (WL.nil (WE.seq (WE.aA (WL.as rfl rfl ?_)))))))
 refine WL.nil (WE.block ?_)
 replace H := H.lG 111 33
 refine WE.loop (α := Nat × Value) [5, 6, 7, 8, 9, 10, 11, 12, 13, 14, 15, 16, 17, 18, 19, 20, 21, 22, 23, 24, 25, 26] (fun p => [(6, .int .i64 p.1), (5, p.2)]) (fun p wl => p.1 ≤ m.length ∧ St X w wl [] [aO.iA w.heap.size p.2 111 33 (eY (m.take p.1) q).length ((eY (m.take p.1) q).flatMap o6), aO.blk b3 24 (kc q)] [gE s m]) (fun p => m.length - p.1) (0, .slice none 0 0) ⟨rfl, rfl, trivial⟩ ⟨Nat.zero_le _, H⟩ ?_
 intro ⟨k, v⟩ γ0 w2 hI
 try dsimp only at hI
 obtain ⟨hk, H⟩ := hI
 refine WE.seq (WE.aA (WL.mv rfl rfl (WL.mv rfl rfl (WL.pv (PV.dO (H.p 0 rfl : gE s m _) s7 rfl) rfl (WL.pv (PV.lss rfl rfl rfl) rfl (WL.nil ?_))))))
 refine WE.cond rfl (fun kS => ?_) (fun kS => ?_)
 ·
  try simp only [bW] at kS
  have hlt : k < m.length := by omega
  have hE : (o6 m[k]).length = 1 * 33 := kE (pW _ (List.getElem_mem hlt))
  have hE2 : (o6 m[k]).length = 33 := hE
  have hkk := pW _ (List.getElem_mem hlt)
  have vC : (eY (m.take k) q).length ≤ k := Nat.le_trans (List.length_filter_le _ _) (by simp; omega)
  have hS := OI m q k hlt
  refine WE.skip ?_
  refine WE.cut (α := Value) [5, 13, 14, 15, 16, 17, 18, 19, 20, 21, 22, 23, 24, 25, 26] (fun nF => [(5, nF)]) (fun nF wl => St X w wl [] [aO.iA w.heap.size nF 111 33 (eY (m.take (k + 1)) q).length ((eY (m.take (k + 1)) q).flatMap o6), aO.blk b3 24 (kc q)] [gE s m]) ?_ ?_
  ·
   refine WE.block ?_
   refine WE.bF (.take 0 (.take 1 (.take 2 (.take 3 (.take 4 (.take 5 (.take 6 .done))))))) mixed (by kernel_rfl) ?_
   replace H := H.out (Out.drew _)
   refine WP.mv rfl rfl rfl (WP.mv rfl rfl rfl (WP.aC rfl rfl (PV.eQ rfl (H.p 0 rfl : gE s m _) s7 fL rfl rfl (by omega) (by omega)) (WP.aC rfl rfl (PV.dL rfl gW rfl) ?_)))
   refine WP.dF rfl rfl rfl cU rfl (gE.rdk (H.p 0 rfl) pW k hlt) (cI cN (by simp only [aR, aU]; omega)) ?_
   refine WP.dF rfl rfl rfl cU rfl (by exact aK.aF (H.l 1 rfl) (aJ.all _) (by rfl)) (cI cN (by simp only [aR, aU]; omega)) ?_
   refine WP.aC rfl rfl (PV.PD rfl gQ pI iB (by kernel_rfl) rfl rfl (by assumption) (by assumption)) (WP.done ?_)
   refine WE.cond rfl (fun jJ => ?_) (fun jJ => ?_)
   ·
    try simp only [bW] at jJ
    rw [if_pos jJ] at hS
    refine WE.eM (WL.mv rfl rfl (WL.mv rfl rfl (WL.mv rfl rfl (WL.pv (PV.eQ rfl (H.p 0 rfl : gE s m _) s7 fL rfl rfl (by omega) (by omega)) rfl ?_))))
    refine WL.bG rfl oS rfl rfl (gE.rd (H.p 0 rfl) pW k hlt) (by (rw [fL]; refine congrArg some ?_; (simp [aN, bA, *]; done))) ?_
    refine WL.bJ (l0 := ((kc (List.replicate 32 0) ++ ([.slice none 0 0])))) H rfl yJ (by decide) (by rfl) (Fl.cons rfl (by rfl) (by simp only [aR, aU]; omega) (Laid.all (by simp only [aR, aU]; omega)) Fl.nil) rfl ?_
    intro b25 w3 H
    refine WL.append (m := 1) H 1 yJ (by decide) rfl rfl rfl (cS.cA (n := 1) (H.l 0 rfl) hE) (r7 (gC _ (List.getElem_mem hlt))) (by omega) (by decide) rfl ?_
    intro v26 w4 H
    have BS := congrArg List.length hS
    rw [List.length_append, show [m[k]].length = 1 from rfl] at BS
    have D6 := congrArg (List.flatMap o6) hS
    rw [List.flatMap_append, List.flatMap_singleton] at D6
    replace H := H.forget 0
    replace H := H.conv (L' := [aO.iA w.heap.size v26 111 33 (eY (m.take (k + 1)) q).length ((eY (m.take (k + 1)) q).flatMap o6), aO.blk b3 24 (kc q)]) (by rw [BS, D6]; rfl)
    refine WL.as rfl rfl (WL.nil ?_)
    exact ⟨v26, (by repeat (first | with_reducible exact bQ.refl _ _ | refine bQ.dB rfl ?_)), ⟨rfl, trivial⟩, rfl, H⟩
   ·
    try simp only [bW] at jJ
    rw [if_neg (by simp [jJ]), List.append_nil] at hS
    refine WE.skip ?_
    exact ⟨v, (by repeat (first | with_reducible exact bQ.refl _ _ | refine bQ.dB rfl ?_)), ⟨rfl, trivial⟩, rfl, H.conv (by rw [hS])⟩
  ·
   intro nF γ w5 hI
   try dsimp only at hI
   replace H := hI
   refine WE.eM (WL.mv rfl rfl (WL.pv (PV.bZ rfl rfl rfl (by omega) (by omega)) rfl (WL.as rfl rfl (WL.nil ?_))))
   exact ⟨(k + 1, nF), (by repeat (first | with_reducible exact bQ.refl _ _ | refine bQ.dB rfl ?_ | refine bQ.cE rfl ?_ | refine bQ.cB rfl ?_)), ⟨rfl, rfl, trivial⟩, rfl, ⟨by dsimp only; omega, H⟩, (by dsimp only; omega)⟩
 ·
  try simp only [bW] at kS
  have TT : m.take k = m := List.take_of_length_le (by omega)
  refine WE.exit (WE.aA (WL.mv rfl rfl (WL.as rfl rfl (WL.nil (WE.ret ⟨[_], _, .nil _, ⟨rfl, trivial⟩, ?_⟩)))))
  replace H := H.freeze (i := 0) rfl
  exact ⟨H.aM, H.gU ((H.bN 0 rfl).imp fun _ h => by rw [TT] at h; exact cS.eH h)⟩
def PF (e : En) (M : List En) (k : Nat) : List En × Bool := (M.take k).foldl (n4 e) ([], false)
def PA (e : En) (M : List En) (k : Nat) : List En × Bool := if (PF e M k).2 = false ∧ num e.k < num (M.getD k e).k then ((PF e M k).1 ++ [e], true) else PF e M k
theorem BU {M : List En} {k : Nat} {e : En} (h : k < M.length) : M.getD k e = M[k] := by rw [List.getD_eq_getElem?_getD, List.getElem?_eq_getElem h]; rfl
theorem KE (e : En) (M : List En) (k : Nat) (h : k < M.length) : PF e M (k + 1) = ((PA e M k).1 ++ [M[k]], (PA e M k).2) := by
 unfold PF PA
 rw [List.take_succ_eq_append_getElem h, List.foldl_append, List.foldl_cons, List.foldl_nil, BU h]
 show n4 e (PF e M k) _ = _
 unfold n4
 split <;> simp
theorem HR (e : En) (M : List En) (k : Nat) : (PF e M k).1.length ≤ k + 1 := by
 have h : ∀ (l out : List En) (b : Bool), (l.foldl (n4 e) (out, b)).1.length ≤ out.length + l.length + (if b then 0 else 1) := by
  intro l
  induction l with
  | nil => intro out b; simp
  | cons x l ih =>
   intro out b
   rw [List.foldl_cons]
   by_cases hb : b = false ∧ num e.k < num x.k
   ·
    have : n4 e (out, b) x = (out ++ [e, x], true) := by simp [n4, hb]
    rw [this]
    have := ih (out ++ [e, x]) true
    simp [hb.1] at this ⊢; omega
   ·
    have : n4 e (out, b) x = (out ++ [x], b) := by unfold n4; rw [if_neg hb]
    rw [this]
    have := ih (out ++ [x]) b
    simp at this ⊢; omega
 have := h (M.take k) [] false
 simp at this
 unfold PF
 omega
theorem aB1 (e : En) (M : List En) (k : Nat) : (PA e M k).1.length ≤ k + 2 := by
 have := HR e M k
 unfold PA; split <;> simp <;> omega
theorem aB0 (e : En) (M : List En) : gL M e = (if (PF e (eY M e.k) (eY M e.k).length).2 = true then (PF e (eY M e.k) (eY M e.k).length).1 else (PF e (eY M e.k) (eY M e.k).length).1 ++ [e]) := by
 have := OR e (eY M e.k) []
 unfold gL PF
 rw [List.take_length, List.nil_append] at *
 rw [← this]
 cases ((eY M e.k).foldl (n4 e) ([], false)).2 <;> rfl
theorem OK {m : List En} {k : List UInt8} (h : KL m) : KL (eY m k) := fun e he => h e (iO.1 he).1
theorem UP {m : List En} {k : List UInt8} (h : o4 m) : o4 (eY m k) := fun e he => h e (iO.1 he).1
theorem u9 (m : List En) (k : List UInt8) : (eY m k).length ≤ m.length := List.length_filter_le _ _
theorem aAi {X : Nat → Prop} {w : World} {s vs : Value} {m : List En} {q vv : List UInt8} (hX : cW X w) (bU : aH X (gE s m) w) (dA : aH X (bI vs vv) w) (pW : KL m) (gC : o4 m) (hlen : m.length ≤ 1000000) (hq : q.length = 32) :
  bD Tryz.prog 44 [s, .agg (kc q).toArray, vs].toArray w fun v w' => Out Nil w w' ∧ aH X (gE v (gL m (En.mk q vs vv))) w' := by
 refine bD.aI (N := 54) Tryz.func44 rfl rfl (by simp) ?_
 have H := St.begin hX
 replace H := H.add (cF dA)
 replace H := H.add (cF bU)
 refine WE.aA ?_
 refine WL.box (l := kc q) H rfl (by rfl) rfl ?_
 intro b4 w1 H
 refine WL.as rfl rfl (WL.nil (WE.aA (WL.as rfl rfl (WL.nil (WE.aA (WL.as rfl rfl (WL.nil ?_)))))))
 refine WE.aA (WL.mv rfl rfl ?_)
 refine WL.bG rfl cU rfl rfl (by exact aK.aF (H.l 0 rfl) (aJ.all _) (by rfl)) (cI cN (by simp only [aR, aU]; omega)) ?_
 refine WL.call aBx rfl (xZ  H.aS (by exact H.bN 0 rfl) (by assumption) (by assumption) (by assumption) (by assumption)) ?_
 rintro v13 w2 ⟨hO, hR⟩
 replace H := (H.out hO).add hR
 refine WL.as rfl rfl (WL.nil (WE.seq (WE.aA (WL.as rfl rfl (WL.nil (WE.block ?_))))))
 have VT := OK (k := q) pW
 have aDw := UP (k := q) gC
 have hlM := u9 m q
 have hvs : vs.oneCell' = true := cS.fG (H.p 2 rfl : bI vs vv _)
 replace H := H.lG 111 33
 refine WE.loop (α := Nat × Value) [7, 8, 10, 14, 15, 16, 17, 18, 19, 20, 21, 22, 23, 24, 25, 26, 27, 28, 29, 30, 31, 32, 33, 34, 35, 36, 37, 38, 39, 40, 41, 42, 43, 44] (fun p => [(10, .int .i64 p.1), (7, p.2), (8, .bool (PF (En.mk q vs vv) (eY m q) p.1).2)]) (fun p wl => p.1 ≤ (eY m q).length ∧ St X w wl [] [aO.iA w.heap.size p.2 111 33 ((PF (En.mk q vs vv) (eY m q) p.1).1).length (((PF (En.mk q vs vv) (eY m q) p.1).1).flatMap o6), aO.blk b4 24 (kc q)] [gE v13 (eY m q), gE s m, bI vs vv]) (fun p => (eY m q).length - p.1) (0, .slice none 0 0) ⟨rfl, rfl, rfl, trivial⟩ ⟨Nat.zero_le _, H⟩ ?_
 intro ⟨k, v⟩ γ0 w3 hI
 try dsimp only at hI
 obtain ⟨hk, H⟩ := hI
 refine WE.seq (WE.aA (WL.mv rfl rfl (WL.mv rfl rfl (WL.pv (PV.dO (H.p 0 rfl : gE _ (eY m q) _) s7 rfl) rfl (WL.pv (PV.lss rfl rfl rfl) rfl (WL.nil ?_))))))
 refine WE.cond rfl (fun iC => ?_) (fun iC => ?_)
 ·
  try simp only [bW] at iC
  have hlt : k < (eY m q).length := by omega
  have hE : (o6 (eY m q)[k]).length = 1 * 33 := kE (VT _ (List.getElem_mem hlt))
  have hE2 : (o6 (eY m q)[k]).length = 33 := hE
  have hkk := VT _ (List.getElem_mem hlt)
  have vC := HR (En.mk q vs vv) (eY m q) k
  have aJh := aB1 (En.mk q vs vv) (eY m q) k
  have hq1 : (o6 (En.mk q vs vv)).length = 1 * 33 := kE hq
  have VP : (o6 (En.mk q vs vv)).length = 33 := hq1
  refine WE.skip (WE.seq (WE.block ?_))
  refine WE.cut (α := Value × Bool) [7, 8, 20, 21, 22, 23, 24, 25, 26, 27, 28, 29, 30, 31, 32, 33, 34, 35, 36, 37] (fun nF => [(7, nF.1), (8, .bool nF.2)]) (fun nF wl => nF.2 = (PA (En.mk q vs vv) (eY m q) k).2 ∧ St X w wl [] [aO.iA w.heap.size nF.1 111 33 ((PA (En.mk q vs vv) (eY m q) k).1).length (((PA (En.mk q vs vv) (eY m q) k).1).flatMap o6), aO.blk b4 24 (kc q)] [gE v13 (eY m q), gE s m, bI vs vv]) ?_ ?_
  ·
   refine WE.bF (.take 0 (.take 1 (.take 2 (.take 3 (.take 4 (.take 5 (.take 6 (.take 7 (.take 8 (.aG 9 (.take 10 (.take 11 .done)))))))))))) mixed (by kernel_rfl) ?_
   replace H := H.out (Out.drew _)
   refine WP.mv rfl rfl rfl (WP.aC rfl rfl (PV.not rfl rfl) (WP.mv rfl rfl rfl ?_))
   refine WP.split (t := 22) rfl (fun sE => ?_) (fun sE => ?_)
   ·
    refine WP.known (t := 21) (c := true) rfl sE ?_
    try simp only [bW] at sE
    refine WP.dF rfl rfl rfl cU rfl (by exact aK.aF (H.l 1 rfl) (aJ.all _) (by rfl)) (cI cN (by simp only [aR, aU]; omega)) ?_
    refine WP.mv rfl rfl rfl (WP.mv rfl rfl rfl ?_)
    refine WP.aC rfl rfl (PV.eQ rfl (by exact H.p 0 rfl : gE _ (eY m q) _) s7 fL rfl rfl (by omega) (by omega)) ?_
    refine WP.aC rfl rfl (PV.dL rfl gW rfl) ?_
    refine WP.dF rfl rfl rfl cU rfl (gE.rdk (H.p 0 rfl) VT k hlt) (cI cN (by simp only [aR, aU]; omega)) ?_
    refine WP.aG rfl ?_
    refine WL.call aHT rfl (A3  H.aS  (by assumption) (by assumption)) ?_
    rintro _ w4 ⟨rfl, hO⟩
    replace H := H.out hO
    refine WL.nil ⟨(fa (nw 9 8 (by decide +kernel)) (fa (nw 9 3 (by decide +kernel)) cV)), ?_⟩
    refine WP.aC rfl rfl (PV.lss rfl rfl rfl) (WP.aC rfl rfl (PV.dH rfl rfl rfl) (WP.done ?_))
    refine WE.cond rfl (fun j9 => ?_) (fun j9 => ?_)
    ·
     try simp only [bW] at j9
     have hif : (PF (En.mk q vs vv) (eY m q) k).2 = false ∧ num q < num (eY m q)[k].k := by exact ⟨by simpa using sE, lL.1 (by simpa using j9)⟩
     have ZJ : (PA (En.mk q vs vv) (eY m q) k) = ((PF (En.mk q vs vv) (eY m q) k).1 ++ [(En.mk q vs vv)], true) := by rw [PA, if_pos (by rw [BU hlt]; exact hif)]
     have hS : (PA (En.mk q vs vv) (eY m q) k).1 = (PF (En.mk q vs vv) (eY m q) k).1 ++ [(En.mk q vs vv)] := by rw [ZJ]
     refine WE.aA (WL.mv rfl rfl ?_)
     refine WL.bG rfl cU rfl rfl (by exact aK.aF (H.l 1 rfl) (aJ.all _) (by rfl)) (cI cN (by simp only [aR, aU]; omega)) ?_
     refine WL.mv rfl rfl ?_
     refine WL.pv (PV.dD rfl wJ kL (Fl.cons rfl (by rfl) (by simp only [aR, aU]; omega) (Laid.left (Laid.all (by simp only [aR, aU]; omega))) (Fl.cons rfl (cS.cells (H.p 2 rfl : bI vs vv _)) (by simp only [aR, aU]) (Laid.right (Laid.all (by simp only [aR, aU])) (by simp only [aR, aU]; omega)) Fl.nil))) rfl ?_
     refine WL.bJ (l0 := ((kc (List.replicate 32 0) ++ ([.slice none 0 0])))) H rfl yJ (by decide) (by rfl) (Fl.cons rfl (by rfl) (by simp only [aR, aU]; omega) (Laid.all (by simp only [aR, aU]; omega)) Fl.nil) rfl ?_
     intro b36 w5 H
     refine WL.append (m := 1) H 1 yJ (by decide) rfl rfl rfl (cS.cA (n := 1) (H.l 0 rfl) hq1) (r7 (e := (En.mk q vs vv)) hvs) (by omega) (by decide) rfl ?_
     intro v37 w6 H
     have BS := congrArg List.length hS
     rw [List.length_append, show [(En.mk q vs vv)].length = 1 from rfl] at BS
     have D6 := congrArg (List.flatMap o6) hS
     rw [List.flatMap_append, List.flatMap_singleton] at D6
     replace H := H.forget 0
     replace H := H.conv (L' := [aO.iA w.heap.size v37 111 33 ((PA (En.mk q vs vv) (eY m q) k).1).length (((PA (En.mk q vs vv) (eY m q) k).1).flatMap o6), aO.blk b4 24 (kc q)]) (by rw [BS, D6]; rfl)
     refine WL.as rfl rfl (WL.nil (WE.eM (WL.as rfl rfl (WL.nil ?_))))
     exact ⟨(v37, true), (by repeat (first | with_reducible exact bQ.refl _ _ | refine bQ.dB rfl ?_)), ⟨rfl, rfl, trivial⟩, rfl, ⟨by rw [ZJ], H⟩⟩
    ·
     try simp only [bW] at j9
     have ZJ : (PA (En.mk q vs vv) (eY m q) k) = PF (En.mk q vs vv) (eY m q) k := by rw [PA, if_neg (by rw [BU hlt]; rintro ⟨h1, h2⟩; (have h3 := lL.2 (show num q < num (eY m q)[k].k from h2); omega))]
     refine WE.skip ?_
     exact ⟨(v, (PF (En.mk q vs vv) (eY m q) k).2), (by repeat (first | with_reducible exact bQ.refl _ _ | refine bQ.dB rfl ?_)), ⟨rfl, rfl, trivial⟩, rfl, ⟨by rw [ZJ], H.conv (by rw [ZJ])⟩⟩
   ·
    refine WP.known (t := 21) (c := false) rfl sE ?_
    try simp only [bW] at sE
    have ZJ : (PA (En.mk q vs vv) (eY m q) k) = PF (En.mk q vs vv) (eY m q) k := by rw [PA, if_neg (by rw [sE]; rintro ⟨h1, _⟩; cases h1)]
    refine WP.dP rfl rfl (WP.dP rfl rfl (WP.dP rfl rfl (WP.dP rfl rfl (WP.dP rfl rfl (WP.dP rfl rfl (WP.aG rfl (WL.off rfl ?_)))))))
    refine WL.nil ⟨cV, ?_⟩
    refine WP.dP rfl rfl (WP.aC rfl rfl (PV.c5 rfl rfl rfl) (WP.done (WE.iJ rfl (WE.skip ?_))))
    exact ⟨(v, (PF (En.mk q vs vv) (eY m q) k).2), (by repeat (first | with_reducible exact bQ.refl _ _ | refine bQ.dB rfl ?_)), ⟨rfl, rfl, trivial⟩, rfl, ⟨by rw [ZJ], H.conv (by rw [ZJ])⟩⟩
  ·
   intro ⟨g1v, g1b⟩ γ w7 hI
   try dsimp only at hI
   obtain ⟨aDL, H⟩ := hI
   have hPS := congrArg Prod.snd (KE (En.mk q vs vv) (eY m q) k hlt)
   dsimp only at hPS
   rw [← hPS] at aDL
   subst aDL
   refine WE.eM (WL.mv rfl rfl (WL.mv rfl rfl (WL.mv rfl rfl ?_)))
   refine WL.pv (PV.eQ rfl (by exact H.p 0 rfl : gE _ (eY m q) _) s7 fL rfl rfl (by omega) (by omega)) rfl ?_
   refine WL.bG rfl oS rfl rfl (gE.rd (H.p 0 rfl) VT k hlt) (by (rw [fL]; refine congrArg some ?_; (simp [aN, bA, *]; done))) ?_
   refine WL.bJ (l0 := ((kc (List.replicate 32 0) ++ ([.slice none 0 0])))) H rfl yJ (by decide) (by rfl) (Fl.cons rfl (by rfl) (by simp only [aR, aU]; omega) (Laid.all (by simp only [aR, aU]; omega)) Fl.nil) rfl ?_
   intro b43 w8 H
   have hS := congrArg Prod.fst (KE (En.mk q vs vv) (eY m q) k hlt)
   dsimp only at hS
   refine WL.append (m := 1) H 1 yJ (by decide) rfl rfl rfl (cS.cA (n := 1) (H.l 0 rfl) hE) (r7 (aDw _ (List.getElem_mem hlt))) (by omega) (by decide) rfl ?_
   intro v44 w9 H
   have BS := congrArg List.length hS
   rw [List.length_append, show [(eY m q)[k]].length = 1 from rfl] at BS
   have D6 := congrArg (List.flatMap o6) hS
   rw [List.flatMap_append, List.flatMap_singleton] at D6
   replace H := H.forget 0
   replace H := H.conv (L' := [aO.iA w.heap.size v44 111 33 ((PF (En.mk q vs vv) (eY m q) (k + 1)).1).length (((PF (En.mk q vs vv) (eY m q) (k + 1)).1).flatMap o6), aO.blk b4 24 (kc q)]) (by rw [BS, D6]; rfl)
   refine WL.as rfl rfl (WL.nil (WE.eM (WL.mv rfl rfl (WL.pv (PV.bZ rfl rfl rfl (by omega) (by omega)) rfl (WL.as rfl rfl (WL.nil ?_))))))
   exact ⟨(k + 1, v44), (by repeat (first | with_reducible exact bQ.refl _ _ | refine bQ.dB rfl ?_ | refine bQ.cE rfl ?_ | refine bQ.cB rfl ?_)), ⟨rfl, rfl, rfl, trivial⟩, rfl, ⟨by dsimp only; omega, H⟩, (by dsimp only; omega)⟩
 ·
  try simp only [bW] at iC
  have TT : k = (eY m q).length := by omega
  have vC := HR (En.mk q vs vv) (eY m q) k
  have hq1 : (o6 (En.mk q vs vv)).length = 1 * 33 := kE hq
  have VP : (o6 (En.mk q vs vv)).length = 33 := hq1
  have hpe := aB0 (En.mk q vs vv) m
  refine WE.exit (WE.seq (WE.aA (WL.mv rfl rfl (WL.pv (PV.not rfl rfl) rfl (WL.nil ?_)))))
  refine WE.cond rfl (fun QN => ?_) (fun QN => ?_)
  ·
   try simp only [bW] at QN
   have hS : gL m (En.mk q vs vv) = (PF (En.mk q vs vv) (eY m q) k).1 ++ [(En.mk q vs vv)] := by rw [hpe, if_neg (by rw [← TT]; simpa using QN), TT]
   refine WE.eM (WL.mv rfl rfl ?_)
   refine WL.bG rfl cU rfl rfl (by exact aK.aF (H.l 1 rfl) (aJ.all _) (by rfl)) (cI cN (by simp only [aR, aU]; omega)) ?_
   refine WL.mv rfl rfl ?_
   refine WL.pv (PV.dD rfl wJ kL (Fl.cons rfl (by rfl) (by simp only [aR, aU]; omega) (Laid.left (Laid.all (by simp only [aR, aU]; omega))) (Fl.cons rfl (cS.cells (H.p 2 rfl : bI vs vv _)) (by simp only [aR, aU]) (Laid.right (Laid.all (by simp only [aR, aU])) (by simp only [aR, aU]; omega)) Fl.nil))) rfl ?_
   refine WL.bJ (l0 := ((kc (List.replicate 32 0) ++ ([.slice none 0 0])))) H rfl yJ (by decide) (by rfl) (Fl.cons rfl (by rfl) (by simp only [aR, aU]; omega) (Laid.all (by simp only [aR, aU]; omega)) Fl.nil) rfl ?_
   intro b51 vT H
   refine WL.append (m := 1) H 1 yJ (by decide) rfl rfl rfl (cS.cA (n := 1) (H.l 0 rfl) hq1) (r7 (e := (En.mk q vs vv)) hvs) (by omega) (by decide) rfl ?_
   intro v52 y8 H
   have BS := congrArg List.length hS
   rw [List.length_append, show [(En.mk q vs vv)].length = 1 from rfl] at BS
   have D6 := congrArg (List.flatMap o6) hS
   rw [List.flatMap_append, List.flatMap_singleton] at D6
   replace H := H.forget 0
   replace H := H.conv (L' := [aO.iA w.heap.size v52 111 33 (gL m (En.mk q vs vv)).length ((gL m (En.mk q vs vv)).flatMap o6), aO.blk b4 24 (kc q)]) (by rw [BS, D6]; rfl)
   refine WL.as rfl rfl (WL.nil (WE.aA (WL.mv rfl rfl (WL.as rfl rfl (WL.nil (WE.ret ⟨[_], _, .nil _, ⟨rfl, trivial⟩, ?_⟩))))))
   skip
   replace H := H.freeze (i := 0) rfl
   exact ⟨H.aM, H.gU ((H.bN 0 rfl).imp fun _ h => cS.eH h)⟩
  ·
   try simp only [bW] at QN
   have hS2 : gL m (En.mk q vs vv) = (PF (En.mk q vs vv) (eY m q) k).1 := by rw [hpe, if_pos (by rw [← TT]; simpa using QN), TT]
   refine WE.skip (WE.aA (WL.mv rfl rfl (WL.as rfl rfl (WL.nil (WE.ret ⟨[_], _, .nil _, ⟨rfl, trivial⟩, ?_⟩)))))
   rw [← hS2] at H
   replace H := H.freeze (i := 0) rfl
   exact ⟨H.aM, H.gU ((H.bN 0 rfl).imp fun _ h => cS.eH h)⟩
def Sh.fit : Nat → Sh → Prop
 | d, .inner l r => d < 256 ∧ l.fit (d + 1) ∧ r.fit (d + 1)
 | _, _ => True
theorem xD {d : Nat} {m : List En} (h : Pm d m) : (grow d m).fit d :=
 D8 (P := fun d _ s => s.fit d) (fun _ => trivial) (fun _ _ => trivial) (fun _ _ _ hd _ h0 h1 => ⟨hd, h0, h1⟩) _ d m rfl h
theorem nD {d : Nat} {m : List En} (h : Pm d m) : (grow d m).kind = 2 ↔ 2 ≤ m.length := by
 match m, h with
 | [], _ => rw [eD]; simp [Sh.kind]
 | [e], _ => rw [dI]; simp [Sh.kind]
 | a :: b :: m, h =>
  rw [jF d _ (h.lt (by simp)) (by simp)]
  simp [Sh.kind]
def Tr.child (T : Tr) (b : Nat) : Tr := if b = 0 then T.left else T.right
def Tr.step (k : List UInt8) (d : Nat) (T : Tr) : Tr := T.child (bH k d)
def Tr.beside (k : List UInt8) (d : Nat) (T : Tr) : Tr := T.child (1 - bH k d)
def Tr.iF (k : List UInt8) (d : Nat) (T : Tr) : Nat → Tr
 | 0 => T
 | i + 1 => (Tr.iF k d T i).step k (i + d)
def Tr.dp (k : List UInt8) : Nat → Tr → Nat
 | d, .inner _ l r => if bH k d = 0 then Tr.dp k (d + 1) l + 1 else Tr.dp k (d + 1) r + 1
 | _, _ => 0
theorem Tr.nM (k : List UInt8) (T : Tr) : ∀ (i d : Nat), Tr.iF k d T (i + 1) = Tr.iF k (d + 1) (T.step k d) i := by
 intro i
 induction i with
 | zero => intro d; show T.step k (0 + d) = _; rw [Nat.zero_add]; rfl
 | succ i ih =>
  intro d
  show (Tr.iF k d T (i + 1)).step k (i + 1 + d) = (Tr.iF k (d + 1) (T.step k d) i).step k (i + (d + 1))
  rw [ih, show i + 1 + d = i + (d + 1) by omega]
theorem Tr.p7 {k : List UInt8} {d : Nat} {T : Tr} (h : T.er.kind = 2) : T.dp k d = (T.step k d).dp k (d + 1) + 1 := by
 obtain ⟨a, l, r, rfl⟩ := Tr.zQ h
 unfold Tr.step Tr.child
 show (if bH k d = 0 then _ else _) = _
 split <;> rfl
theorem cQ.step {bits : Int} {T : Tr} {w : World} {k : List UInt8} {d : Nat} (h : cQ bits T w) : cQ bits (T.step k d) w := by
 unfold Tr.step Tr.child; split
 ·
  exact h.left
 ·
  exact h.right
theorem cQ.beside {bits : Int} {T : Tr} {w : World} {k : List UInt8} {d : Nat} (h : cQ bits T w) : cQ bits (T.beside k d) w := by
 unfold Tr.beside Tr.child; split
 ·
  exact h.left
 ·
  exact h.right
theorem cQ.iF {bits : Int} {T : Tr} {w : World} {k : List UInt8} {d : Nat} (h : cQ bits T w) : ∀ i, cQ bits (T.iF k d i) w
 | 0 => h
 | i + 1 => (cQ.iF h i).step
theorem Tr.rJ {k : List UInt8} : ∀ (i d : Nat) (T : Tr), i < T.dp k d → (T.iF k d i).er.kind = 2 := by
 intro i
 induction i with
 | zero =>
  intro d T h
  show T.er.kind = 2
  cases T <;> first | rfl | (simp [Tr.dp] at h)
 | succ i ih =>
  intro d T h
  have h2 : T.er.kind = 2 := by
   cases T <;> first | rfl | (simp [Tr.dp] at h)
  rw [Tr.nM]
  rw [Tr.p7 h2] at h
  exact ih _ _ (by omega)
theorem Tr.qA {k : List UInt8} : ∀ (n d : Nat) (T : Tr), T.dp k d = n → (T.iF k d n).er.kind ≠ 2 := by
 intro n
 induction n with
 | zero =>
  intro d T h h2
  have h2' : T.er.kind = 2 := h2
  rw [Tr.p7 h2'] at h
  omega
 | succ n ih =>
  intro d T h
  have h2 : T.er.kind = 2 := by
   cases T <;> first | rfl | (simp [Tr.dp] at h)
  rw [Tr.nM]
  rw [Tr.p7 h2] at h
  exact ih _ _ (by omega)
theorem Tr.tU {k : List UInt8} : ∀ (n d : Nat) (T : Tr), T.dp k d = n → T.er.fit d → d ≤ 256 → d + T.dp k d ≤ 256 := by
 intro n
 induction n with
 | zero => intro d T h _ _; omega
 | succ n ih =>
  intro d T h hf hd
  have h2 : T.er.kind = 2 := by
   cases T <;> first | rfl | (simp [Tr.dp] at h)
  have h' := h
  rw [Tr.p7 h2] at h
  obtain ⟨a, l, r, rfl⟩ := Tr.zQ h2
  have hs : ((Tr.inner a l r).step k d).er.fit (d + 1) := by unfold Tr.step Tr.child; split; exact hf.2.1; exact hf.2.2
  have := ih (d + 1) _ (by omega) hs hf.1
  omega
def B6 (k : List UInt8) (d : Nat) (m : List En) : Nat → List En
 | 0 => m
 | i + 1 => bR (B6 k d m i) (i + d) (bH k (i + d))
theorem grow_step {T : Tr} {d : Nat} {m : List En} (k : List UInt8) (hT : T.er = grow d m) (hp : Pm d m) (h2 : T.er.kind = 2) :
  d < 256 ∧ 2 ≤ m.length ∧ (T.step k d).er = grow (d + 1) (bR m d (bH k d)) ∧ (T.beside k d).er = grow (d + 1) (bR m d (1 - bH k d)) := by
 rw [hT] at h2
 have hm := (nD hp).1 h2
 have hd := hp.lt hm
 rw [jF d m hd hm] at hT
 have hb := eA k d
 cases T with
 | nil => cases hT
 | leaf => cases hT
 | inner a l r =>
  injection hT with h1 h3
  refine ⟨hd, hm, ?_, ?_⟩
  ·
   unfold Tr.step Tr.child
   by_cases h : bH k d = 0
   ·
    rw [if_pos h, h]; exact h1
   ·
    rw [if_neg h, show bH k d = 1 by omega]; exact h3
  ·
   unfold Tr.beside Tr.child
   by_cases h : bH k d = 0
   ·
    rw [h]; exact h3
   ·
    rw [show bH k d = 1 by omega]; exact h1
theorem AM {T : Tr} {d : Nat} {m : List En} {k : List UInt8} (hT : T.er = grow d m) (hp : Pm d m) : ∀ i, i ≤ T.dp k d → (T.iF k d i).er = grow (i + d) (B6 k d m i) ∧ Pm (i + d) (B6 k d m i) := by
 intro i
 induction i with
 | zero => intro _; rw [Nat.zero_add]; exact ⟨hT, hp⟩
 | succ i ih =>
  intro hi
  have h := ih (by omega)
  have hs := grow_step k h.1 h.2 (Tr.rJ i d T (by omega))
  rw [show i + 1 + d = i + d + 1 by omega]
  exact ⟨hs.2.2.1, h.2.part hs.1 _⟩
theorem R6 {T : Tr} {d : Nat} {m : List En} {k : List UInt8} (hT : T.er = grow d m) (hp : Pm d m) {i : Nat} (hi : i < T.dp k d) : 2 ≤ (B6 k d m i).length ∧ i + d < 256 := by
 have h := AM (k := k) hT hp i (by omega)
 have hs := grow_step k h.1 h.2 (Tr.rJ i d T hi)
 exact ⟨hs.2.1, hs.1⟩
theorem B5 {T : Tr} {d : Nat} {m : List En} {k : List UInt8} (hT : T.er = grow d m) (hp : Pm d m) : (B6 k d m (T.dp k d)).length ≤ 1 := by
 have h := AM (k := k) hT hp _ (Nat.le_refl _)
 have h2 := Tr.qA _ d T (rfl : T.dp k d = _)
 rw [h.1] at h2
 have := mt (nD h.2).2 h2
 omega
theorem hZ {m : List En} {d b : Nat} {e : En} : e ∈ bR m d b ↔ e ∈ m ∧ bH e.k d = b := by simp [bR]
def getM (m : List En) (k : List UInt8) : Option En := m.find? fun e => e.k == k
theorem zU {m : List En} {k : List UInt8} {d : Nat} : getM (bR m d (bH k d)) k = getM m k := by
 induction m with
 | nil => rfl
 | cons e m ih =>
  have e1 : bR (e :: m) d (bH k d) = if (bH e.k d == bH k d) = true then e :: bR m d (bH k d) else bR m d (bH k d) := List.filter_cons
  rw [e1]
  by_cases h : e.k = k
  ·
   subst h
   simp [getM]
  ·
   have h' : (e.k == k) = false := by simpa using h
   by_cases hb : (bH e.k d == bH k d) = true
   ·
    rw [if_pos hb]
    show List.find? _ (e :: _) = List.find? _ (e :: _)
    rw [List.find?_cons, List.find?_cons, h']
    exact ih
   ·
    rw [if_neg hb]
    show _ = List.find? _ (e :: _)
    rw [List.find?_cons, h']
    exact ih
theorem BT {m : List En} {k : List UInt8} {d : Nat} : ∀ i, getM (B6 k d m i) k = getM m k
 | 0 => rfl
 | i + 1 => (zU).trans (BT i)
theorem aB (bits : Int) (d : Nat) (m : List En) : (aCY bits d m).length = 32 := gH _ _
def SO (m : List En) : Prop := ∀ e ∈ m, e.v.length ≤ 1000000
theorem DG (m : List En) (d b : Nat) : (bR m d b).length ≤ m.length := List.length_filter_le _ _
theorem Pm.fU {d : Nat} {m : List En} (h : Pm d m) : (grow d m).fU = m.length := nE h
theorem Tr.vA {T : Tr} {k v : List UInt8} (h : T.er = .leaf k v) : ∃ a s, T = .leaf a k v s := by
 cases T with
 | nil => cases h
 | inner => cases h
 | leaf a k' v' s => injection h with h1 h2; subst h1; subst h2; exact ⟨a, s, rfl⟩
theorem Tr.PB {T : Tr} (h : T.er = .nil) : T = .nil := by cases T <;> first | rfl | cases h
theorem KF {X : Nat → Prop} {w : World} {bits : Int} {T : Tr} (hX : cW X w) (bU : aH X (cQ bits T) w) :
  bD Tryz.prog 61 [T.ptr].toArray w fun v w' => ∃ s2, v = .agg (kc T.key ++ [s2]).toArray ∧ Out Nil w w' ∧ w'.ownsRow w.heap.size 5 1 s2 T.val.length (kc T.val) := by
 refine bD.aI (N := 13) Tryz.func61 rfl rfl (by simp) ?_
 have H := St.begin hX
 replace H := H.add (cF bU)
 have hk := cQ.gG (bU.here)
 have hd := Tr.aP bits T
 have JB := cQ.NS (bU.here)
 have hvs := cS.fG (cQ.vsl (bU.here))
 refine WE.aA ?_
 refine WL.alloc H rfl kL rfl ?_
 intro b2 w1 H
 refine WL.nil (WE.aA (WL.mv rfl rfl ?_))
 refine WL.call aEx rfl (I8 (T := T) H.aS (H.bN 0 rfl)) ?_
 rintro _ w2 ⟨rfl, hO⟩
 replace H := H.out hO
 rw [Tr.BD]
 refine WL.alloc H rfl HZ rfl ?_
 intro b3 w3 H
 refine WL.aT H 0 rfl rfl rfl (new := _) rfl (cI CU (by simp only [aR, aU, aB]; omega)) (bO (bO (bK _) (bK _)) (bC _ (by simp [hvs]))) (Laid.at (Laid.all (by simp only [aR, aU, aB]; omega)) (by rfl)) rfl ?_
 intro w4 H
 refine WL.nil ?_
 refine WE.bF (.take 0 (.take 1 (.take 2 (.take 3 (.take 4 (.aG 5 (.take 6 (.aG 7 .done)))))))) mixed (by kernel_rfl) ?_
 replace H := H.out (Out.drew _)
 refine WP.aC rfl rfl (PV.fieldAddr rfl B2 rfl) (WP.aC rfl rfl (PV.fieldAddr rfl kD rfl) ?_)
 refine WP.dF rfl rfl rfl cU rfl (by exact aK.aF (H.l 0 rfl) (aJ.l (aJ.l (aJ.all _))) (by rfl)) (cI cN (by simp only [aR, aU, aB]; omega)) ?_
 refine WP.aC rfl rfl (PV.fieldAddr rfl WA rfl) ?_
 refine WP.aQ rfl rfl (RV.aY rfl eL rfl) (by exact aK.aF (H.l 0 rfl) (aJ.r (aJ.all _) (by with_reducible rfl)) (by (simp [aN, bA, *]; done))) ?_
 refine WP.aG rfl ?_
 refine WL.call Z2 rfl (FF (la := T.val) H.aS ((H.bN 0 rfl).imp fun _ h => h.vsl) (by omega)) ?_
 rintro s2 w5 ⟨hO, gT⟩
 have hs2 := cS.fG (bI.eH gT)
 replace H := H.push hO (aO.iA w.heap.size s2 5 1 _ _) (gB gT H.size) (fun b hb => (gT.lt b hb).1)
 refine WL.nil ⟨(fa (nw 5 4 (by decide +kernel)) (fa (fun _ _ => (by exact aK.aF (H.l 1 rfl) (aJ.l (aJ.l (aJ.all _))) (by rfl))) cV)), ?_⟩
 refine WP.aC rfl rfl (PV.dD rfl wJ kL (Fl.cons rfl (by rfl) (by simp only [aR, aU, aB]; omega) (Laid.left (Laid.all (by simp only [aR, aU, aB]; omega))) (Fl.cons rfl (cells_one hs2) (by simp only [aR, aU, aB]) (Laid.right (Laid.all (by simp only [aR, aU, aB])) (by simp only [aR, aU, aB]; omega)) Fl.nil))) ?_
 refine WP.aG rfl ?_
 refine WL.aT H 2 rfl rfl rfl (new := kc T.key ++ [s2]) rfl (cI fL (by simp only [aR, aU, aB]; omega)) (bO (bK _) (bC _ (by simp [hs2]))) (Laid.at (Laid.all (by simp only [aR, aU, aB]; omega)) (by rfl)) rfl ?_
 intro w6 H
 refine WL.nil ⟨(fa (nw 7 4 (by decide +kernel)) (fa (nw 7 2 (by decide +kernel)) cV)), ?_⟩
 refine WP.done (WE.ret ⟨[_], _, .nil _, ⟨⟨_, rfl, aV oS (by exact aK.aF (H.l 2 rfl) (aJ.all _) rfl) (cI fL (by simp only [aR, aU, aB]; omega))⟩, trivial⟩, ?_⟩)
 exact ⟨s2, rfl, H.aM, H.l 0 rfl⟩
theorem LK (s t : Sh) : (jW s t).fU = s.fU + t.fU := by cases s <;> cases t <;> simp [jW, Sh.fU]
theorem aIr {m : Nat} (h : m < 256) : IntKind.u8.wrap ((BitVec.ofInt IntKind.u8.bits (m : Int) &&& BitVec.ofInt IntKind.u8.bits 1).toNat : Int) = ((m % 2 : Nat) : Int) := by
 rw [IB]
 have e : (BitVec.ofInt IntKind.u8.bits (m : Int) &&& BitVec.ofInt IntKind.u8.bits 1).toNat = m % 2 := by
  show (BitVec.ofInt 8 (m : Int) &&& 1#8).toNat = _
  rw [BitVec.ofInt_natCast, BitVec.toNat_and]
  simp [Nat.and_one_is_mod]
 rw [e]
 omega
theorem jH {X : Nat → Prop} {w : World} {k : List UInt8} {d : Nat} (hX : cW X w) (hk : k.length = 32) (hd : d < 256) :
  bD Tryz.prog 74 [.agg (kc k).toArray, .int .i64 (d : Int)].toArray w fun v w' => v = .int .i64 (bH k d : Int) ∧ Out Nil w w' := by
 refine bD.aI (N := 21) Tryz.func74 rfl rfl (by simp) ?_
 have H := St.begin hX
 have hx := (k.getD (d / 8) 0).toNat_lt
 have hb2 := eA k d
 refine WE.aA ?_
 refine WL.box (l := kc k) H rfl (by rfl) rfl ?_
 intro b2 w1 H
 refine WL.as rfl rfl (WL.nil (WE.seq (WE.aA (WL.mv rfl rfl (WL.pv (PV.lss rfl rfl rfl) rfl (WL.mv rfl rfl ?_))))))
 refine WL.known (t := 7) (c := false) rfl (by (simp; done)) ?_
 refine WL.mv rfl rfl (WL.pv (PV.geq rfl rfl rfl) rfl (WL.pv (PV.c5 rfl rfl rfl) rfl (WL.nil ?_)))
 refine WE.bB rfl (by (simp; omega)) ?_
 refine WE.skip (WE.aA (WL.mv rfl rfl ?_))
 refine WL.pv (PV.eq (v' := .int .i64 ((d / 8 : Nat) : Int)) (PV.zC rfl rfl rfl (by omega) (by omega) (by omega)) (by rfl)) rfl ?_
 refine WL.pv (PV.cG rfl gQ iB rfl rfl (by omega) (by omega)) rfl (WL.aZ rfl B7 rfl rfl (aK.RX (H.l 0 rfl) (d / 8) (by omega) (by omega)) (WL.mv rfl rfl ?_))
 refine WL.pv (PV.eq (v' := .int .i64 ((d % 8 : Nat) : Int)) (PV.uI rfl rfl rfl (by omega) (by omega)) (by rfl)) rfl ?_
 refine WL.pv (PV.eq (v' := .int .i64 ((7 - d % 8 : Nat) : Int)) (PV.iT rfl rfl rfl (by omega) (by omega)) (by (congr 1; omega))) rfl ?_
 refine WL.pv (PV.eq (v' := .int .u8 (((k.getD (d / 8) 0).toNat / 2 ^ (7 - d % 8) : Nat) : Int)) (PV.CZ rfl rfl rfl (by show _ < 8; omega)) rfl) rfl ?_
 refine WL.pv (PV.eq (v' := .int .u8 ((bH k d : Nat) : Int)) (PV.G9 rfl rfl rfl) (congrArg (Value.int .u8) (aIr (Nat.lt_of_le_of_lt (Nat.div_le_self _ _) hx)))) rfl ?_
 refine WL.pv (PV.mL rfl pI yD rfl (by omega) (by omega)) rfl (WL.as rfl rfl (WL.nil (WE.ret ⟨[_], _, .nil _, ⟨rfl, trivial⟩, ?_⟩)))
 exact ⟨rfl, H.aM⟩
theorem qB {X : Nat → Prop} {w : World} {bits : Int} {T : Tr} {b : Nat} (hX : cW X w) (bU : aH X (cQ bits T) w) :
  bD Tryz.prog 73 [T.ptr, .int .i64 (b : Int)].toArray w fun v w' => v = (T.child b).ptr ∧ Out Nil w w' := by
 refine bD.aI (N := 11) Tryz.func73 rfl rfl (by simp) ?_
 have H := St.begin hX
 replace H := H.add (cF bU)
 refine WE.aA (WL.as rfl rfl (WL.nil (WE.seq (WE.aA (WL.mv rfl rfl (WL.pv (PV.eql rfl rfl rfl) rfl (WL.nil ?_)))))))
 refine WE.cond rfl (fun QL => ?_) (fun QL => ?_)
 ·
  try simp only [bW] at QL
  have hb : b = 0 := by omega
  refine WE.aA (WL.mv rfl rfl ?_)
  refine WL.call Z0 rfl (SX (T := T) (bits := bits) H.aS (by exact H.bN 0 rfl) ) ?_
  rintro _ w1 ⟨rfl, hO⟩
  replace H := H.out hO
  refine WL.as rfl rfl (WL.nil (WE.ret ⟨[_], _, .nil _, ⟨rfl, trivial⟩, ?_⟩))
  refine ⟨?_, H.aM⟩
  rw [Tr.child, if_pos hb]; rfl
 ·
  try simp only [bW] at QL
  have hb : b ≠ 0 := by omega
  refine WE.skip (WE.aA (WL.mv rfl rfl ?_))
  refine WL.call ZZ rfl (E7 (T := T) (bits := bits) H.aS (by exact H.bN 0 rfl) ) ?_
  rintro _ w2 ⟨rfl, hO⟩
  replace H := H.out hO
  refine WL.as rfl rfl (WL.nil (WE.ret ⟨[_], _, .nil _, ⟨rfl, trivial⟩, ?_⟩))
  refine ⟨?_, H.aM⟩
  rw [Tr.child, if_neg hb]; rfl
def aGE (T : Tr) (k : List UInt8) (i : Nat) (xs : List Value) (_ : World) : Prop := xs = [.int .i64 (i : Int), (T.iF k 0 i).ptr]
def aGF (b1 b2 : Nat) : Value := .func (.func 111) [].toArray [.pointer (some ⟨b1, 0, none⟩), .pointer (some ⟨b2, 0, none⟩)].toArray
theorem YE {X : Nat → Prop} {w : World} {T : Tr} {k : List UInt8} (hX : cW X w) (hk : k.length = 32) :
  bD Tryz.prog 71 [T.ptr, .agg (kc k).toArray].toArray w fun v w' => ∃ b1 b2, v = aGF b1 b2 ∧ Out Nil w w' ∧ w.heap.size ≤ b1 ∧ aK w' b1 39 [T.ptr] ∧ aH (fun c => X c ∨ c = b1) (fun w => cX w ⟨b2, 0, none⟩ (kc k)) w' := by
 refine bD.aI (N := 6) Tryz.func71 rfl rfl (by simp) ?_
 have H := St.begin hX
 refine WE.aA ?_
 refine WL.box (l := [T.ptr]) H rfl (rfl) rfl ?_
 intro b2 w1 H
 refine WL.box (l := kc k) H rfl (by rfl) rfl ?_
 intro b3 w2 H
 refine WL.as rfl rfl (WL.nil (WE.aA (WL.pv (PV.makeFunc rfl) rfl (WL.as rfl rfl (WL.nil (WE.ret ⟨[_], _, .nil _, ⟨rfl, trivial⟩, ?_⟩))))))
 replace H := H.freeze (i := 0) rfl
 exact ⟨_, _, rfl, H.aM, H.jR _ (List.mem_of_getElem? (i := 0) rfl) _ rfl, H.l 0 rfl, (H.ZO 0 rfl).imp fun _ h => h.rd⟩
theorem CQ {C : Nat → Prop} {w : World} {b1 b2 : Nat} {bits : Int} {T : Tr} {k : List UInt8} (hC : ∀ b, C b → b < w.heap.size) (eR : aK w b1 39 ([T.ptr])) (hn0 : ¬ C b1) (bU : aH (fun c_ => C c_ ∨ c_ = b1) (fun w => cX w ⟨b2, 0, none⟩ (kc k)) w) (dA : aH (fun c_ => C c_ ∨ c_ = b1) (cQ bits T) w) (hk : k.length = 32) (hfit : T.er.fit 0) : XO Tryz.prog 111 [] [.pointer (some ⟨b1, 0, none⟩), .pointer (some ⟨b2, 0, none⟩)] (T.dp k 0 + 1) (aGE T k) (· = b1) C w := by
 intro f J Jx hst pJ aA2 mG hf
 show bD Tryz.prog 111 ([f, .pointer (some ⟨b1, 0, none⟩), .pointer (some ⟨b2, 0, none⟩)] : List Value).toArray w _
 refine bD.aI (N := 21) Tryz.func111 rfl rfl (by simp) ?_
 have H := St.c6 (X := C) (b := b1) (t := 39) (l := [T.ptr]) hC eR
 replace H := H.add (bY dA)
 replace H := H.add (bY bU)
 have yR := Tr.tU (k := k) _ 0 T rfl hfit (by omega)
 refine WE.aA (WL.as rfl rfl (WL.nil (WE.block ?_)))
 refine WE.loop (α := Nat) [4, 5, 6, 7, 8, 9, 10, 11, 12, 13, 14, 15, 16, 17, 18, 19, 20] (fun i => [(4, .int .i64 i)]) (fun i wl => i ≤ T.dp k 0 ∧ J (· = b1) i wl ∧ St C wl wl [aO.blk b1 39 [(T.iF k 0 i).ptr]] [] [fun w => cX w ⟨b2, 0, none⟩ (kc k), cQ bits T]) (fun i => T.dp k 0 - i) 0 ⟨rfl, trivial⟩ ⟨Nat.zero_le _, hst (· = b1) w (Out.refl _ _) (fun _ h => .inl h) (fun _ h => h), H⟩ ?_
 intro i γ0 w1 hI
 try dsimp only at hI
 obtain ⟨hi, hJ, H⟩ := hI
 have BJ : ∃ FP, FP = w1 := ⟨_, rfl⟩
 obtain ⟨FP, BJ⟩ := BJ
 rw [← BJ] at hJ H ⊢
 clear BJ
 refine WE.seq (WE.aA (WL.mv rfl rfl (WL.mv rfl rfl ?_)))
 refine WL.aZ rfl gZ rfl rfl (by exact aK.aF (H.o 0 rfl) (aJ.all _) (by rfl)) ?_
 refine WL.iK rfl rfl (mG (· = b1) i _ FP _ (by omega) hJ H.cM (aH.pure rfl)) ?_
 rintro _ w2 ⟨hk, ⟨rfl, hJ⟩ | ⟨rfl, hJ⟩⟩
 ·
  replace H := St.aBL (Ps := [fun w => cX w ⟨b2, 0, none⟩ (kc k), cQ bits T]) hC hk (fun _ h => .inl h) rfl (H.o 0 rfl) (by intro p hp; simp at hp; rcases hp with rfl | rfl <;> assumption)
  refine WL.mv rfl rfl ?_
  refine WL.aZ rfl gZ rfl rfl (by exact aK.aF (H.o 0 rfl) (aJ.all _) (by rfl)) ?_
  refine WL.call mJ rfl (fC (T := T.iF k 0 i) (bits := bits) H.aS (by exact (H.bN 1 rfl).imp fun _ h => h.iF i) ) ?_
  rintro _ w3 ⟨rfl, hO⟩
  replace H := H.out hO
  refine WL.pv (PV.eql rfl rfl rfl) rfl (WL.pv (PV.dH rfl rfl rfl) rfl (WL.nil ?_))
  refine WE.cond rfl (fun GP => ?_) (fun GP => ?_)
  ·
   try simp only [bW] at GP
   have hlt : i < T.dp k 0 := by rcases Nat.lt_or_ge i (T.dp k 0) with h | h; exact h; exact absurd (show (T.iF k 0 i).er.kind = 2 by exact GP) (by rw [show i = T.dp k 0 by omega]; exact Tr.qA _ 0 T rfl)
   refine WE.skip (WE.seq (WE.block ?_))
   refine WE.draw (.take 0 (.take 1 (.take 2 (.aG 3 (.aG 4 (.aG 5 .done)))))) mixed (by kernel_rfl) ?_
   replace H := H.out (Out.drew _)
   refine WP.aQ rfl rfl (RV.aY rfl gZ rfl) (by exact aK.aF (H.o 0 rfl) (aJ.all _) (by rfl)) ?_
   refine WP.dF rfl rfl rfl cU rfl (H.p 0 rfl) (cI cN (by simp only [aR, aU, aB]; omega)) ?_
   refine WP.mv rfl rfl rfl (WP.aG rfl ?_)
   refine WL.call ED rfl (jH (k := k) (d := i) H.aS  (by assumption) (by omega)) ?_
   rintro _ w4 ⟨rfl, hO⟩
   replace H := H.out hO
   refine WL.nil ⟨(fa (nw 3 1 (by decide +kernel)) (fa (fun _ _ => (by exact aK.aF (H.o 0 rfl) (aJ.all _) (by rfl))) cV)), ?_⟩
   refine WP.aG rfl ?_
   refine WL.call L5 rfl (qB (T := T.iF k 0 i) (bits := bits) (b := bH k i) H.aS (by exact (H.bN 1 rfl).imp fun _ h => h.iF i) ) ?_
   rintro _ w5 ⟨rfl, hO⟩
   replace H := H.out hO
   refine WL.nil ⟨(fa (nw 4 1 (by decide +kernel)) (fa (nw 4 0 (by decide +kernel)) cV)), ?_⟩
   refine WP.aG rfl ?_
   refine WL.kV H 0 rfl rfl rfl (new := _) rfl (by exact lC) (bC _ rfl) (Laid.at (Laid.all (by simp only [aR, aU, aB])) (by rfl)) rfl ?_
   intro w6 H
   refine WL.nil ⟨(fa (nw 5 1 (by decide +kernel)) (fa (nw 5 0 (by decide +kernel)) cV)), ?_⟩
   refine WP.done (WE.eM (WL.mv rfl rfl (WL.pv (PV.bZ rfl rfl rfl (by omega) (by omega)) rfl (WL.as rfl rfl (WL.nil ?_)))))
   exact ⟨i + 1, (by repeat (first | with_reducible exact bQ.refl _ _ | refine bQ.dB rfl ?_ | refine bQ.cE rfl ?_ | refine bQ.cB rfl ?_)), ⟨rfl, trivial⟩, rfl, ⟨by omega, pJ _ _ _ _ hJ H.cM, H.aAG⟩, (by omega)⟩
  ·
   try simp only [bW] at GP
   have aDG : i = T.dp k 0 := by rcases Nat.lt_or_ge i (T.dp k 0) with h | h; exact absurd (Tr.rJ (k := k) i 0 T h) (by exact GP); omega
   refine WE.exit ?_
   refine ⟨[], _, .nil _, trivial, ?_⟩
   (subst aDG; exact ⟨rfl, _, .inl (pJ _ _ _ _ hJ H.cM)⟩)
 ·
  refine WL.mv rfl rfl (WL.off rfl (WL.off rfl (WL.off rfl (WL.pv (PV.c5 rfl rfl rfl) rfl (WL.nil (WE.iJ rfl (WE.exit ?_)))))))
  refine ⟨[], _, .nil _, trivial, ?_⟩
  exact ⟨rfl, _, .inr hJ⟩
def YV (T : Tr) (k : List UInt8) : Nat → Value
 | 0 => .pointer none
 | i + 1 => (T.iF k 0 i).ptr
def Tr.fin (T : Tr) (k : List UInt8) : Tr := T.iF k 0 (T.dp k 0)
theorem sQ {X : Nat → Prop} {w : World} {bits : Int} {T : Tr} {k : List UInt8} (hX : cW X w) (bU : aH X (cQ bits T) w) (hk : k.length = 32) (hfit : T.er.fit 0) :
  bD Tryz.prog 30 [T.ptr, .agg (kc k).toArray].toArray w fun v w' => v = .tuple [(T.fin k).ptr, .int .i64 (T.dp k 0 : Int)].toArray ∧ Out Nil w w' := by
 refine bD.aI (N := 17) Tryz.func30 rfl rfl (by simp) ?_
 have H := St.begin hX
 replace H := H.add (cF bU)
 refine WE.aA ?_
 refine WL.box (l := kc k) H rfl (by rfl) rfl ?_
 intro b3 w1 H
 refine WL.alloc H rfl KK rfl ?_
 intro b4 w2 H
 refine WL.alloc H rfl ze3 rfl ?_
 intro b5 w3 H
 refine WL.nil (WE.seq (WE.aA (WL.mv rfl rfl ?_)))
 refine WL.bG rfl cU rfl rfl (by exact aK.aF (H.l 2 rfl) (aJ.all _) (by rfl)) (cI cN (by simp only [aR, aU, aB]; omega)) ?_
 refine WL.call aEy rfl (YE (T := T) (k := k) H.aS  (by assumption)) ?_
 rintro _ w4 ⟨RY, RZ, rfl, hO, hge, rB, hR⟩
 replace H := H.OS hO (aO.set (· = RY)) (fun c hc => by cases hc; exact rB.lt) (fun c hc => by cases hc; exact hge) hR
 refine WL.nil (WE.block ?_)
 refine WE.A4 (α := Unit) (fun i _ => True) (fun i _ => []) (fun i _ => [aO.blk b5 3 [.int .i64 ((i - 1 : Nat) : Int)], aO.blk b4 39 [YV T k i], aO.blk b3 24 (kc k)]) (fun i _ => [fun w => cX w ⟨RZ, 0, none⟩ (kc k), cQ bits T]) (fun _ _ => False) (fun _ _ => []) (fun _ _ => []) (fun _ _ => []) () H rfl Z1 (fun W0 hO => CQ (T := T) (k := k) (bits := bits) (H.WY hO) (rB.of_eq (hO.block _ rB.lt id)) (H.Z7 rfl) (H.ES hO 0 rfl) (H.ES hO 1 rfl) hk hfit) (by intro _ _ _ h; rw [h]; rfl) ⟨trivial, rfl, rfl, rfl⟩ ?_ ?_ ?_
 ·
  intro i _ xs_ l_ d_ o_ T_ sc_ w5 iU zT QV
  obtain rfl := QV
  refine WE.aA (WL.as rfl rfl (WL.nil (WE.eM (WL.as rfl rfl (WL.nil ?_)))))
  refine ⟨rfl, rfl, rfl, ?_⟩
  intro w6 H
  refine WE.block (WE.eM (WL.mv rfl rfl (WL.mv rfl rfl ?_)))
  refine WL.aT H 1 rfl rfl rfl (new := _) rfl (by exact lC) (bC _ rfl) (Laid.at (Laid.all (by simp only [aR, aU, aB])) (by rfl)) rfl ?_
  intro w7 H
  refine WL.aT H 0 rfl rfl rfl (new := _) rfl (by exact sz3) (bC _ rfl) (Laid.at (Laid.all (by simp only [aR, aU, aB])) (by rfl)) rfl ?_
  intro w8 H
  refine WL.nil ?_
  replace H := H.conv (L' := [aO.blk b5 3 [.int .i64 ((i + 1 - 1 : Nat) : Int)], aO.blk b4 39 [YV T k (i + 1)], aO.blk b3 24 (kc k), aO.obj l_ o_, aO.obj d_ (.deferred (some [])), aO.sn T_ w6]) rfl
  replace H := H.drop (fun p hp => List.mem_cons_of_mem _ hp)
  exact ⟨(), trivial, H⟩
 ·
  intro _ WR w9 zT H
  refine WE.bF (.take 0 (.take 1 (.aG 2 (.aG 3 .done)))) mixed (by kernel_rfl) ?_
  replace H := H.out (Out.drew _)
  refine WP.aQ rfl rfl (RV.aY rfl gZ rfl) (by exact aK.aF (H.l 2 rfl) (aJ.all _) (by rfl)) ?_
  refine WP.aQ rfl rfl (RV.aY rfl oZ rfl) (by exact aK.aF (H.l 1 rfl) (aJ.all _) (by rfl)) ?_
  refine WP.aG rfl ?_
  refine WL.aT H 2 rfl rfl rfl (new := _) rfl (by exact lC) (by exact bC _ rfl) (Laid.at (Laid.all (by simp only [aR, aU, aB])) (by rfl)) rfl ?_
  intro vT H
  refine WL.nil ⟨(fa (fun _ _ => (by exact aK.aF (H.l 1 rfl) (aJ.all _) (by rfl))) (fa (nw 2 0 (by decide +kernel)) cV)), ?_⟩
  refine WP.aG rfl ?_
  refine WL.aT H 1 rfl rfl rfl (new := _) rfl (by exact sz3) (by exact bC _ rfl) (Laid.at (Laid.all (by simp only [aR, aU, aB])) (by rfl)) rfl ?_
  intro y8 H
  refine WL.nil ⟨(fa (nw 3 1 (by decide +kernel)) (fa (nw 3 0 (by decide +kernel)) cV)), ?_⟩
  refine WP.done (WE.ret ?_)
  (obtain ⟨IE, wY, H⟩ := H.vU 0 rfl)
  refine ⟨[_, _], _, (wY _ (.nil _)), ⟨⟨_, rfl, cL gZ (by exact aK.aF (H.l 1 rfl) (aJ.all _) rfl)⟩, ⟨_, rfl, cL oZ (by exact aK.aF (H.l 0 rfl) (aJ.all _) rfl)⟩, trivial⟩, ?_⟩
  exact ⟨rfl, H.aM⟩
 ·
  intro e_ _ WR FI QG zT H
  exact zT.elim
theorem cQ.fin {bits : Int} {T : Tr} {w : World} {k : List UInt8} (h : cQ bits T w) : cQ bits (T.fin k) w := h.iF _
def Tr.GS (T : Tr) (k : List UInt8) : Option (List UInt8) := match T.fin k with
 | .leaf _ q v _ => if q = k then some v else none
 | _ => none
theorem aB9 {X : Nat → Prop} {w : World} {bits : Int} {T : Tr} {k : List UInt8} (hX : cW X w) (bU : aH X (cQ bits T) w) (hk : k.length = 32) (hfit : T.er.fit 0) (vE : (T.fin k).er.kind ≠ 1) :
  bD Tryz.prog 51 [T.ptr, .agg (kc k).toArray].toArray w fun v w' => v = .tuple [.slice none 0 0, .bool false].toArray ∧ Out Nil w w' := by
 refine bD.aI (N := 27) Tryz.func51 rfl rfl (by simp) ?_
 have H := St.begin hX
 replace H := H.add (cF bU)
 have pW : (T.fin k).key.length = 32 := cQ.gG (cQ.fin (bU.here))
 have JB := cQ.NS (cQ.fin (k := k) (bU.here))
 refine WE.aA ?_
 refine WL.box (l := kc k) H rfl (by rfl) rfl ?_
 intro b3 w1 H
 refine WL.as rfl rfl (WL.as rfl rfl (WL.nil (WE.aA (WL.mv rfl rfl ?_))))
 refine WL.bG rfl cU rfl rfl (by exact aK.aF (H.l 0 rfl) (aJ.all _) (by rfl)) (cI cN (by simp only [aR, aU, aB]; omega)) ?_
 refine WL.call WJ rfl (sQ (T := T) (k := k) (bits := bits) H.aS (by exact H.bN 0 rfl) (by assumption) (by assumption)) ?_
 rintro _ w2 ⟨rfl, hO⟩
 replace H := H.out hO
 refine WL.mv rfl rfl (WL.pv (PV.extract rfl rfl rfl) rfl (WL.pv (PV.extract rfl rfl rfl) rfl (WL.as rfl rfl (WL.as rfl rfl (WL.nil (WE.seq ?_))))))
 refine WE.bF (.take 0 (.aG 1 (.take 2 (.take 3 (.take 4 (.take 7 (.aG 5 (.take 6 (.take 8 (.take 9 .done)))))))))) mixed (by kernel_rfl) ?_
 replace H := H.out (Out.drew _)
 refine WP.mv rfl rfl rfl (WP.aG rfl ?_)
 refine WL.call mJ rfl (fC (T := T.fin k) (bits := bits) H.aS (by exact (H.bN 0 rfl).imp fun _ h => h.fin) ) ?_
 rintro _ w3 ⟨rfl, hO⟩
 replace H := H.out hO
 refine WL.nil ⟨cV, ?_⟩
 refine WP.aC rfl rfl (PV.neq rfl rfl rfl) (WP.mv rfl rfl rfl ?_)
 refine WP.known (t := 17) (c := true) rfl (by simp [vE]) ?_
 refine WP.dP rfl rfl (WP.dP rfl rfl (WP.aG rfl (WL.off rfl ?_)))
 refine WL.nil ⟨cV, ?_⟩
 refine WP.dP rfl rfl (WP.dP rfl rfl (WP.aC rfl rfl (PV.dH rfl rfl rfl) (WP.done (WE.kY rfl (WE.aA (WL.as rfl rfl (WL.as rfl rfl ?_)))))))
 refine WL.nil (WE.ret ⟨[_, _], _, .nil _, ⟨rfl, rfl, trivial⟩, ?_⟩)
 exact ⟨rfl, H.aM⟩
theorem aB8 {X : Nat → Prop} {w : World} {bits : Int} {T : Tr} {k : List UInt8} (hX : cW X w) (bU : aH X (cQ bits T) w) (hk : k.length = 32) (hfit : T.er.fit 0) (vE : (T.fin k).er.kind = 1) (hkey : (T.fin k).key ≠ k) :
  bD Tryz.prog 51 [T.ptr, .agg (kc k).toArray].toArray w fun v w' => v = .tuple [.slice none 0 0, .bool false].toArray ∧ Out Nil w w' := by
 refine bD.aI (N := 27) Tryz.func51 rfl rfl (by simp) ?_
 have H := St.begin hX
 replace H := H.add (cF bU)
 have pW : (T.fin k).key.length = 32 := cQ.gG (cQ.fin (bU.here))
 have JB := cQ.NS (cQ.fin (k := k) (bU.here))
 refine WE.aA ?_
 refine WL.box (l := kc k) H rfl (by rfl) rfl ?_
 intro b3 w1 H
 refine WL.as rfl rfl (WL.as rfl rfl (WL.nil (WE.aA (WL.mv rfl rfl ?_))))
 refine WL.bG rfl cU rfl rfl (by exact aK.aF (H.l 0 rfl) (aJ.all _) (by rfl)) (cI cN (by simp only [aR, aU, aB]; omega)) ?_
 refine WL.call WJ rfl (sQ (T := T) (k := k) (bits := bits) H.aS (by exact H.bN 0 rfl) (by assumption) (by assumption)) ?_
 rintro _ w2 ⟨rfl, hO⟩
 replace H := H.out hO
 refine WL.mv rfl rfl (WL.pv (PV.extract rfl rfl rfl) rfl (WL.pv (PV.extract rfl rfl rfl) rfl (WL.as rfl rfl (WL.as rfl rfl (WL.nil (WE.seq ?_))))))
 refine WE.bF (.take 0 (.aG 1 (.take 2 (.take 3 (.take 4 (.take 7 (.aG 5 (.take 6 (.take 8 (.take 9 .done)))))))))) mixed (by kernel_rfl) ?_
 replace H := H.out (Out.drew _)
 refine WP.mv rfl rfl rfl (WP.aG rfl ?_)
 refine WL.call mJ rfl (fC (T := T.fin k) (bits := bits) H.aS (by exact (H.bN 0 rfl).imp fun _ h => h.fin) ) ?_
 rintro _ w3 ⟨rfl, hO⟩
 replace H := H.out hO
 refine WL.nil ⟨cV, ?_⟩
 refine WP.aC rfl rfl (PV.neq rfl rfl rfl) (WP.mv rfl rfl rfl ?_)
 refine WP.known (t := 17) (c := false) rfl (by simp [vE]) ?_
 refine WP.mv rfl rfl rfl ?_
 refine WP.dF rfl rfl rfl cU rfl (by exact aK.aF (H.l 0 rfl) (aJ.all _) (by rfl)) (cI cN (by simp only [aR, aU, aB]; omega)) ?_
 refine WP.aG rfl ?_
 refine WL.call EE rfl (mE (T := T.fin k) (bits := bits) H.aS (by exact (H.bN 0 rfl).imp fun _ h => h.fin) ) ?_
 rintro _ w4 ⟨rfl, hO⟩
 replace H := H.out hO
 refine WL.nil ⟨(fa (fun _ _ => (by exact aK.aF (H.l 0 rfl) (aJ.all _) (by rfl))) cV), ?_⟩
 refine WP.aC rfl rfl (PV.kX rfl kD rfl (dR.agg cU (cI cN (by simp only [aR, aU, aB]; omega)) (aJ.l (aJ.all _)))) ?_
 refine WP.aC rfl rfl (PV.PD rfl gQ pI iB (by kernel_rfl) rfl rfl (by assumption) (by assumption)) (WP.aC rfl rfl (PV.c5 rfl rfl rfl) (WP.done ?_))
 refine WE.cO rfl (by simp [hkey]) ?_
 refine WE.aA (WL.as rfl rfl (WL.as rfl rfl (WL.nil (WE.ret ⟨[_, _], _, .nil _, ⟨rfl, rfl, trivial⟩, ?_⟩))))
 exact ⟨rfl, H.aM⟩
theorem aB7 {X : Nat → Prop} {w : World} {bits : Int} {T : Tr} {k : List UInt8} (hX : cW X w) (bU : aH X (cQ bits T) w) (hk : k.length = 32) (hfit : T.er.fit 0) (vE : (T.fin k).er.kind = 1) (hkey : (T.fin k).key = k) :
  bD Tryz.prog 51 [T.ptr, .agg (kc k).toArray].toArray w fun v w' => ∃ s, v = .tuple [s, .bool true].toArray ∧ Out Nil w w' ∧ w'.ownsRow w.heap.size 5 1 s (T.fin k).val.length (kc (T.fin k).val) := by
 refine bD.aI (N := 27) Tryz.func51 rfl rfl (by simp) ?_
 have H := St.begin hX
 replace H := H.add (cF bU)
 have pW : (T.fin k).key.length = 32 := cQ.gG (cQ.fin (bU.here))
 have JB := cQ.NS (cQ.fin (k := k) (bU.here))
 refine WE.aA ?_
 refine WL.box (l := kc k) H rfl (by rfl) rfl ?_
 intro b3 w1 H
 refine WL.as rfl rfl (WL.as rfl rfl (WL.nil (WE.aA (WL.mv rfl rfl ?_))))
 refine WL.bG rfl cU rfl rfl (by exact aK.aF (H.l 0 rfl) (aJ.all _) (by rfl)) (cI cN (by simp only [aR, aU, aB]; omega)) ?_
 refine WL.call WJ rfl (sQ (T := T) (k := k) (bits := bits) H.aS (by exact H.bN 0 rfl) (by assumption) (by assumption)) ?_
 rintro _ w2 ⟨rfl, hO⟩
 replace H := H.out hO
 refine WL.mv rfl rfl (WL.pv (PV.extract rfl rfl rfl) rfl (WL.pv (PV.extract rfl rfl rfl) rfl (WL.as rfl rfl (WL.as rfl rfl (WL.nil (WE.seq ?_))))))
 refine WE.bF (.take 0 (.aG 1 (.take 2 (.take 3 (.take 4 (.take 7 (.aG 5 (.take 6 (.take 8 (.take 9 .done)))))))))) mixed (by kernel_rfl) ?_
 replace H := H.out (Out.drew _)
 refine WP.mv rfl rfl rfl (WP.aG rfl ?_)
 refine WL.call mJ rfl (fC (T := T.fin k) (bits := bits) H.aS (by exact (H.bN 0 rfl).imp fun _ h => h.fin) ) ?_
 rintro _ w3 ⟨rfl, hO⟩
 replace H := H.out hO
 refine WL.nil ⟨cV, ?_⟩
 refine WP.aC rfl rfl (PV.neq rfl rfl rfl) (WP.mv rfl rfl rfl ?_)
 refine WP.known (t := 17) (c := false) rfl (by simp [vE]) ?_
 refine WP.mv rfl rfl rfl ?_
 refine WP.dF rfl rfl rfl cU rfl (by exact aK.aF (H.l 0 rfl) (aJ.all _) (by rfl)) (cI cN (by simp only [aR, aU, aB]; omega)) ?_
 refine WP.aG rfl ?_
 refine WL.call EE rfl (mE (T := T.fin k) (bits := bits) H.aS (by exact (H.bN 0 rfl).imp fun _ h => h.fin) ) ?_
 rintro _ w4 ⟨rfl, hO⟩
 replace H := H.out hO
 refine WL.nil ⟨(fa (fun _ _ => (by exact aK.aF (H.l 0 rfl) (aJ.all _) (by rfl))) cV), ?_⟩
 refine WP.aC rfl rfl (PV.kX rfl kD rfl (dR.agg cU (cI cN (by simp only [aR, aU, aB]; omega)) (aJ.l (aJ.all _)))) ?_
 refine WP.aC rfl rfl (PV.PD rfl gQ pI iB (by kernel_rfl) rfl rfl (by assumption) (by assumption)) (WP.aC rfl rfl (PV.c5 rfl rfl rfl) (WP.done ?_))
 refine WE.bB rfl (by simp [hkey]) ?_
 refine WE.skip (WE.aA (WL.mv rfl rfl ?_))
 refine WL.call aEA rfl (KF (T := T.fin k) (bits := bits) H.aS (by exact (H.bN 0 rfl).imp fun _ h => h.fin)) ?_
 rintro _ w5 ⟨s4, rfl, hO, gT⟩
 replace H := H.push hO (aO.iA w.heap.size s4 5 1 _ _) (gB gT H.size) (fun b hb => (gT.lt b hb).1)
 refine WL.pv (PV.kX rfl p4 rfl (dR.one eL (aJ.r (aJ.all _) (by simp only [aR, aU, aB]; omega)))) rfl ?_
 refine WL.as rfl rfl (WL.as rfl rfl (WL.nil (WE.ret ⟨[_, _], _, .nil _, ⟨rfl, rfl, trivial⟩, ?_⟩)))
 exact ⟨s4, rfl, H.aM, H.l 0 rfl⟩
theorem XZ {X : Nat → Prop} {w : World} {bits : Int} {T : Tr} {k : List UInt8} (hX : cW X w) (bU : aH X (cQ bits T) w) (hk : k.length = 32) (hfit : T.er.fit 0) (hg : T.GS k = none) :
  bD Tryz.prog 51 [T.ptr, .agg (kc k).toArray].toArray w fun v w' => v = .tuple [.slice none 0 0, .bool false].toArray ∧ Out Nil w w' := by
 by_cases h1 : (T.fin k).er.kind = 1
 ·
  refine aB8 hX bU hk hfit h1 fun h2 => ?_
  obtain ⟨a, q, v, s, e⟩ := Tr.YW h1
  unfold Tr.GS at hg
  rw [e] at hg h2
  exact absurd hg (by simp [show q = k from h2])
 ·
  exact aB9 hX bU hk hfit h1
theorem S9 {X : Nat → Prop} {w : World} {bits : Int} {T : Tr} {k v0 : List UInt8} (hX : cW X w) (bU : aH X (cQ bits T) w) (hk : k.length = 32) (hfit : T.er.fit 0) (hg : T.GS k = some v0) :
  bD Tryz.prog 51 [T.ptr, .agg (kc k).toArray].toArray w fun v w' => ∃ s, v = .tuple [s, .bool true].toArray ∧ Out Nil w w' ∧ w'.ownsRow w.heap.size 5 1 s v0.length (kc v0) := by
 have h : (T.fin k).er.kind = 1 ∧ (T.fin k).key = k ∧ (T.fin k).val = v0 := by
  unfold Tr.GS at hg
  cases e : T.fin k with
  | nil => rw [e] at hg; cases hg
  | inner => rw [e] at hg; cases hg
  | leaf a q v s =>
   rw [e] at hg
   dsimp only at hg
   split at hg
   ·
    injection hg with hg; exact ⟨rfl, by assumption, hg⟩
   ·
    cases hg
 have := aB7 hX bU hk hfit h.1 h.2.1
 rw [h.2.2] at this
 exact this
theorem EA {T : Tr} {m : List En} {k : List UInt8} (hT : T.er = grow 0 m) (hp : Pm 0 m) : T.GS k = (getM m k).map (·.v) := by
 have h := AM (k := k) hT hp _ (Nat.le_refl _)
 have hl := B5 (k := k) hT hp
 rw [← BT (k := k) (d := 0) (T.dp k 0)]
 have hf : (T.fin k).er = _ := h.1
 unfold Tr.GS
 match hm : B6 k 0 m (T.dp k 0), hl with
 | [], _ =>
  rw [hm, eD] at hf
  rw [Tr.PB hf]
  rfl
 | [e], _ =>
  rw [hm, dI] at hf
  obtain ⟨a, s, e2⟩ := Tr.vA hf
  rw [e2]
  by_cases hk : e.k = k
  ·
   simp [getM, hk]
  ·
   simp [getM, hk]
 | _ :: _ :: _, h => simp at h
theorem LX {m : List En} {k : List UInt8} {i : Nat} (hi : i < m.length) (h : ∀ x ∈ m.take i, x.k ≠ k) (he : m[i].k = k) : getM m k = some m[i] := by
 unfold getM
 rw [List.find?_eq_some_iff_append]
 refine ⟨by simp [he], m.take i, m.drop (i + 1), ?_, fun x hx => by simpa using h x hx⟩
 rw [← List.drop_eq_getElem_cons hi, List.take_append_drop]
theorem getM_none {m : List En} {k : List UInt8} (h : ∀ x ∈ m, x.k ≠ k) : getM m k = none := by
 unfold getM
 rw [List.find?_eq_none]
 intro x hx
 simpa using h x hx
def Q1 (m : List En) (k : List UInt8) : Value := match getM m k with
 | none => .tuple [.slice none 0 0, .bool false].toArray
 | some e => .tuple [e.s, .bool true].toArray
theorem ON {X : Nat → Prop} {w : World} {s : Value} {m : List En} {k : List UInt8} (hX : cW X w) (bU : aH X (gE s m) w) (pW : KL m) (hlen : m.length ≤ 1000000) (hk : k.length = 32) :
  bD Tryz.prog 40 [s, .agg (kc k).toArray].toArray w fun v w' => v = Q1 m k ∧ Out Nil w w' := by
 refine bD.aI (N := 25) Tryz.func40 rfl rfl (by simp) ?_
 have H := St.begin hX
 replace H := H.add (cF bU)
 refine WE.aA ?_
 refine WL.box (l := kc k) H rfl (by rfl) rfl ?_
 intro b3 w1 H
 refine WL.as rfl rfl (WL.as rfl rfl (WL.nil (WE.seq (WE.aA (WL.as rfl rfl (WL.nil (WE.block ?_)))))))
 refine WE.loop (α := Nat) [4, 5, 6, 7, 8, 9, 10, 11, 12, 13, 14, 15, 16, 17, 18, 19, 20, 21, 22, 23, 24] (fun i => [(6, .int .i64 i)]) (fun i wl => i ≤ m.length ∧ (∀ x ∈ m.take i, x.k ≠ k) ∧ St X w wl [] [aO.blk b3 24 (kc k)] [gE s m]) (fun i => m.length - i) 0 ⟨rfl, trivial⟩ ⟨Nat.zero_le _, by simp, H⟩ ?_
 intro i γ0 w2 hI
 try dsimp only at hI
 obtain ⟨hi, hall, H⟩ := hI
 refine WE.seq (WE.aA (WL.mv rfl rfl (WL.mv rfl rfl ?_)))
 refine WL.pv (PV.dO (by exact H.p 0 rfl : gE s m _) s7 rfl) rfl ?_
 refine WL.pv (PV.lss rfl rfl rfl) rfl (WL.nil ?_)
 refine WE.cond rfl (fun kS => ?_) (fun kS => ?_)
 ·
  try simp only [bW] at kS
  have hlt : i < m.length := by omega
  have hkk := pW _ (List.getElem_mem hlt)
  refine WE.skip (WE.seq (WE.block ?_))
  refine WE.bF (.take 0 (.take 1 (.take 2 (.take 3 (.take 4 (.take 5 (.take 6 .done))))))) mixed (by kernel_rfl) ?_
  replace H := H.out (Out.drew _)
  refine WP.mv rfl rfl rfl (WP.mv rfl rfl rfl ?_)
  refine WP.aC rfl rfl (PV.eQ rfl (by exact H.p 0 rfl : gE s m _) s7 fL rfl rfl (by omega) (by omega)) ?_
  refine WP.aC rfl rfl (PV.dL rfl gW rfl) ?_
  refine WP.dF rfl rfl rfl cU rfl (gE.rdk (H.p 0 rfl) pW i hlt) (cI cN (by simp only [aR, aU, aB]; omega)) ?_
  refine WP.dF rfl rfl rfl cU rfl (by exact aK.aF (H.l 0 rfl) (aJ.all _) (by rfl)) (cI cN (by simp only [aR, aU, aB]; omega)) ?_
  refine WP.aC rfl rfl (PV.EI rfl gQ pI iB (by kernel_rfl) rfl rfl (by assumption) (by assumption)) (WP.done ?_)
  refine WE.cond rfl (fun jJ => ?_) (fun jJ => ?_)
  ·
   try simp only [bW] at jJ
   have he : m[i].k = k := by exact jJ
   refine WE.aA (WL.mv rfl rfl (WL.mv rfl rfl ?_))
   refine WL.pv (PV.eQ rfl (by exact H.p 0 rfl : gE s m _) s7 fL rfl rfl (by omega) (by omega)) rfl ?_
   refine WL.pv (PV.dL rfl p4 rfl) rfl (WL.aZ rfl eL rfl rfl (gE.rdv (H.p 0 rfl) pW i hlt) (WL.as rfl rfl (WL.as rfl rfl (WL.nil (WE.ret ⟨[_, _], _, .nil _, ⟨rfl, rfl, trivial⟩, ?_⟩)))))
   refine ⟨?_, H.aM⟩
   rw [Q1, LX hlt hall he]; rfl
  ·
   try simp only [bW] at jJ
   have he : m[i].k ≠ k := by exact jJ
   refine WE.skip (WE.eM (WL.mv rfl rfl (WL.pv (PV.bZ rfl rfl rfl (by omega) (by omega)) rfl (WL.as rfl rfl (WL.nil ?_)))))
   exact ⟨i + 1, (by repeat (first | with_reducible exact bQ.refl _ _ | refine bQ.dB rfl ?_ | refine bQ.cE rfl ?_ | refine bQ.cB rfl ?_)), ⟨rfl, trivial⟩, rfl, ⟨by omega, (by rw [List.take_succ_eq_append_getElem hlt]; intro x hx; rcases List.mem_append.1 hx with h | h; exact hall x h; simp at h; subst h; exact he), H⟩, (by omega)⟩
 ·
  try simp only [bW] at kS
  have TT : m.take i = m := List.take_of_length_le (by omega)
  refine WE.exit (WE.aA (WL.as rfl rfl (WL.as rfl rfl (WL.nil (WE.ret ⟨[_, _], _, .nil _, ⟨rfl, rfl, trivial⟩, ?_⟩)))))
  refine ⟨?_, H.aM⟩
  rw [TT] at hall
  rw [Q1, getM_none hall]; rfl
def nV (T : Tr) (k : List UInt8) (n : Nat) : List Value := (List.range n).map fun j => ((T.iF k 0 j).beside k j).ptr
theorem o9 (T : Tr) (k : List UInt8) (n : Nat) : (nV T k n).length = n := by simp [nV]
theorem K0 (T : Tr) (k : List UInt8) (n : Nat) : nV T k (n + 1) = nV T k n ++ [((T.iF k 0 n).beside k n).ptr] := by simp [nV, List.range_succ]
theorem N5 (T : Tr) (k : List UInt8) (n i : Nat) (h : i < (nV T k n).length) : (nV T k n)[i] = ((T.iF k 0 i).beside k i).ptr := by simp [nV]
theorem HL {X : Nat → Prop} {w : World} {bits : Int} {T : Tr} {k : List UInt8} (hX : cW X w) (bU : aH X (cQ bits T) w) (hk : k.length = 32) (hfit : T.er.fit 0) :
  bD Tryz.prog 33 [T.ptr, .agg (kc k).toArray].toArray w fun v w' => Out Nil w w' ∧ aH X (jV v (nV T k (T.dp k 0))) w' := by
 refine bD.aI (N := 26) Tryz.func33 rfl rfl (by simp) ?_
 have H := St.begin hX
 replace H := H.add (cF bU)
 have yR := Tr.tU (k := k) _ 0 T rfl hfit (by omega)
 refine WE.aA ?_
 refine WL.box (l := kc k) H rfl (by rfl) rfl ?_
 intro b3 w1 H
 refine WL.as rfl rfl (WL.nil (WE.aA ?_))
 refine WL.alloc H rfl aCf rfl ?_
 intro b5 w2 H
 replace H := H.lG 39 1
 refine WL.nil (WE.seq (WE.aA (WL.mv rfl rfl ?_)))
 refine WL.bG rfl cU rfl rfl (by exact aK.aF (H.l 2 rfl) (aJ.all _) (by rfl)) (cI cN (by simp only [aR, aU, aB]; omega)) ?_
 refine WL.call aEy rfl (YE (T := T) (k := k) H.aS  (by assumption)) ?_
 rintro _ w3 ⟨RY, RZ, rfl, hO, hge, rB, hR⟩
 replace H := H.OS hO (aO.set (· = RY)) (fun c hc => by cases hc; exact rB.lt) (fun c hc => by cases hc; exact hge) hR
 refine WL.nil (WE.block ?_)
 refine WE.A4 (α := Value) (fun i q => True) (fun i q => []) (fun i q => [aO.iA w.heap.size q 39 1 (min i (T.dp k 0)) (nV T k (min i (T.dp k 0))), aO.blk b5 86 [q], aO.blk b3 24 (kc k)]) (fun i q => [fun w => cX w ⟨RZ, 0, none⟩ (kc k), cQ bits T]) (fun _ _ => False) (fun _ _ => []) (fun _ _ => []) (fun _ _ => []) (.slice none 0 0) H rfl Z1 (fun W0 hO => CQ (T := T) (k := k) (bits := bits) (H.WY hO) (rB.of_eq (hO.block _ rB.lt id)) (H.Z7 rfl) (H.ES hO 0 rfl) (H.ES hO 1 rfl) hk hfit) (by intro _ _ _ h; rw [h]; rfl) ⟨trivial, rfl, by rw [Nat.zero_min]; rfl, rfl⟩ ?_ ?_ ?_
 ·
  intro i q xs_ l_ d_ o_ T_ sc_ w4 iU zT QV
  obtain rfl := QV
  refine WE.aA (WL.as rfl rfl (WL.nil (WE.eM (WL.as rfl rfl (WL.nil ?_)))))
  refine ⟨rfl, rfl, rfl, ?_⟩
  intro w5 H
  refine WE.block (WE.aA (WL.mv rfl rfl ?_))
  refine WL.call mJ rfl (fC (T := T.iF k 0 i) (bits := bits) H.aS (by exact (H.bN 2 rfl).imp fun _ h => h.iF i)) ?_
  rintro _ w6 ⟨rfl, hO⟩
  replace H := H.out hO
  refine WL.pv (PV.eql rfl rfl rfl) rfl (WL.nil ?_)
  refine WE.cond rfl (fun QU => ?_) (fun QU => ?_)
  ·
   try simp only [bW] at QU
   have hlt : i < T.dp k 0 := by rcases Nat.lt_or_ge i (T.dp k 0) with h | h; exact h; exact absurd (show (T.iF k 0 i).er.kind = 2 by exact QU) (by rw [show i = T.dp k 0 by omega]; exact Tr.qA _ 0 T rfl)
   have hb2 := eA k i
   have hmi : min i (T.dp k 0) = i := by omega
   rw [hmi] at H
   refine WE.draw (.take 0 (.take 1 (.take 2 (.take 3 (.aG 4 (.take 5 (.aG 6 (.aG 7 (.aG 8 (.aG 9 .done)))))))))) mixed (by kernel_rfl) ?_
   replace H := H.out (Out.drew _)
   refine WP.aQ rfl rfl (RV.aY rfl MN rfl) (by exact aK.aF (H.l 1 rfl) (aJ.all _) (by rfl)) ?_
   refine WP.mv rfl rfl rfl ?_
   refine WP.dF rfl rfl rfl cU rfl (by exact aK.aF (H.l 2 rfl) (aJ.all _) (by rfl)) (cI cN (by simp only [aR, aU, aB]; omega)) ?_
   refine WP.mv rfl rfl rfl (WP.aG rfl ?_)
   refine WL.call ED rfl (jH (k := k) (d := i) H.aS  (by assumption) (by omega)) ?_
   rintro _ w7 ⟨rfl, hO⟩
   replace H := H.out hO
   refine WL.nil ⟨(fa (nw 4 2 (by decide +kernel)) (fa (fun _ _ => (by exact aK.aF (H.l 1 rfl) (aJ.all _) (by rfl))) cV)), ?_⟩
   refine WP.aC rfl rfl (PV.eq (v' := .int .i64 ((1 - bH k i : Nat) : Int)) (PV.iT rfl rfl rfl (by omega) (by omega)) (by congr 1; omega)) ?_
   refine WP.aG rfl ?_
   refine WL.call L5 rfl (qB (T := T.iF k 0 i) (bits := bits) (b := 1 - bH k i) H.aS (by exact (H.bN 2 rfl).imp fun _ h => h.iF i)) ?_
   rintro _ w8 ⟨rfl, hO⟩
   replace H := H.out hO
   refine WL.nil ⟨(fa (nw 6 2 (by decide +kernel)) (fa (fun _ _ => (by exact aK.aF (H.l 1 rfl) (aJ.all _) (by rfl))) cV)), ?_⟩
   refine WP.aG rfl ?_
   refine WL.bJ (l0 := [.pointer none]) H rfl UH (by decide) (dG _ _) (Fl.cons rfl (by rfl) (by simp only [aR, aU, aB]) Laid.head Fl.nil) rfl ?_
   intro b23 w9 H
   refine WL.nil ⟨(fa (nw 7 2 (by decide +kernel)) (fa (fun _ _ => (by exact aK.aF (H.l 2 rfl) (aJ.all _) (by rfl))) cV)), ?_⟩
   refine WP.aG rfl ?_
   refine WL.append (m := 1) H 1 UH (by decide) rfl rfl rfl (cS.cA (n := 1) (H.l 0 rfl) rfl) (bC _ rfl) (by omega) (by decide) rfl ?_
   intro v24 vT H
   replace H := H.forget 0
   refine WL.nil ⟨(fa (nw 8 2 (by decide +kernel)) (fa (nw 8 0 (by decide +kernel)) cV)), ?_⟩
   refine WP.aG rfl ?_
   refine WL.aT H 1 rfl rfl rfl (new := [v24]) (cells_one (iN (H.l 0 rfl))) (by exact aCy) (dV (iN (H.l 0 rfl))) (Laid.at (Laid.all (by simp only [aR, aU, aB])) (by rfl)) rfl ?_
   intro y8 H
   refine WL.nil ⟨(fa (nw 9 2 (by decide +kernel)) (fa (nw 9 0 (by decide +kernel)) cV)), ?_⟩
   refine WP.done ?_
   replace H := H.conv (L' := [aO.iA w.heap.size v24 39 1 (min (i + 1) (T.dp k 0)) (nV T k (min (i + 1) (T.dp k 0))), aO.blk b5 86 [v24], aO.blk b3 24 (kc k), aO.obj l_ o_, aO.obj d_ (.deferred (some [])), aO.sn T_ w5]) (by rw [show min (i + 1) (T.dp k 0) = i + 1 by omega, K0]; rfl)
   replace H := H.drop (fun p hp => List.mem_cons_of_mem _ hp)
   exact ⟨_, trivial, H⟩
  ·
   try simp only [bW] at QU
   have aDG : T.dp k 0 ≤ i := by rcases Nat.lt_or_ge i (T.dp k 0) with h | h; exact absurd (Tr.rJ (k := k) i 0 T h) (by exact QU); exact h
   refine WE.skip ?_
   replace H := H.conv (L' := [aO.iA w.heap.size q 39 1 (min (i + 1) (T.dp k 0)) (nV T k (min (i + 1) (T.dp k 0))), aO.blk b5 86 [q], aO.blk b3 24 (kc k), aO.obj l_ o_, aO.obj d_ (.deferred (some [])), aO.sn T_ w5]) (by rw [show min (i + 1) (T.dp k 0) = min i (T.dp k 0) by omega]; rfl)
   replace H := H.drop (fun p hp => List.mem_cons_of_mem _ hp)
   exact ⟨_, trivial, H⟩
 ·
  intro q WR IE zT H
  refine WE.aA ?_
  refine WL.aZ rfl MN rfl rfl (by exact aK.aF (H.l 2 rfl) (aJ.all _) (by rfl)) ?_
  refine WL.as rfl rfl (WL.nil (WE.ret ?_))
  (obtain ⟨FI, wY, H⟩ := H.vU 0 rfl)
  refine ⟨[_], _, (wY _ (.nil _)), ⟨rfl, trivial⟩, ?_⟩
  have hmd : min (T.dp k 0 + 1) (T.dp k 0) = T.dp k 0 := by omega
  rw [hmd] at H
  replace H := H.freeze (i := 0) rfl
  exact ⟨H.aM, H.gU ((H.bN 0 rfl).imp fun _ h => by show cS _ q 1 (nV T k (T.dp k 0)).length _; rw [o9]; exact cS.eH h)⟩
 ·
  intro e_ q WR KT QG zT H
  exact zT.elim
end Go.Sp.Tryz
