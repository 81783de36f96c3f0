/- Part of the proof of this claim: walks through the program's functions and the plain laws that they need, printed by a program of this session. -/
import Derived.Test.YthkombhebdjamaaGreatDoorP3
import Derived.Test.YthkombhebdjamaaGreatDoorShf
import Derived.Maps.OwnSet
import Derived.WideKeyArr
set_option maxRecDepth 100000
set_option maxHeartbeats 1000000
set_option linter.unusedVariables false
set_option linter.unusedSimpArgs false
namespace Go.Sp.Tryz
open Go.Proofs Go.RowKit Go.Sp Go.Sp.TryzT Go.Proofs.Tryz
variable {X : Nat → Prop} {w : World}
def aCG (c1 c2 c3 c4 : Nat) : Value := .func (.func 213) [].toArray [.pointer (some ⟨c1, 0, none⟩), .pointer (some ⟨c2, 0, none⟩), .pointer (some ⟨c3, 0, none⟩), .pointer (some ⟨c4, 0, none⟩)].toArray
theorem aAA {X : Nat → Prop} {w : World} {bh : Nat} {kd dp : Nat} {lk lv B k : List UInt8} {sl s : Value} (hX : cU X w) (lX : lk.length = 32) (hlv : lv.length = 32) (o5 : B.length = 32) (hsl : sl.oneCell' = true) (hs : s.oneCell' = true) (hk : k.length = 32) :
  bF prog 208 [.pointer (some ⟨bh, 0, none⟩), .agg (fG kd dp lk lv B sl).toArray, s, .agg (kc k).toArray].toArray w fun v w' => ∃ c1 c2 c3 c4, v = aCG c1 c2 c3 c4 ∧ Out Nil w w' ∧ aH X (fun w => cX w ⟨c1, 0, none⟩ (fG kd dp lk lv B sl)) w' ∧ aH X (fun w => cX w ⟨c2, 0, none⟩ [.pointer (some ⟨bh, 0, none⟩)]) w' ∧ aH X (fun w => cX w ⟨c3, 0, none⟩ [s]) w' ∧ aH X (fun w => cX w ⟨c4, 0, none⟩ (kc k)) w' := by
 refine bF.aI (N := 10) func208 rfl rfl (by simp) ?_
 have H := St.begin hX
 refine WE.aA ?_
 refine WL.box (l := [.pointer (some ⟨bh, 0, none⟩)]) H rfl (rfl) rfl ?_
 intro b4 w1 H
 refine WL.box (l := fG kd dp lk lv B sl) H rfl rfl rfl ?_
 intro b5 w2 H
 refine WL.box (l := [s]) H rfl (cells_one hs) rfl ?_
 intro b6 w3 H
 refine WL.box (l := kc k) H rfl rfl rfl ?_
 intro b7 w4 H
 refine WL.as rfl rfl (WL.nil (WE.aA (WL.pv (PV.makeFunc rfl) rfl (WL.as rfl rfl (WL.nil (WE.ret ⟨[_], _, .nil _, ⟨rfl, trivial⟩, ?_⟩))))))
 replace H := H.freeze (i := 0) rfl
 replace H := H.freeze (i := 0) rfl
 replace H := H.freeze (i := 0) rfl
 replace H := H.freeze (i := 0) rfl
 exact ⟨_, _, _, _, rfl, H.aL, (H.gQ (H.bK 1 rfl)).imp fun _ h => h.rd, (H.gQ (H.bK 0 rfl)).imp fun _ h => h.rd, (H.gQ (H.bK 2 rfl)).imp fun _ h => h.rd, (H.gQ (H.bK 3 rfl)).imp fun _ h => h.rd⟩
theorem XW {X : Nat → Prop} {w : World} {bh bc : Nat} {bits n0 : Int} {kd dp : Nat} {lk lv B k : List UInt8} {sl : Value} {sb : List (List UInt8)} (hX : cU X w) (eT : aM w bc 213 ([.int .i64 n0])) (bT : aH (fun c_ => X c_ ∨ c_ = bc) (fF bh bc bits) w) (dA : aH (fun c_ => X c_ ∨ c_ = bc) (eQ sl sb) w) (fN : aH (fun c_ => X c_ ∨ c_ = bc) (aX) w) (bR : 0 ≤ bits ∧ bits ≤ 256) (hp : iG kd dp lk lv B sb) (hk : k.length = 32) :
  bF prog 196 [.pointer (some ⟨bh, 0, none⟩), .agg (fG kd dp lk lv B sl).toArray, .agg (kc k).toArray].toArray w fun v w' => ∃ (m : Int) (s : Value), v = .tuple [s, .int .i64 0].toArray ∧ Out (· = bc) w w' ∧ aM w' bc 213 [.int .i64 m] ∧ aH (fun c => X c ∨ c = bc) (eQ s ((List.range (dp + 1)).map (eP bits k (fI bits dp B sb) (dP (cN (dX kd lk lv)) bits)))) w' := by
 refine bF.aI (N := 34) func196 rfl rfl (by simp) ?_
 have H := (((St.c7 (b := bc) (t := 213) (l := [.int .i64 n0]) hX eT).add (bX fN)).add (bX dA)).add (bX bT)
 have vD := hp.kd
 have yT := hp.MJ
 have lX := hp.tJ
 have hlv := hp.lvl
 have o5 := hp.bl
 have oY := hp.NL
 have vB : (fG kd dp lk lv B sl).length = 99 := gB hp.tJ hp.lvl hp.bl
 have hs1 : sl.oneCell' = true := cR.fH (dA.here)
 have QO := sK bits dp B sb
 have hdk := xH (bits := bits) (dp := dp) (B := B) hp.sl
 refine WE.aA ?_
 refine WL.box (l := fG kd dp lk lv B sl) H rfl rfl rfl ?_
 intro b4 w1 H
 refine WL.box (l := kc k) H rfl rfl rfl ?_
 intro b5 w2 H
 refine WL.as rfl rfl (WL.as rfl rfl (WL.nil (WE.aA (WL.mv rfl rfl ?_))))
 refine WL.bC rfl mN rfl rfl (aM.aF (H.l 1 rfl) (aJ.all _) rfl) (cH kQ (by simp only [aR, aU, aB, aD]; omega)) ?_
 refine WL.call aE4 rfl (TM (kd := kd) (dp := dp) (lk := lk) (lv := lv) (B := B) (sl := sl) (sb := sb) (bits := bits) H.aS (H.o 0 rfl) (by exact (H.aK 0 rfl 0 rfl : aH _ (fF bh bc bits) _)) (by exact (H.aK 0 rfl 1 rfl : aH _ (eQ sl sb) _)) (by exact (H.aK 0 rfl 2 rfl : aH _ (aX) _)) bR hp) ?_
 rintro _ w3 ⟨m16, K7, rfl, hO, hB, hR⟩
 have aIX := cR.fH (hR.here)
 replace H := H.c9 0 rfl hO hB hR
 refine WL.mv rfl rfl (WL.pv (PV.extract rfl rfl rfl) rfl (WL.pv (PV.extract rfl rfl rfl) rfl (WL.as rfl rfl (WL.as rfl rfl (WL.nil (WE.seq (WE.aA ?_)))))))
 refine WL.mv rfl rfl (WL.pv (PV.neq rfl rfl rfl) rfl (WL.nil ?_))
 refine WE.bB rfl rfl ?_
 refine WE.skip (WE.aA ?_)
 refine WL.alloc H rfl aGQ rfl ?_
 intro sW w4 H
 replace H := H.lK 30 32
 refine WL.nil (WE.seq (WE.aA (WL.mv rfl rfl ?_)))
 refine WL.bC rfl mN rfl rfl (aM.aF (H.l 3 rfl) (aJ.all _) rfl) (cH kQ (by simp only [aR, aU, aB, aD]; omega)) ?_
 refine WL.mv rfl rfl ?_
 refine WL.bC rfl cV rfl rfl (aM.aF (H.l 2 rfl) (aJ.all _) rfl) (cH cM (by simp only [aR, aU, aB, aD]; omega)) ?_
 refine WL.call aE3 rfl (aAA (kd := kd) (dp := dp) (lk := lk) (lv := lv) (B := B) (k := k) (sl := sl) (s := K7) H.aS  (by assumption) (by assumption) (by assumption) (by assumption) (by assumption) (by assumption)) ?_
 rintro _ w5 ⟨c1_, c2_, c3_, c4_, rfl, hO, G1, EF, Q7, hR4⟩
 replace H := ((((H.out hO).add hR4).add Q7).add EF).add G1
 refine WL.nil (WE.block ?_)
 replace H := (show St X w w5 [aN.blk bc 213 [.int .i64 m16]] [aN.iA w.heap.size (.slice none 0 0) 30 32 (0) (((List.range (0)).map (eP bits k (fI bits dp B sb) (dP (cN (dX kd lk lv)) bits))).flatMap kc), aN.blk sW 33 [(.slice none 0 0)], aN.blk b5 24 (kc k), aN.blk b4 35 (fG kd dp lk lv B sl)] [fun w => cX w ⟨c1_, 0, none⟩ (fG kd dp lk lv B sl), fun w => cX w ⟨c2_, 0, none⟩ [.pointer (some ⟨bh, 0, none⟩)], fun w => cX w ⟨c3_, 0, none⟩ [K7], fun w => cX w ⟨c4_, 0, none⟩ (kc k), eQ K7 (fI bits dp B sb), fF bh bc bits, eQ sl sb, aX] from H)
 refine WE.aAT (α := Value) (fun i vv => True) (fun i vv => []) (fun i vv => [aN.iA w.heap.size vv 30 32 (i) (((List.range (i)).map (eP bits k (fI bits dp B sb) (dP (cN (dX kd lk lv)) bits))).flatMap kc), aN.blk sW 33 [vv], aN.blk b5 24 (kc k), aN.blk b4 35 (fG kd dp lk lv B sl)]) (fun i vv => [fun w => cX w ⟨c1_, 0, none⟩ (fG kd dp lk lv B sl), fun w => cX w ⟨c2_, 0, none⟩ [.pointer (some ⟨bh, 0, none⟩)], fun w => cX w ⟨c3_, 0, none⟩ [K7], fun w => cX w ⟨c4_, 0, none⟩ (kc k), eQ K7 (fI bits dp B sb), fF bh bc bits, eQ sl sb, aX]) (.slice none 0 0) H rfl aE0 (fun W0 hO => K0 (ds := (fI bits dp B sb)) (s := K7) (bits := bits) (kd := kd) (dp := dp) (lk := lk) (lv := lv) (B := B) (k := k) (sl := sl) (H.aF3 hO) ((H.o 0 (e := aN.blk bc 213 [.int .i64 m16]) rfl).of_eq (hO.block _ (H.o 0 (e := aN.blk bc 213 [.int .i64 m16]) rfl).lt id)) (H.rB hO 5 rfl) (H.rB hO 0 rfl) (H.rB hO 1 rfl) (H.rB hO 2 rfl) (H.rB hO 3 rfl) (H.rB hO 4 rfl) (H.rB hO 7 rfl) bR lX hlv o5 hs1 hk hdk (by omega)) (fun i xs W h => by obtain ⟨_, rfl⟩ := h; rfl) ⟨trivial, rfl, rfl, rfl⟩ ?_ ?_
 ·
  intro i vv xs_ l_ d_ oo_ o_ T_ sc_ w6 iT zU Q2 H
  obtain ⟨sx_, rfl⟩ := Q2
  have ZS : ((eP bits k (fI bits dp B sb) (dP (cN (dX kd lk lv)) bits)) i).length = 32 := nN (cY _ _) i
  refine WE.eH ?_
  refine WL.alloc H rfl mQ rfl ?_
  intro b12 w7 H
  refine WL.aT H 0 rfl rfl rfl (new := kc ((eP bits k (fI bits dp B sb) (dP (cN (dX kd lk lv)) bits)) i)) rfl (cH dJ (by simp only [aR, aU, aB, aD]; omega)) (bJ _) (Laid.at (Laid.all (by simp only [aR, aU, aB, aD]; omega)) rfl) rfl ?_
  intro w8 H
  refine WL.nil ?_
  refine ⟨rfl, rfl, _, [aN.blk b12 30 (kc ((eP bits k (fI bits dp B sb) (dP (cN (dX kd lk lv)) bits)) i)), aN.iA w.heap.size vv 30 32 (i) (((List.range (i)).map (eP bits k (fI bits dp B sb) (dP (cN (dX kd lk lv)) bits))).flatMap kc), aN.blk sW 33 [vv], aN.blk b5 24 (kc k), aN.blk b4 35 (fG kd dp lk lv B sl)], _, H, ?_⟩
  intro w9 H
  refine WE.block (WE.eH (WL.aY rfl uD rfl rfl (aM.aF (H.l 2 rfl) (aJ.all _) rfl) ?_))
  refine WL.bC rfl gT rfl rfl (aM.aF (H.l 0 rfl) (aJ.all _) rfl) (cH dJ (by simp only [aR, aU, aB, aD]; omega)) ?_
  refine WL.bL (l0 := (kc (List.replicate 32 0))) H rfl C3 (by decide) rfl (Fl.cons rfl rfl (by simp only [aR, aU, aB, aD]; omega) (Laid.all (by simp only [aR, aU, aB, aD]; omega)) Fl.nil) rfl ?_
  intro b31 vR H
  refine WL.append (m := 1) H 2 C3 (by decide) rfl rfl rfl (cR.bZ (n := 1) (H.l 0 rfl) (by rw [aO, ZS]; simp [aO])) (bJ _) (by omega) (by decide) rfl ?_
  intro v32 y8 H
  replace H := H.forget 0
  have aDz := iN (H.l 1 rfl)
  refine WL.aT H 2 rfl rfl rfl (new := [v32]) (cells_one aDz) (by exact aAJ) (dW aDz) (Laid.at (Laid.all (by simp only [aR, aU, aB, aD])) rfl) rfl ?_
  intro IQ H
  refine WL.nil ?_
  replace H := H.forget 0
  replace H := H.conv (L' := [aN.iA w.heap.size v32 30 32 (i + 1) (((List.range (i + 1)).map (eP bits k (fI bits dp B sb) (dP (cN (dX kd lk lv)) bits))).flatMap kc), aN.blk sW 33 [v32], aN.blk b5 24 (kc k), aN.blk b4 35 (fG kd dp lk lv B sl), aN.obj l_ o_, aN.obj d_ (.deferred (some [])), aN.sn T_ w9]) (by rw [List.range_succ, List.map_append, List.flatMap_append]; simp only [List.map_cons, List.map_nil, List.flatMap_cons, List.flatMap_nil, List.append_nil]; rfl)
  replace H := H.drop (fun p hp => List.mem_cons_of_mem _ hp)
  exact ⟨v32, trivial, H⟩
 ·
  intro vv W7 FP mc_ zU H
  refine WE.aA (WL.aY rfl uD rfl rfl (aM.aF (H.l 2 rfl) (aJ.all _) rfl) (WL.as rfl rfl (WL.as rfl rfl (WL.nil (WE.ret ?_)))))
  (obtain ⟨K2, wW, H⟩ := H.vS 0 rfl)
  refine ⟨[_, _], _, (wW _ (.nil _)), ⟨rfl, rfl, trivial⟩, ?_⟩
  rw [QO] at H
  replace H := H.freeze (i := 0) rfl
  refine ⟨_, vv, rfl, H.cL, H.o 0 rfl, (H.fL (H.bK 0 rfl)).imp fun _ h => ?_⟩
  have h_ := cR.eM h
  unfold eQ; rw [List.length_map, List.length_range]; exact h_
theorem CI {X : Nat → Prop} {w : World} {bh bc : Nat} {bits n0 : Int} {kd dp : Nat} {lk lv B k : List UInt8} {sl : Value} {sb : List (List UInt8)} (hX : cU X w) (eT : aM w bc 213 ([.int .i64 n0])) (bT : aH (fun c_ => X c_ ∨ c_ = bc) (fF bh bc bits) w) (dA : aH (fun c_ => X c_ ∨ c_ = bc) (eQ sl sb) w) (fN : aH (fun c_ => X c_ ∨ c_ = bc) (aX) w) (bR : 0 ≤ bits ∧ bits ≤ 256) (hp : iG kd dp lk lv B sb) (hk : k.length = 32) :
  bF prog 170 [.pointer (some ⟨bh, 0, none⟩), .agg (fG kd dp lk lv B sl).toArray, .agg (kc k).toArray].toArray w fun v w' => ∃ (m : Int), v = .tuple [.agg (kc (eP bits k (fI bits dp B sb) (dP (cN (dX kd lk lv)) bits) dp)).toArray, .int .i64 0].toArray ∧ Out (· = bc) w w' ∧ aM w' bc 213 [.int .i64 m] := by
 refine bF.aI (N := 27) func170 rfl rfl (by simp) ?_
 have H := (((St.c7 (b := bc) (t := 213) (l := [.int .i64 n0]) hX eT).add (bX fN)).add (bX dA)).add (bX bT)
 have vD := hp.kd
 have yT := hp.MJ
 have lX := hp.tJ
 have hlv := hp.lvl
 have o5 := hp.bl
 have oY := hp.NL
 have vB : (fG kd dp lk lv B sl).length = 99 := gB hp.tJ hp.lvl hp.bl
 have hs1 : sl.oneCell' = true := cR.fH (dA.here)
 have QO := sK bits dp B sb
 have hdk := xH (bits := bits) (dp := dp) (B := B) hp.sl
 have hrl : (eP bits k (fI bits dp B sb) (dP (cN (dX kd lk lv)) bits) dp).length = 32 := nN (cY _ _) _
 refine WE.aA ?_
 refine WL.box (l := fG kd dp lk lv B sl) H rfl rfl rfl ?_
 intro b4 w1 H
 refine WL.box (l := kc k) H rfl rfl rfl ?_
 intro b5 w2 H
 refine WL.alloc H rfl mQ rfl ?_
 intro b6 w3 H
 refine WL.as rfl rfl (WL.nil (WE.aA (WL.mv rfl rfl ?_)))
 refine WL.bC rfl mN rfl rfl (aM.aF (H.l 2 rfl) (aJ.all _) rfl) (cH kQ (by simp only [aR, aU, aB, aD]; omega)) ?_
 refine WL.bC rfl cV rfl rfl (aM.aF (H.l 1 rfl) (aJ.all _) rfl) (cH cM (by simp only [aR, aU, aB, aD]; omega)) ?_
 refine WL.call aE7 rfl (XW (kd := kd) (dp := dp) (lk := lk) (lv := lv) (B := B) (sl := sl) (sb := sb) (bits := bits) (k := k) H.aS (H.o 0 rfl) (by exact (H.aK 0 rfl 0 rfl : aH _ (fF bh bc bits) _)) (by exact (H.aK 0 rfl 1 rfl : aH _ (eQ sl sb) _)) (by exact (H.aK 0 rfl 2 rfl : aH _ (aX) _)) bR hp hk) ?_
 rintro _ w4 ⟨m14, aAK, rfl, hO, hB, hR⟩
 replace H := H.c9 0 rfl hO hB hR
 refine WL.mv rfl rfl (WL.pv (PV.extract rfl rfl rfl) rfl (WL.pv (PV.extract rfl rfl rfl) rfl (WL.as rfl rfl (WL.as rfl rfl (WL.nil (WE.seq (WE.aA ?_)))))))
 refine WL.mv rfl rfl (WL.pv (PV.neq rfl rfl rfl) rfl (WL.nil ?_))
 refine WE.bB rfl rfl ?_
 refine WE.skip (WE.aA (WL.mv rfl rfl (WL.mv rfl rfl ?_)))
 refine WL.pv (PV.eq (v' := .int .i64 ((dp + 1 : Nat) : Int)) (PV.dO (by exact (H.p 0 rfl : (eQ aAK ((List.range (dp + 1)).map (eP bits k (fI bits dp B sb) (dP (cN (dX kd lk lv)) bits)))) _)) nW rfl) (by rw [List.length_map, List.length_range])) rfl ?_
 refine WL.pv (PV.eq (v' := .int .i64 ((dp : Nat) : Int)) (PV.iS rfl rfl rfl (by omega) (by omega)) (by (congr 1; omega))) rfl ?_
 refine WL.pv (PV.eO rfl (by exact (H.p 0 rfl : (eQ aAK ((List.range (dp + 1)).map (eP bits k (fI bits dp B sb) (dP (cN (dX kd lk lv)) bits)))) _)) nW dJ rfl rfl (by omega) (by rw [List.length_map, List.length_range]; omega)) rfl ?_
 refine WL.bC rfl gT rfl rfl ((by have h_ := eQ.rd (by exact (H.p 0 rfl : (eQ aAK ((List.range (dp + 1)).map (eP bits k (fI bits dp B sb) (dP (cN (dX kd lk lv)) bits)))) _)) (fun x hx => by obtain ⟨j, _, rfl⟩ := List.mem_map.1 hx; exact nN (cY _ _) _) dp (by rw [List.length_map, List.length_range]; omega); rw [List.getElem_map, List.getElem_range] at h_; exact h_)) (cH dJ (by simp only [aR, aU, aB, aD]; omega)) ?_
 refine WL.aT H 0 rfl rfl rfl (new := kc (eP bits k (fI bits dp B sb) (dP (cN (dX kd lk lv)) bits) dp)) rfl (cH dJ (by simp only [aR, aU, aB, aD]; omega)) (bJ _) (Laid.at (Laid.all (by simp only [aR, aU, aB, aD]; omega)) rfl) rfl ?_
 intro w5 H
 refine WL.as rfl rfl (WL.nil (WE.ret ⟨[_, _], _, .nil _, ⟨⟨_, rfl, aW gT (aM.aF (H.l 0 rfl) (aJ.all _) rfl) (cH dJ (by simp only [aR, aU, aB, aD]; omega))⟩, rfl, trivial⟩, ?_⟩))
 exact ⟨_, rfl, H.cL, H.o 0 rfl⟩
theorem WG {bits : Int} {T : Tr} {k : List UInt8} : dP (cN (dX (pK T k) (T.fin k).key ((T.fin k).vd bits))) bits = (T.fin k).er.kN bits := by
 have h2 : (T.fin k).er.kind ≠ 2 := Tr.p7 _ 0 T rfl
 unfold pK
 revert h2
 cases (T.fin k) with
 | nil => intro _; exact congrArg (fun x => dP (cN x) bits) (show dX 0 _ _ = [3] from if_neg (by decide))
 | leaf a q v s => intro _; exact congrArg (fun x => dP (cN x) bits) (show dX 1 _ _ = 0 :: (q ++ mS bits v) from if_pos rfl)
 | inner => intro h; exact absurd rfl h
theorem wH {bits : Int} {T : Tr} {k : List UInt8} (hd : T.dp k 0 ≤ 256) : eP bits k (fI bits (T.dp k 0) (lJ T k (T.dp k 0)) (gA bits T k (T.dp k 0))) (dP (cN (dX (pK T k) (T.fin k).key ((T.fin k).vd bits))) bits) (T.dp k 0) = T.er.kN bits := by
 have e1 : fI bits (T.dp k 0) (lJ T k (T.dp k 0)) (gA bits T k (T.dp k 0)) = (List.range (T.dp k 0)).map fun d => (o9 T k d).er.kN bits := by
  unfold fI
  rw [wJ hd, RP]
 rw [e1, WG]
 have hl : ((List.range (T.dp k 0)).map fun d => (o9 T k d).er.kN bits).length = T.dp k 0 := by simp
 have h := SE (bits := bits) (k := k) (ds := (List.range (T.dp k 0)).map fun d => (o9 T k d).er.kN bits) (e := (T.fin k).er.kN bits)
 rw [hl] at h
 rw [h]
 refine CZ (T.dp k 0) (Nat.le_refl _) fun d hd => ?_
 rw [jT (by rw [hl]; exact hd), List.getElem_map, List.getElem_range]
def uU (kd dp : Nat) (lk lv k vd : List UInt8) (I7 : Bool) : Prop :=
 (I7 = true → kd = 1 ∧ lk = k ∧ lv = vd) ∧ (I7 = false → kd = 1 → lk ≠ k ∧ dp ≤ fB lk k)
theorem KD {k : List UInt8} {m : List En} : ∀ {i : Nat} {e : En}, e ∈ CD k 0 m i → ∀ j, j < i → bH e.k j = bH k j
 | 0, _, _, j, h => absurd h (Nat.not_lt_zero _)
 | i + 1, e, h, j, hj => by
  have h1 := hZ.1 h
  rcases Nat.lt_or_ge j i with h2 | h2
  ·
   exact KD h1.1 j h2
  ·
   have h3 : j = i := by omega
   subst h3; exact h1.2
theorem LH {bits : Int} {T : Tr} {m : List En} {k : List UInt8} (hT : T.er = grow 0 m) (hp : Pm 0 m) (hd : T.dp k 0 ≤ 256) :
  uU (pK T k) (T.dp k 0) (T.fin k).key ((T.fin k).vd bits) k (mS bits (gV m k)) (iE m k) := by
 have hg := EI (k := k) hT hp
 constructor
 ·
  intro h
  unfold iE at h
  obtain ⟨e, he⟩ := Option.isSome_iff_exists.1 h
  have hv : gV m k = e.v := by unfold gV; rw [he]
  rw [he] at hg
  unfold Tr.G2 at hg
  unfold pK
  rw [hv]
  revert hg
  cases (T.fin k) with
  | nil => intro h; cases h
  | inner => intro h; cases h
  | leaf a q v s =>
   intro h
   dsimp only at h
   split at h
   ·
    rename_i hq
    injection h with h
    have h' : v = e.v := h
    exact ⟨rfl, hq, by show mS bits v = _; rw [h']⟩
   ·
    cases h
 ·
  intro h h1
  have hn : getM m k = none := by
   unfold iE at h
   cases hh : getM m k with
   | none => rfl
   | some e => rw [hh] at h; cases h
  have ha := AM (k := k) hT hp _ (Nat.le_refl _)
  have hl := CB (k := k) hT hp
  have hf : (T.fin k).er = _ := ha.1
  rw [hn] at hg
  have hgm := BX (k := k) (d := 0) (m := m) (T.dp k 0)
  rw [hn] at hgm
  match hm : CD k 0 m (T.dp k 0), hl with
  | [], _ =>
   rw [hm, eG] at hf
   have e0 := Tr.PK hf
   unfold pK at h1
   rw [e0] at h1
   exact absurd h1 (by decide)
  | [e], _ =>
   rw [hm, dI] at hf
   obtain ⟨a, s, e2⟩ := Tr.u9 hf
   rw [e2]
   have hne : e.k ≠ k := fun hk => by
    rw [hm] at hgm
    unfold getM at hgm
    rw [List.find?_cons] at hgm
    simp [hk] at hgm
   refine ⟨hne, ?_⟩
   show T.dp k 0 ≤ fB e.k k
   have hb := KD (k := k) (m := m) (i := T.dp k 0) (e := e) (by rw [hm]; simp)
   obtain ⟨hc1, _, hc3⟩ := oL e.k k
   rcases Nat.lt_or_ge (fB e.k k) (T.dp k 0) with h5 | h5
   ·
    exact absurd (hb _ h5) (hc3 (by omega))
   ·
    exact h5
  | _ :: _ :: _, h => simp at h
theorem _root_.Go.Sp.aCE : cG prog 168 = some ([.pointer none] ++ ([.slice none 0 0] ++ ([.slice none 0 0, .slice none 0 0, .bool false] ++ ([.slice none 0 0] ++ ([.int .i64 0] ++ ([.int .i64 0] ++ ((kc (List.replicate 32 0) ++ kc (List.replicate 32 0)) ++ (kc (List.replicate 32 0) ++ [.slice none 0 0])))))))) := by kernel_rfl
def G9 (bh : Nat) (sr sk sv : Value) (pr : Bool) (se : Value) (pf : List Value) : List Value := [.pointer (some ⟨bh, 0, none⟩)] ++ ([sr] ++ ([sk, sv, .bool pr] ++ ([se] ++ pf)))
def UA : List Value := ([.int .i64 0] ++ ([.int .i64 0] ++ ((kc (List.replicate 32 0) ++ kc (List.replicate 32 0)) ++ (kc (List.replicate 32 0) ++ [.slice none 0 0]))))
theorem T9 : UA.length = 99 := by rfl
theorem sY {X : Nat → Prop} {w : World} {c : Bool} {e : Int} (hX : cU X w) :
  bF prog 122 [.bool c, .int .i64 e].toArray w fun v w' => v = .int .i64 (if c = true then e else 0) ∧ Out Nil w w' := by
 refine bF.aI (N := 7) func122 rfl rfl (by simp) ?_
 have H := St.begin hX
 refine WE.aA (WL.as rfl rfl (WL.nil (WE.seq (WE.aA (WL.mv rfl rfl (WL.nil ?_))))))
 refine WE.cond rfl (fun tM => ?_) (fun tM => ?_)
 ·
  try simp only [bU] at tM
  refine WE.aA (WL.mv rfl rfl (WL.as rfl rfl (WL.nil (WE.ret ⟨[_], _, .nil _, ⟨rfl, trivial⟩, ?_⟩))))
  refine ⟨?_, H.aL⟩
  rw [if_pos tM]
  rfl
 ·
  try simp only [bU] at tM
  refine WE.skip (WE.aA (WL.as rfl rfl (WL.nil (WE.ret ⟨[_], _, .nil _, ⟨rfl, trivial⟩, ?_⟩))))
  refine ⟨?_, H.aL⟩
  rw [if_neg (by simp [tM])]
  rfl
theorem aCZ {X : Nat → Prop} {w : World} {bk bh : Nat} {sr sk sv se : Value} {pr : Bool} {pf : List Value} {rb : List UInt8} (hX : cU X w) (bT : aH X (fun w => aM w bk 168 (G9 bh sr sk sv pr se pf)) w) (dA : aH X (bI sr rb) w) (hr : rb.length = 32) :
  bF prog 121 [.pointer (some ⟨bk, 0, none⟩)].toArray w fun v w' => v = .int .i64 0 ∧ Out Nil w w' := by
 refine bF.aI (N := 10) func121 rfl rfl (by simp) ?_
 have H := ((St.begin hX).add (cE dA)).add (cE bT)
 refine WE.aA (WL.as rfl rfl (WL.nil (WE.aA (WL.mv rfl rfl (WL.pv (PV.nilCheck rfl rfl) rfl (WL.pv (PV.fieldAddr rfl vI rfl) rfl (WL.aY rfl eN rfl rfl (aM.aF (H.p 0 rfl) (aJ.r (aJ.l (aJ.all _)) rfl) rfl) ?_)))))))
 refine WL.pv (PV.dO (by exact (H.p 1 rfl : (bI sr rb) _)) eW rfl) rfl ?_
 refine WL.pv (PV.neq rfl rfl rfl) rfl ?_
 refine WL.call z1 rfl (sY (c := _) (e := 4) H.aS) ?_
 rintro _ w1 ⟨rfl, hO⟩
 replace H := H.out hO
 refine WL.as rfl rfl (WL.nil (WE.ret ⟨[_], _, .nil _, ⟨rfl, trivial⟩, ?_⟩))
 refine ⟨?_, H.aL⟩
 show Value.int .i64 _ = Value.int .i64 0
 congr 1
 simp [hr]
theorem aCX {X : Nat → Prop} {w : World} {bk bh : Nat} {sr sk sv se : Value} {pr : Bool} {pf : List Value} {k : List UInt8} (hX : cU X w) (bT : aH X (fun w => aM w bk 168 (G9 bh sr sk sv pr se pf)) w) (dA : aH X (bI sk k) w) (hk : k.length = 32) :
  bF prog 123 [.pointer (some ⟨bk, 0, none⟩)].toArray w fun v w' => v = .int .i64 0 ∧ Out Nil w w' := by
 refine bF.aI (N := 11) func123 rfl rfl (by simp) ?_
 have H := ((St.begin hX).add (cE dA)).add (cE bT)
 refine WE.aA (WL.as rfl rfl (WL.nil (WE.aA (WL.mv rfl rfl (WL.pv (PV.nilCheck rfl rfl) rfl (WL.pv (PV.fieldAddr rfl kL rfl) rfl (WL.pv (PV.fieldAddr rfl B5 rfl) rfl ?_)))))))
 refine WL.aY rfl eN rfl rfl (aM.aF (H.p 0 rfl) (aJ.r (aJ.r (aJ.l aJ.hd) rfl) rfl) rfl) ?_
 refine WL.pv (PV.dO (by exact (H.p 1 rfl : (bI sk k) _)) eW rfl) rfl ?_
 refine WL.pv (PV.neq rfl rfl rfl) rfl ?_
 refine WL.call z1 rfl (sY (c := _) (e := 2) H.aS) ?_
 rintro _ w1 ⟨rfl, hO⟩
 replace H := H.out hO
 refine WL.as rfl rfl (WL.nil (WE.ret ⟨[_], _, .nil _, ⟨rfl, trivial⟩, ?_⟩))
 refine ⟨?_, H.aL⟩
 show Value.int .i64 _ = Value.int .i64 0
 congr 1
 simp [hk]
theorem aCW {X : Nat → Prop} {w : World} {bk bh : Nat} {sr sk sv se : Value} {pr : Bool} {pf : List Value} {vv : List UInt8} (hX : cU X w) (bT : aH X (fun w => aM w bk 168 (G9 bh sr sk sv pr se pf)) w) (dA : aH X (bI sv vv) w) (hv : vv.length ≤ 65535) :
  bF prog 124 [.pointer (some ⟨bk, 0, none⟩)].toArray w fun v w' => v = .int .i64 0 ∧ Out Nil w w' := by
 refine bF.aI (N := 18) func124 rfl rfl (by simp) ?_
 have H := ((St.begin hX).add (cE dA)).add (cE bT)
 refine WE.aA (WL.as rfl rfl (WL.nil (WE.aA (WL.mv rfl rfl (WL.pv (PV.nilCheck rfl rfl) rfl (WL.pv (PV.fieldAddr rfl kL rfl) rfl (WL.pv (PV.fieldAddr rfl B4 rfl) rfl ?_)))))))
 refine WL.aY rfl uC rfl rfl (aM.aF (H.p 0 rfl) (aJ.r (aJ.r (aJ.l (aJ.tl (aJ.tl aJ.hd rfl) rfl)) rfl) rfl) rfl) ?_
 refine WL.mv rfl rfl ?_
 refine WL.split (t := 8) rfl (fun D6 => ?_) (fun D6 => ?_)
 ·
  refine WL.known (t := 7) (c := true) rfl D6 ?_
  try simp only [bU] at D6
  refine WL.mv rfl rfl (WL.pv (PV.nilCheck rfl rfl) rfl (WL.pv (PV.fieldAddr rfl kL rfl) rfl (WL.pv (PV.fieldAddr rfl RG rfl) rfl (WL.aY rfl eN rfl rfl (aM.aF (H.p 0 rfl) (aJ.r (aJ.r (aJ.l (aJ.tl aJ.hd rfl)) rfl) rfl) rfl) ?_))))
  refine WL.pv (PV.dO (by exact (H.p 1 rfl : (bI sv vv) _)) eW rfl) rfl ?_
  refine WL.pv (PV.gtr rfl rfl rfl) rfl (WL.pv (PV.dB rfl rfl rfl) rfl ?_)
  refine WL.call z1 rfl (sY (c := _) (e := 3) H.aS) ?_
  rintro _ w1 ⟨rfl, hO⟩
  replace H := H.out hO
  refine WL.as rfl rfl (WL.nil (WE.ret ⟨[_], _, .nil _, ⟨rfl, trivial⟩, ?_⟩))
  refine ⟨?_, H.aL⟩
  show Value.int .i64 _ = Value.int .i64 0
  congr 1
  try ((simp; omega))
 ·
  refine WL.known (t := 7) (c := false) rfl D6 ?_
  try simp only [bU] at D6
  refine WL.off rfl (WL.off rfl (WL.off rfl (WL.off rfl (WL.off rfl (WL.off rfl (WL.off rfl (WL.pv (PV.cZ rfl rfl rfl) rfl ?_)))))))
  refine WL.call z1 rfl (sY (c := _) (e := 3) H.aS) ?_
  rintro _ w2 ⟨rfl, hO⟩
  replace H := H.out hO
  refine WL.as rfl rfl (WL.nil (WE.ret ⟨[_], _, .nil _, ⟨rfl, trivial⟩, ?_⟩))
  refine ⟨?_, H.aL⟩
  show Value.int .i64 _ = Value.int .i64 0
  congr 1
  try (first | rfl | (simp; done) | (simp; omega))
theorem aCV {X : Nat → Prop} {w : World} {bk bh : Nat} {sr sk sv se : Value} {pr : Bool} {kd dp : Nat} {lk lv B : List UInt8} {sb : List (List UInt8)} (hX : cU X w) (eT : aM w bk 168 (G9 bh sr sk sv pr se UA)) (bT : aH (fun c_ => X c_ ∨ c_ = bk) (bI se (e8 kd dp lk lv B sb)) w) (hp : iG kd dp lk lv B sb) :
  bF prog 125 [.pointer (some ⟨bk, 0, none⟩)].toArray w fun v w' => ∃ sl, v = .int .i64 0 ∧ sl.oneCell' = true ∧ Out (· = bk) w w' ∧ aM w' bk 168 (G9 bh sr sk sv pr se (fG kd dp lk lv B sl)) ∧ aH (fun c => X c ∨ c = bk) (eQ sl sb) w' := by
 refine bF.aI (N := 15) func125 rfl rfl (by simp) ?_
 have H := (St.c7 (b := bk) (t := 168) (l := G9 bh sr sk sv pr se UA) hX eT).add (bX bT)
 have lX := hp.tJ
 have hlv := hp.lvl
 have o5 := hp.bl
 refine WE.aA (WL.as rfl rfl (WL.nil (WE.aA (WL.mv rfl rfl (WL.mv rfl rfl (WL.pv (PV.nilCheck rfl rfl) rfl (WL.pv (PV.fieldAddr rfl WM rfl) rfl ?_)))))))
 refine WL.aY rfl eN rfl rfl (aM.aF (H.o 0 rfl) (aJ.r (aJ.r (aJ.r (aJ.l (aJ.all _)) rfl) rfl) rfl) rfl) ?_
 refine WL.call aFF rfl (TP (s := se) (kd := kd) (dp := dp) (lk := lk) (lv := lv) (B := B) (sb := sb) H.aS (by exact (H.bK 0 rfl : aH _ (bI se (e8 kd dp lk lv B sb)) _)) hp) ?_
 rintro _ w1 ⟨sl, rfl, hO, hR⟩
 have hsl := cR.fH (hR.here)
 replace H := (H.out hO).add hR
 have vB : (fG kd dp lk lv B sl).length = 99 := gB lX hlv o5
 have hzl := T9
 refine WL.mv rfl rfl (WL.pv (PV.extract rfl rfl rfl) rfl (WL.pv (PV.extract rfl rfl rfl) rfl (WL.pv (PV.nilCheck rfl rfl) rfl (WL.pv (PV.fieldAddr rfl vH rfl) rfl ?_))))
 refine WL.kZ H 0 rfl rfl rfl (new := fG kd dp lk lv B sl) rfl (cH kQ (by simp only [aR, aU, aB, aD]; omega)) (r4 hsl) (Laid.at (Laid.right (Laid.right (Laid.right (Laid.right (Laid.all (by simp only [aR, aU, aB, aD]; omega)) rfl) rfl) rfl) rfl) rfl) rfl ?_
 intro w2 H
 refine WL.as rfl rfl (WL.nil (WE.aA (WL.mv rfl rfl (WL.as rfl rfl (WL.nil (WE.ret ⟨[_], _, .nil _, ⟨rfl, trivial⟩, ?_⟩))))))
 exact ⟨sl, rfl, hsl, H.cL, H.o 0 rfl, H.fL (by exact (H.bK 0 rfl : aH _ (eQ sl sb) _))⟩
theorem aAs {X : Nat → Prop} {w : World} {kd dp : Nat} {lk lv B k vd : List UInt8} {sl : Value} {pr : Bool} (hX : cU X w) (vD : kd = 0 ∨ kd = 1) (lX : lk.length = 32) (hlv : lv.length = 32) (o5 : B.length = 32) (hs1 : sl.oneCell' = true) (hk : k.length = 32) (hvd : vd.length = 32) (tK : uU kd dp lk lv k vd pr) :
  bF prog 169 [.agg (fG kd dp lk lv B sl).toArray, .agg (kc k).toArray, .agg (kc vd).toArray, .bool pr].toArray w fun v w' => v = .bool true ∧ Out Nil w w' := by
 refine bF.aI (N := 44) func169 rfl rfl (by simp) ?_
 have H := St.begin hX
 have vB : (fG kd dp lk lv B sl).length = 99 := gB lX hlv o5
 refine WE.aA ?_
 refine WL.box (l := fG kd dp lk lv B sl) H rfl rfl rfl ?_
 intro b4 w1 H
 refine WL.box (l := kc k) H rfl rfl rfl ?_
 intro b5 w2 H
 refine WL.box (l := kc vd) H rfl rfl rfl ?_
 intro b6 w3 H
 refine WL.as rfl rfl (WL.nil (WE.seq (WE.block (WE.aA (WL.mv rfl rfl (WL.as rfl rfl (WL.nil ?_)))))))
 refine WE.cond rfl (fun wY => ?_) (fun wY => ?_)
 ·
  try simp only [bU] at wY
  obtain ⟨vE, aHH, aHF⟩ := tK.1 wY
  subst aHH
  subst aHF
  refine WE.aA (WL.pv (PV.fieldAddr rfl mJ rfl) rfl (WL.aY rfl oZ rfl rfl (aM.aF (H.l 2 rfl) (aJ.l (aJ.all _)) rfl) (WL.pv (PV.eql rfl rfl rfl) rfl (WL.mv rfl rfl ?_))))
  refine WL.known (t := 14) (c := true) rfl (by simp [vE]) ?_
  refine WL.pv (PV.fieldAddr rfl oH rfl) rfl ?_
  refine WL.bC rfl HR rfl rfl (aM.aF (H.l 2 rfl) (aJ.r (aJ.r (aJ.l (aJ.all _)) rfl) rfl) rfl) (cH AX (by simp only [aR, aU, aB, aD]; omega)) ?_
  refine WL.bC rfl cV rfl rfl (aM.aF (H.l 1 rfl) (aJ.all _) rfl) (cH cM (by simp only [aR, aU, aB, aD]; omega)) ?_
  refine WL.bC rfl gT rfl rfl (aM.aF (H.l 0 rfl) (aJ.all _) rfl) (cH dJ (by simp only [aR, aU, aB, aD]; omega)) ?_
  refine WL.pv (PV.dD rfl aAX NM (Fl.cons rfl rfl (by simp only [aR, aU, aB, aD]; omega) (Laid.left (Laid.all (by simp only [aR, aU, aB, aD]; omega))) (Fl.cons rfl rfl (by simp only [aR, aU, aB, aD]; omega) (Laid.right (Laid.all (by simp only [aR, aU, aB, aD]; omega)) (by simp only [aR, aU, aB, aD]; omega)) Fl.nil))) rfl ?_
  refine WL.pv (PV.aFW rfl aFX rfl rfl (CJ.struct (n := 3) aFY (TN.cons (dS.agg cV (cH cM (by simp only [aR, aU, aB, aD]; omega)) (aJ.l (aJ.all _))) (dS.agg cV (cH cM (by simp only [aR, aU, aB, aD]; omega)) (aJ.l (aJ.all _))) (CJ.mono (CJ.bytes gM oW gY (by assumption) (by assumption)) (by decide)) (TN.cons (dS.agg gT (cH dJ (by simp only [aR, aU, aB, aD]; omega)) (aJ.r (aJ.all _) (by simp only [aR, aU, aB, aD]; omega))) (dS.agg gT (cH dJ (by simp only [aR, aU, aB, aD]; omega)) (aJ.r (aJ.all _) (by simp only [aR, aU, aB, aD]; omega))) (CJ.mono (CJ.bytes oN oW gY (by assumption) (by assumption)) (by decide)) TN.nil))) (by decide)) rfl ?_
  refine WL.pv (PV.dB rfl rfl rfl) rfl (WL.as rfl rfl (WL.nil (WE.ret ⟨[_], _, .nil _, ⟨rfl, trivial⟩, ?_⟩)))
  refine ⟨?_, H.aL⟩
  show Value.bool _ = Value.bool true
  congr 1
  try ((simp; done))
 ·
  try simp only [bU] at wY
  have hsf := tK.2 wY
  refine WE.aA (WL.pv (PV.fieldAddr rfl mJ rfl) rfl (WL.aY rfl oZ rfl rfl (aM.aF (H.l 2 rfl) (aJ.l (aJ.all _)) rfl) (WL.pv (PV.eql rfl rfl rfl) rfl (WL.as rfl rfl (WL.nil ?_)))))
  refine WE.cond rfl (fun aBz => ?_) (fun aBz => ?_)
  ·
   try simp only [bU] at aBz
   have vE : kd = 1 := by omega
   obtain ⟨T2, hc1⟩ := hsf vE
   refine WE.bG (.take 0 (.take 1 (.take 2 (.take 3 (.take 4 (.take 5 (.take 6 (.take 7 (.take 8 (.take 9 (.take 11 (.take 12 (.aG 10 (.take 13 (.take 14 (.take 15 .done)))))))))))))))) mixed (by kernel_rfl) ?_
   replace H := H.out (Out.drew _)
   refine WP.aC rfl rfl (PV.fieldAddr rfl oH rfl) (WP.aC rfl rfl (PV.fieldAddr rfl kE rfl) ?_)
   refine WP.dF rfl rfl rfl cV rfl (aM.aF (H.l 2 rfl) (aJ.r (aJ.r (aJ.l (aJ.l (aJ.all _))) rfl) rfl) rfl) (cH cM (by simp only [aR, aU, aB, aD]; omega)) ?_
   refine WP.dF rfl rfl rfl cV rfl (aM.aF (H.l 1 rfl) (aJ.all _) rfl) (cH cM (by simp only [aR, aU, aB, aD]; omega)) ?_
   refine WP.aC rfl rfl (PV.PM rfl gM oW gY (by kernel_rfl) rfl rfl (by assumption) (by assumption)) (WP.mv rfl rfl rfl ?_)
   refine WP.known (t := 31) (c := true) rfl (by simp [T2]) ?_
   refine WP.aC rfl rfl (PV.fieldAddr rfl oH rfl) (WP.aC rfl rfl (PV.fieldAddr rfl kE rfl) ?_)
   refine WP.dF rfl rfl rfl cV rfl (aM.aF (H.l 2 rfl) (aJ.r (aJ.r (aJ.l (aJ.l (aJ.all _))) rfl) rfl) rfl) (cH cM (by simp only [aR, aU, aB, aD]; omega)) ?_
   refine WP.dF rfl rfl rfl cV rfl (aM.aF (H.l 1 rfl) (aJ.all _) rfl) (cH cM (by simp only [aR, aU, aB, aD]; omega)) ?_
   refine WP.aC rfl rfl (PV.fieldAddr rfl q8 rfl) (WP.aQ rfl rfl (RV.aZ rfl oZ rfl) (aM.aF (H.l 2 rfl) (aJ.r (aJ.l (aJ.all _)) rfl) rfl) (WP.aG rfl ?_))
   refine WL.call RK rfl (yA (a := lk) (b := k) H.aS lX hk) ?_
   rintro _ w4 ⟨rfl, hO⟩
   replace H := H.out hO
   refine WL.nil ⟨(fa (rk hO) (fa (nw 10 9) (fa (nw 10 8) (fa (nw 10 3) (fa (nw 10 2) c5))))), ?_⟩
   refine WP.aC rfl rfl (PV.geq rfl rfl rfl) (WP.aC rfl rfl (PV.dB rfl rfl rfl) (WP.as rfl rfl rfl (WP.done (WE.ret ⟨[_], _, .nil _, ⟨rfl, trivial⟩, ?_⟩))))
   refine ⟨?_, H.aL⟩
   (show Value.bool _ = Value.bool true; congr 1; exact decide_eq_true (by omega))
  ·
   try simp only [bU] at aBz
   have NJ : kd = 0 := by omega
   refine WE.skip (WE.aA (WL.pv (PV.fieldAddr rfl mJ rfl) rfl (WL.aY rfl oZ rfl rfl (aM.aF (H.l 2 rfl) (aJ.l (aJ.all _)) rfl) (WL.pv (PV.eql rfl rfl rfl) rfl (WL.as rfl rfl (WL.nil (WE.ret ?_)))))))
   refine ⟨[_], _, .nil _, ⟨rfl, trivial⟩, ?_⟩
   refine ⟨?_, H.aL⟩
   show Value.bool _ = Value.bool true
   congr 1
   try ((simp [NJ]; done))
theorem F3 {X : Nat → Prop} {w : World} {bk bh bc : Nat} {bits n0 : Int} {sr sk sv se : Value} {pr : Bool} {k vv rb : List UInt8} {kd dp : Nat} {lk lv B : List UInt8} {sl : Value} {sb : List (List UInt8)} (hX : cU X w) (eT : aM w bc 213 ([.int .i64 n0])) (bT : aH (fun c_ => X c_ ∨ c_ = bc) (fF bh bc bits) w) (dA : aH (fun c_ => X c_ ∨ c_ = bc) (fun w => aM w bk 168 (G9 bh sr sk sv pr se (fG kd dp lk lv B sl))) w) (fN : aH (fun c_ => X c_ ∨ c_ = bc) (bI sk k) w) (jO : aH (fun c_ => X c_ ∨ c_ = bc) (bI sv vv) w) (nE : aH (fun c_ => X c_ ∨ c_ = bc) (eQ sl sb) w) (rJ : aH (fun c_ => X c_ ∨ c_ = bc) (aX) w) (bR : 0 ≤ bits ∧ bits ≤ 256) (hp : iG kd dp lk lv B sb) (hk : k.length = 32) (hv : vv.length ≤ 65535) (tK : uU kd dp lk lv k (mS bits vv) pr) :
  bF prog 128 [.pointer (some ⟨bk, 0, none⟩)].toArray w fun v w' => ∃ m, v = .bool true ∧ Out (· = bc) w w' ∧ aM w' bc 213 [.int .i64 m] := by
 refine bF.aI (N := 38) func128 rfl rfl (by simp) ?_
 have H := ((((((St.c7 (b := bc) (t := 213) (l := [.int .i64 n0]) hX eT).add (bX rJ)).add (bX nE)).add (bX jO)).add (bX fN)).add (bX dA)).add (bX bT)
 have vD := hp.kd
 have lX := hp.tJ
 have hlv := hp.lvl
 have o5 := hp.bl
 have vB : (fG kd dp lk lv B sl).length = 99 := gB lX hlv o5
 have aDx := fZ bits vv
 have hs1 : sl.oneCell' = true := cR.fH (nE.here)
 have BN : (List.replicate 32 (0 : UInt8)).length = 32 := List.length_replicate
 obtain ⟨ka, kcp, rfl⟩ := bI.some (fN.here) (by omega)
 have aDC : pr = false → uU kd dp lk lv k (List.replicate 32 0) pr := fun h => ⟨fun h2 => by (rw [h] at h2; cases h2), tK.2⟩
 refine WE.aA (WL.as rfl rfl (WL.nil (WE.aA ?_)))
 refine WL.alloc H rfl mQ rfl ?_
 intro b3 w1 H
 refine WL.nil (WE.seq (WE.aA (WL.mv rfl rfl (WL.pv (PV.nilCheck rfl rfl) rfl (WL.pv (PV.fieldAddr rfl kL rfl) rfl (WL.pv (PV.fieldAddr rfl B4 rfl) rfl ?_))))))
 refine WL.aY rfl uC rfl rfl (aM.aF (H.p 1 rfl) (aJ.r (aJ.r (aJ.l (aJ.tl (aJ.tl aJ.hd rfl) rfl)) rfl) rfl) rfl) ?_
 refine WL.nil ?_
 refine WE.cond rfl (fun mP => ?_) (fun mP => ?_)
 ·
  try simp only [bU] at mP
  refine WE.draw (.take 0 (.take 1 (.take 2 (.take 3 (.take 4 (.take 5 (.take 6 (.take 7 (.take 8 (.aG 9 (.aG 10 (.aG 11 .done)))))))))))) mixed (by kernel_rfl) ?_
  replace H := H.out (Out.drew _)
  refine WP.mv rfl rfl rfl (WP.aC rfl rfl (PV.nilCheck rfl rfl) (WP.aC rfl rfl (PV.fieldAddr rfl JX rfl) (WP.aQ rfl rfl (RV.aZ rfl u3 rfl) (aM.aF (H.p 1 rfl) (aJ.l (aJ.all _)) rfl) (WP.mv rfl rfl rfl (WP.aC rfl rfl (PV.nilCheck rfl rfl) (WP.aC rfl rfl (PV.fieldAddr rfl kL rfl) (WP.aC rfl rfl (PV.fieldAddr rfl RG rfl) ?_)))))))
  refine WP.aQ rfl rfl (RV.aZ rfl eN rfl) (aM.aF (H.p 1 rfl) (aJ.r (aJ.r (aJ.l (aJ.tl aJ.hd rfl)) rfl) rfl) rfl) ?_
  refine WP.aG rfl ?_
  refine WL.call Z7 rfl (KI (la := vv) H.aS (by exact (H.bK 3 rfl : aH _ (bI sv vv) _)) (by omega)) ?_
  rintro v18 w2 ⟨hO, hR⟩
  replace H := (H.out hO).add hR
  refine WL.nil ⟨(fa (nw 9 8) (fa (fun _ _ => (aM.aF (H.p 2 rfl) (aJ.l (aJ.all _)) rfl)) c5)), ?_⟩
  refine WP.aG rfl ?_
  refine WL.call G6 rfl (rH (la := 2 :: vv) (bits := bits) H.aS (H.o 0 rfl) (by exact (H.aK 0 rfl 1 rfl : aH _ (fF bh bc bits) _)) (by exact (H.aK 0 rfl 0 rfl : aH _ (bI v18 (2 :: vv)) _)) (by exact (H.aK 0 rfl 6 rfl : aH _ (aX) _)) bR (by simp; omega)) ?_
  rintro _ w3 ⟨rfl, hO, hB⟩
  replace H := H.eU 0 rfl hO hB
  refine WL.nil ⟨(fa (nw 10 8) (fa (nw 10 3) c5)), ?_⟩
  refine WP.aG rfl ?_
  refine WL.aT H 0 rfl rfl rfl (new := kc (mS bits vv)) rfl (by exact dJ) (bJ _) (Laid.at (Laid.all (by simp only [aR, aU, aB, aD])) rfl) rfl ?_
  intro w4 H
  refine WL.nil ⟨(fa (nw 11 8) (fa (nw 11 3) c5)), ?_⟩
  refine WP.done ?_
  refine WE.bG (.take 0 (.take 1 (.take 2 (.take 3 (.take 4 (.take 5 (.take 6 (.take 7 (.take 8 (.take 11 (.take 12 (.take 13 (.take 14 (.take 15 (.take 16 (.aG 9 (.take 10 (.aG 17 (.take 18 .done))))))))))))))))))) mixed (by kernel_rfl) ?_
  replace H := H.out (Out.drew _)
  refine WP.mv rfl rfl rfl (WP.aC rfl rfl (PV.nilCheck rfl rfl) (WP.aC rfl rfl (PV.fieldAddr rfl vH rfl) ?_))
  refine WP.dF rfl rfl rfl mN rfl (aM.aF (H.p 2 rfl) (aJ.r (aJ.r (aJ.r (aJ.r (aJ.all _) rfl) rfl) rfl) rfl) rfl) (cH kQ (by simp only [aR, aU, aB, aD]; omega)) ?_
  refine WP.mv rfl rfl rfl (WP.aC rfl rfl (PV.nilCheck rfl rfl) (WP.aC rfl rfl (PV.fieldAddr rfl kL rfl) (WP.aC rfl rfl (PV.fieldAddr rfl B5 rfl) ?_)))
  refine WP.aQ rfl rfl (RV.aZ rfl eN rfl) (aM.aF (H.p 2 rfl) (aJ.r (aJ.r (aJ.l aJ.hd) rfl) rfl) rfl) ?_
  refine WP.dF rfl rfl rfl gT rfl (aM.aF (H.l 0 rfl) (aJ.all _) rfl) (by exact dJ) ?_
  refine WP.mv rfl rfl rfl (WP.aC rfl rfl (PV.nilCheck rfl rfl) (WP.aC rfl rfl (PV.fieldAddr rfl kL rfl) (WP.aC rfl rfl (PV.fieldAddr rfl B4 rfl) ?_)))
  refine WP.aQ rfl rfl (RV.aZ rfl uC rfl) (aM.aF (H.p 2 rfl) (aJ.r (aJ.r (aJ.l (aJ.tl (aJ.tl aJ.hd rfl) rfl)) rfl) rfl) rfl) ?_
  refine WP.aG rfl ?_
  refine WL.pv (PV.uS (n := 32) rfl gM (by rw [hk]; rfl)) rfl ?_
  refine WL.nil ⟨(fa (fun _ _ => (aM.aF (H.p 2 rfl) (aJ.r (aJ.r (aJ.l (aJ.tl (aJ.tl aJ.hd rfl) rfl)) rfl) rfl) rfl)) (fa (fun _ _ => (aM.aF (H.l 0 rfl) (aJ.all _) rfl)) (fa (nw 9 8) (fa (fun _ _ => (aM.aF (H.p 2 rfl) (aJ.r (aJ.r (aJ.r (aJ.r (aJ.all _) rfl) rfl) rfl) rfl) rfl)) c5)))), ?_⟩
  refine WP.dF rfl rfl rfl cV rfl ((bI.whole (by exact (H.p 3 rfl : (bI _ k) _)))) (cH cM (by simp only [aR, aU, aB, aD]; omega)) ?_
  refine WP.aG rfl ?_
  refine WL.call Z6 rfl (aAs (kd := kd) (dp := dp) (lk := lk) (lv := lv) (B := B) (k := k) (sl := sl) (pr := pr) H.aS vD lX hlv o5 hs1 hk (by with_reducible exact aDx) (by with_reducible exact tK)) ?_
  rintro _ w5 ⟨rfl, hO⟩
  replace H := H.out hO
  refine WL.nil ⟨(fa (nw 17 10) (fa (nw 17 16) (fa (nw 17 11) (fa (nw 17 8) (fa (nw 17 3) c5))))), ?_⟩
  refine WP.as rfl rfl rfl (WP.done (WE.ret ⟨[_], _, .nil _, ⟨rfl, trivial⟩, ?_⟩))
  exact ⟨_, rfl, H.cL, H.o 0 rfl⟩
 ·
  try simp only [bU] at mP
  refine WE.skip ?_
  refine WE.bG (.take 0 (.take 1 (.take 2 (.take 3 (.take 4 (.take 5 (.take 6 (.take 7 (.take 8 (.take 11 (.take 12 (.take 13 (.take 14 (.take 15 (.take 16 (.aG 9 (.take 10 (.aG 17 (.take 18 .done))))))))))))))))))) mixed (by kernel_rfl) ?_
  replace H := H.out (Out.drew _)
  refine WP.mv rfl rfl rfl (WP.aC rfl rfl (PV.nilCheck rfl rfl) (WP.aC rfl rfl (PV.fieldAddr rfl vH rfl) ?_))
  refine WP.dF rfl rfl rfl mN rfl (aM.aF (H.p 1 rfl) (aJ.r (aJ.r (aJ.r (aJ.r (aJ.all _) rfl) rfl) rfl) rfl) rfl) (cH kQ (by simp only [aR, aU, aB, aD]; omega)) ?_
  refine WP.mv rfl rfl rfl (WP.aC rfl rfl (PV.nilCheck rfl rfl) (WP.aC rfl rfl (PV.fieldAddr rfl kL rfl) (WP.aC rfl rfl (PV.fieldAddr rfl B5 rfl) ?_)))
  refine WP.aQ rfl rfl (RV.aZ rfl eN rfl) (aM.aF (H.p 1 rfl) (aJ.r (aJ.r (aJ.l aJ.hd) rfl) rfl) rfl) ?_
  refine WP.dF rfl rfl rfl gT rfl (aM.aF (H.l 0 rfl) (aJ.all _) rfl) (by exact dJ) ?_
  refine WP.mv rfl rfl rfl (WP.aC rfl rfl (PV.nilCheck rfl rfl) (WP.aC rfl rfl (PV.fieldAddr rfl kL rfl) (WP.aC rfl rfl (PV.fieldAddr rfl B4 rfl) ?_)))
  refine WP.aQ rfl rfl (RV.aZ rfl uC rfl) (aM.aF (H.p 1 rfl) (aJ.r (aJ.r (aJ.l (aJ.tl (aJ.tl aJ.hd rfl) rfl)) rfl) rfl) rfl) ?_
  refine WP.aG rfl ?_
  refine WL.pv (PV.uS (n := 32) rfl gM (by rw [hk]; rfl)) rfl ?_
  refine WL.nil ⟨(fa (fun _ _ => (aM.aF (H.p 1 rfl) (aJ.r (aJ.r (aJ.l (aJ.tl (aJ.tl aJ.hd rfl) rfl)) rfl) rfl) rfl)) (fa (fun _ _ => (aM.aF (H.l 0 rfl) (aJ.all _) rfl)) (fa (nw 9 8) (fa (fun _ _ => (aM.aF (H.p 1 rfl) (aJ.r (aJ.r (aJ.r (aJ.r (aJ.all _) rfl) rfl) rfl) rfl) rfl)) c5)))), ?_⟩
  refine WP.dF rfl rfl rfl cV rfl ((bI.whole (by exact (H.p 2 rfl : (bI _ k) _)))) (cH cM (by simp only [aR, aU, aB, aD]; omega)) ?_
  refine WP.aG rfl ?_
  refine WL.call Z6 rfl (aAs (kd := kd) (dp := dp) (lk := lk) (lv := lv) (B := B) (k := k) (sl := sl) (pr := pr) H.aS vD lX hlv o5 hs1 hk (by with_reducible exact BN) (by with_reducible exact aDC mP)) ?_
  rintro _ w6 ⟨rfl, hO⟩
  replace H := H.out hO
  refine WL.nil ⟨(fa (nw 17 10) (fa (nw 17 16) (fa (nw 17 11) (fa (nw 17 8) (fa (nw 17 3) c5))))), ?_⟩
  refine WP.as rfl rfl rfl (WP.done (WE.ret ⟨[_], _, .nil _, ⟨rfl, trivial⟩, ?_⟩))
  exact ⟨_, rfl, H.cL, H.o 0 rfl⟩
theorem VL {X : Nat → Prop} {w : World} {bk bh bc : Nat} {bits n0 : Int} {sr sk sv se : Value} {pr : Bool} {k vv rb : List UInt8} {kd dp : Nat} {lk lv B : List UInt8} {sl : Value} {sb : List (List UInt8)} (hX : cU X w) (eT : aM w bc 213 ([.int .i64 n0])) (bT : aH (fun c_ => X c_ ∨ c_ = bc) (fF bh bc bits) w) (dA : aH (fun c_ => X c_ ∨ c_ = bc) (fun w => aM w bk 168 (G9 bh sr sk sv pr se (fG kd dp lk lv B sl))) w) (fN : aH (fun c_ => X c_ ∨ c_ = bc) (bI sk k) w) (jO : aH (fun c_ => X c_ ∨ c_ = bc) (bI sr rb) w) (nE : aH (fun c_ => X c_ ∨ c_ = bc) (eQ sl sb) w) (rJ : aH (fun c_ => X c_ ∨ c_ = bc) (aX) w) (bR : 0 ≤ bits ∧ bits ≤ 256) (hp : iG kd dp lk lv B sb) (hk : k.length = 32) (hr : rb.length = 32) :
  bF prog 130 [.pointer (some ⟨bk, 0, none⟩)].toArray w fun v w' => ∃ m, v = .bool (decide ((eP bits k (fI bits dp B sb) (dP (cN (dX kd lk lv)) bits) dp) = rb)) ∧ Out (· = bc) w w' ∧ aM w' bc 213 [.int .i64 m] := by
 refine bF.aI (N := 36) func130 rfl rfl (by simp) ?_
 have H := ((((((St.c7 (b := bc) (t := 213) (l := [.int .i64 n0]) hX eT).add (bX rJ)).add (bX nE)).add (bX jO)).add (bX fN)).add (bX dA)).add (bX bT)
 have vD := hp.kd
 have lX := hp.tJ
 have hlv := hp.lvl
 have o5 := hp.bl
 have vB : (fG kd dp lk lv B sl).length = 99 := gB lX hlv o5
 have aDx := fZ bits vv
 have hrl : (eP bits k (fI bits dp B sb) (dP (cN (dX kd lk lv)) bits) dp).length = 32 := nN (cY _ _) _
 obtain ⟨ka, kcp, rfl⟩ := bI.some (fN.here) (by omega)
 obtain ⟨ra, rcp, rfl⟩ := bI.some (jO.here) (by omega)
 refine WE.aA (WL.as rfl rfl (WL.nil ?_))
 refine WE.bG (.take 0 (.take 1 (.take 2 (.take 3 (.take 4 (.take 5 (.take 6 (.take 7 (.take 8 (.take 9 (.take 10 (.take 11 (.take 12 (.iW 13 (.take 14 (.iW 15 (.take 16 (.take 17 (.take 18 (.aG 19 (.aG 20 (.take 21 .done)))))) 19 (.aG 15 (.take 16 (.take 17 (.take 18 (.aG 20 (.take 21 .done)))))))) 19 (.aG 13 (.take 14 (.aG 15 (.take 16 (.take 17 (.take 18 (.aG 20 (.take 21 .done)))))))))))))))))))))) mixed (by kernel_rfl) ?_
 replace H := H.out (Out.drew _)
 refine WP.mv rfl rfl rfl (WP.aC rfl rfl (PV.nilCheck rfl rfl) (WP.aC rfl rfl (PV.fieldAddr rfl JX rfl) (WP.aQ rfl rfl (RV.aZ rfl u3 rfl) (aM.aF (H.p 1 rfl) (aJ.l (aJ.all _)) rfl) (WP.mv rfl rfl rfl (WP.aC rfl rfl (PV.nilCheck rfl rfl) (WP.aC rfl rfl (PV.fieldAddr rfl vH rfl) ?_))))))
 refine WP.dF rfl rfl rfl mN rfl (aM.aF (H.p 1 rfl) (aJ.r (aJ.r (aJ.r (aJ.r (aJ.all _) rfl) rfl) rfl) rfl) rfl) (cH kQ (by simp only [aR, aU, aB, aD]; omega)) ?_
 refine WP.mv rfl rfl rfl (WP.aC rfl rfl (PV.nilCheck rfl rfl) (WP.aC rfl rfl (PV.fieldAddr rfl kL rfl) (WP.aC rfl rfl (PV.fieldAddr rfl B5 rfl) ?_)))
 refine WP.aQ rfl rfl (RV.aZ rfl eN rfl) (aM.aF (H.p 1 rfl) (aJ.r (aJ.r (aJ.l aJ.hd) rfl) rfl) rfl) ?_
 refine WP.iW rfl rfl ?_ ?_ 
 ·
  refine WL.pv (PV.uS (n := 32) rfl gM (by rw [hk]; rfl)) rfl ?_
  refine WL.nil ⟨(fa (nw 13 12) (fa (fun _ _ => (aM.aF (H.p 1 rfl) (aJ.r (aJ.r (aJ.r (aJ.r (aJ.all _) rfl) rfl) rfl) rfl) rfl)) (fa (fun _ _ => (aM.aF (H.p 1 rfl) (aJ.l (aJ.all _)) rfl)) c5))), ?_⟩
  refine WP.dF rfl rfl rfl cV rfl ((bI.whole (by exact (H.p 2 rfl : (bI _ k) _)))) (cH cM (by simp only [aR, aU, aB, aD]; omega)) ?_
  refine WP.iW rfl rfl ?_ ?_ 
  ·
   refine WL.call RJ rfl (CI (kd := kd) (dp := dp) (lk := lk) (lv := lv) (B := B) (sl := sl) (sb := sb) (bits := bits) (k := k) H.aS (H.o 0 rfl) (by exact (H.aK 0 rfl 0 rfl : aH _ (fF bh bc bits) _)) (by exact (H.aK 0 rfl 4 rfl : aH _ (eQ sl sb) _)) (by exact (H.aK 0 rfl 5 rfl : aH _ (aX) _)) bR hp hk) ?_
   rintro _ w1 ⟨m21, rfl, hO, hB⟩
   replace H := H.eU 0 rfl hO hB
   refine WL.nil ⟨(fa (nw 15 14) (fa (nw 15 12) (fa (nw 15 7) (fa (nw 15 3) c5)))), ?_⟩
   refine WP.mv rfl rfl rfl (WP.aC rfl rfl (PV.extract rfl rfl rfl) (WP.aC rfl rfl (PV.extract rfl rfl rfl) (WP.aG rfl ?_)))
   refine WL.alloc H rfl mQ rfl ?_
   intro b3 w2 H
   refine WL.nil ⟨(fa (fun _ _ => ((bI.whole (by exact (H.p 2 rfl : (bI _ k) _))))) (fa (fun _ _ => (aM.aF (H.p 1 rfl) (aJ.r (aJ.r (aJ.l aJ.hd) rfl) rfl) rfl)) (fa (fun _ _ => (aM.aF (H.p 1 rfl) (aJ.r (aJ.r (aJ.r (aJ.r (aJ.all _) rfl) rfl) rfl) rfl) rfl)) (fa (fun _ _ => (aM.aF (H.p 1 rfl) (aJ.l (aJ.all _)) rfl)) c5)))), ?_⟩
   refine WP.aG rfl ?_
   refine WL.aT H 0 rfl rfl rfl (new := kc (eP bits k (fI bits dp B sb) (dP (cN (dX kd lk lv)) bits) dp)) rfl (cH dJ (by simp only [aR, aU, aB, aD]; omega)) (bJ _) (Laid.at (Laid.all (by simp only [aR, aU, aB, aD]; omega)) rfl) rfl ?_
   intro w3 H
   refine WL.nil ⟨(fa (nw 20 14) (fa (nw 20 12) (fa (nw 20 7) (fa (nw 20 3) c5)))), ?_⟩
   refine WP.as rfl rfl rfl (WP.done ?_)
   refine WE.bG (.take 0 (.take 1 (.take 2 (.take 3 (.take 4 (.take 5 (.take 6 (.take 7 (.aG 8 (.take 9 (.take 10 (.take 11 (.take 12 .done))))))))))))) mixed (by kernel_rfl) ?_
   replace H := H.out (Out.drew _)
   refine WP.mv rfl rfl rfl (WP.aC rfl rfl (PV.eql rfl rfl rfl) (WP.mv rfl rfl rfl ?_))
   refine WP.known (t := 26) (c := true) rfl rfl ?_
   refine WP.dF rfl rfl rfl gT rfl (aM.aF (H.l 0 rfl) (aJ.all _) rfl) (cH dJ (by simp only [aR, aU, aB, aD]; omega)) ?_
   refine WP.mv rfl rfl rfl (WP.aC rfl rfl (PV.nilCheck rfl rfl) (WP.aC rfl rfl (PV.fieldAddr rfl vI rfl) (WP.aQ rfl rfl (RV.aZ rfl eN rfl) (aM.aF (H.p 1 rfl) (aJ.r (aJ.l (aJ.all _)) rfl) rfl) (WP.aG rfl ?_))))
   refine WL.pv (PV.uS (n := 32) rfl oN (by rw [hr]; rfl)) rfl ?_
   refine WL.nil ⟨(fa (nw 8 7) (fa (fun _ _ => (aM.aF (H.l 0 rfl) (aJ.all _) rfl)) c5)), ?_⟩
   refine WP.dF rfl rfl rfl gT rfl ((bI.whole (by exact (H.p 3 rfl : (bI _ rb) _)))) (cH dJ (by simp only [aR, aU, aB, aD]; omega)) ?_
   refine WP.aC rfl rfl (PV.B8 rfl oN oW gY (by kernel_rfl) rfl rfl (by assumption) (by assumption)) (WP.aC rfl rfl (PV.dB rfl rfl rfl) (WP.as rfl rfl rfl (WP.done (WE.ret ⟨[_], _, .nil _, ⟨rfl, trivial⟩, ?_⟩))))
   exact ⟨_, rfl, H.cL, H.o 0 rfl⟩
  ·
   refine WL.alloc H rfl mQ rfl ?_
   intro b3 w4 H
   refine WL.nil ⟨(fa (fun _ _ => ((bI.whole (by exact (H.p 2 rfl : (bI _ k) _))))) (fa (fun _ _ => (aM.aF (H.p 1 rfl) (aJ.r (aJ.r (aJ.l aJ.hd) rfl) rfl) rfl)) (fa (fun _ _ => (aM.aF (H.p 1 rfl) (aJ.r (aJ.r (aJ.r (aJ.r (aJ.all _) rfl) rfl) rfl) rfl) rfl)) (fa (fun _ _ => (aM.aF (H.p 1 rfl) (aJ.l (aJ.all _)) rfl)) c5)))), ?_⟩
   refine WP.aG rfl ?_
   refine WL.call RJ rfl (CI (kd := kd) (dp := dp) (lk := lk) (lv := lv) (B := B) (sl := sl) (sb := sb) (bits := bits) (k := k) H.aS (H.o 0 rfl) (by exact (H.aK 0 rfl 0 rfl : aH _ (fF bh bc bits) _)) (by exact (H.aK 0 rfl 4 rfl : aH _ (eQ sl sb) _)) (by exact (H.aK 0 rfl 5 rfl : aH _ (aX) _)) bR hp hk) ?_
   rintro _ w5 ⟨m21, rfl, hO, hB⟩
   replace H := H.eU 0 rfl hO hB
   refine WL.nil ⟨(fa (nw 15 14) (fa (nw 15 12) (fa (nw 15 7) (fa (nw 15 3) c5)))), ?_⟩
   refine WP.mv rfl rfl rfl (WP.aC rfl rfl (PV.extract rfl rfl rfl) (WP.aC rfl rfl (PV.extract rfl rfl rfl) (WP.aG rfl ?_)))
   refine WL.aT H 0 rfl rfl rfl (new := kc (eP bits k (fI bits dp B sb) (dP (cN (dX kd lk lv)) bits) dp)) rfl (cH dJ (by simp only [aR, aU, aB, aD]; omega)) (bJ _) (Laid.at (Laid.all (by simp only [aR, aU, aB, aD]; omega)) rfl) rfl ?_
   intro w6 H
   refine WL.nil ⟨(fa (nw 20 14) (fa (nw 20 12) (fa (nw 20 7) (fa (nw 20 3) c5)))), ?_⟩
   refine WP.as rfl rfl rfl (WP.done ?_)
   refine WE.bG (.take 0 (.take 1 (.take 2 (.take 3 (.take 4 (.take 5 (.take 6 (.take 7 (.aG 8 (.take 9 (.take 10 (.take 11 (.take 12 .done))))))))))))) mixed (by kernel_rfl) ?_
   replace H := H.out (Out.drew _)
   refine WP.mv rfl rfl rfl (WP.aC rfl rfl (PV.eql rfl rfl rfl) (WP.mv rfl rfl rfl ?_))
   refine WP.known (t := 26) (c := true) rfl rfl ?_
   refine WP.dF rfl rfl rfl gT rfl (aM.aF (H.l 0 rfl) (aJ.all _) rfl) (cH dJ (by simp only [aR, aU, aB, aD]; omega)) ?_
   refine WP.mv rfl rfl rfl (WP.aC rfl rfl (PV.nilCheck rfl rfl) (WP.aC rfl rfl (PV.fieldAddr rfl vI rfl) (WP.aQ rfl rfl (RV.aZ rfl eN rfl) (aM.aF (H.p 1 rfl) (aJ.r (aJ.l (aJ.all _)) rfl) rfl) (WP.aG rfl ?_))))
   refine WL.pv (PV.uS (n := 32) rfl oN (by rw [hr]; rfl)) rfl ?_
   refine WL.nil ⟨(fa (nw 8 7) (fa (fun _ _ => (aM.aF (H.l 0 rfl) (aJ.all _) rfl)) c5)), ?_⟩
   refine WP.dF rfl rfl rfl gT rfl ((bI.whole (by exact (H.p 3 rfl : (bI _ rb) _)))) (cH dJ (by simp only [aR, aU, aB, aD]; omega)) ?_
   refine WP.aC rfl rfl (PV.B8 rfl oN oW gY (by kernel_rfl) rfl rfl (by assumption) (by assumption)) (WP.aC rfl rfl (PV.dB rfl rfl rfl) (WP.as rfl rfl rfl (WP.done (WE.ret ⟨[_], _, .nil _, ⟨rfl, trivial⟩, ?_⟩))))
   exact ⟨_, rfl, H.cL, H.o 0 rfl⟩
 ·
  refine WL.alloc H rfl mQ rfl ?_
  intro b3 w7 H
  refine WL.nil ⟨(fa (fun _ _ => (aM.aF (H.p 1 rfl) (aJ.r (aJ.r (aJ.l aJ.hd) rfl) rfl) rfl)) (fa (fun _ _ => (aM.aF (H.p 1 rfl) (aJ.r (aJ.r (aJ.r (aJ.r (aJ.all _) rfl) rfl) rfl) rfl) rfl)) (fa (fun _ _ => (aM.aF (H.p 1 rfl) (aJ.l (aJ.all _)) rfl)) c5))), ?_⟩
  refine WP.aG rfl ?_
  refine WL.pv (PV.uS (n := 32) rfl gM (by rw [hk]; rfl)) rfl ?_
  refine WL.nil ⟨(fa (nw 13 12) (fa (fun _ _ => (aM.aF (H.p 1 rfl) (aJ.r (aJ.r (aJ.r (aJ.r (aJ.all _) rfl) rfl) rfl) rfl) rfl)) (fa (fun _ _ => (aM.aF (H.p 1 rfl) (aJ.l (aJ.all _)) rfl)) c5))), ?_⟩
  refine WP.dF rfl rfl rfl cV rfl ((bI.whole (by exact (H.p 2 rfl : (bI _ k) _)))) (cH cM (by simp only [aR, aU, aB, aD]; omega)) ?_
  refine WP.aG rfl ?_
  refine WL.call RJ rfl (CI (kd := kd) (dp := dp) (lk := lk) (lv := lv) (B := B) (sl := sl) (sb := sb) (bits := bits) (k := k) H.aS (H.o 0 rfl) (by exact (H.aK 0 rfl 0 rfl : aH _ (fF bh bc bits) _)) (by exact (H.aK 0 rfl 4 rfl : aH _ (eQ sl sb) _)) (by exact (H.aK 0 rfl 5 rfl : aH _ (aX) _)) bR hp hk) ?_
  rintro _ w8 ⟨m21, rfl, hO, hB⟩
  replace H := H.eU 0 rfl hO hB
  refine WL.nil ⟨(fa (nw 15 14) (fa (nw 15 12) (fa (nw 15 7) (fa (nw 15 3) c5)))), ?_⟩
  refine WP.mv rfl rfl rfl (WP.aC rfl rfl (PV.extract rfl rfl rfl) (WP.aC rfl rfl (PV.extract rfl rfl rfl) (WP.aG rfl ?_)))
  refine WL.aT H 0 rfl rfl rfl (new := kc (eP bits k (fI bits dp B sb) (dP (cN (dX kd lk lv)) bits) dp)) rfl (cH dJ (by simp only [aR, aU, aB, aD]; omega)) (bJ _) (Laid.at (Laid.all (by simp only [aR, aU, aB, aD]; omega)) rfl) rfl ?_
  intro w9 H
  refine WL.nil ⟨(fa (nw 20 14) (fa (nw 20 12) (fa (nw 20 7) (fa (nw 20 3) c5)))), ?_⟩
  refine WP.as rfl rfl rfl (WP.done ?_)
  refine WE.bG (.take 0 (.take 1 (.take 2 (.take 3 (.take 4 (.take 5 (.take 6 (.take 7 (.aG 8 (.take 9 (.take 10 (.take 11 (.take 12 .done))))))))))))) mixed (by kernel_rfl) ?_
  replace H := H.out (Out.drew _)
  refine WP.mv rfl rfl rfl (WP.aC rfl rfl (PV.eql rfl rfl rfl) (WP.mv rfl rfl rfl ?_))
  refine WP.known (t := 26) (c := true) rfl rfl ?_
  refine WP.dF rfl rfl rfl gT rfl (aM.aF (H.l 0 rfl) (aJ.all _) rfl) (cH dJ (by simp only [aR, aU, aB, aD]; omega)) ?_
  refine WP.mv rfl rfl rfl (WP.aC rfl rfl (PV.nilCheck rfl rfl) (WP.aC rfl rfl (PV.fieldAddr rfl vI rfl) (WP.aQ rfl rfl (RV.aZ rfl eN rfl) (aM.aF (H.p 1 rfl) (aJ.r (aJ.l (aJ.all _)) rfl) rfl) (WP.aG rfl ?_))))
  refine WL.pv (PV.uS (n := 32) rfl oN (by rw [hr]; rfl)) rfl ?_
  refine WL.nil ⟨(fa (nw 8 7) (fa (fun _ _ => (aM.aF (H.l 0 rfl) (aJ.all _) rfl)) c5)), ?_⟩
  refine WP.dF rfl rfl rfl gT rfl ((bI.whole (by exact (H.p 3 rfl : (bI _ rb) _)))) (cH dJ (by simp only [aR, aU, aB, aD]; omega)) ?_
  refine WP.aC rfl rfl (PV.B8 rfl oN oW gY (by kernel_rfl) rfl rfl (by assumption) (by assumption)) (WP.aC rfl rfl (PV.dB rfl rfl rfl) (WP.as rfl rfl rfl (WP.done (WE.ret ⟨[_], _, .nil _, ⟨rfl, trivial⟩, ?_⟩))))
  exact ⟨_, rfl, H.cL, H.o 0 rfl⟩
theorem aCU {X : Nat → Prop} {w : World} {bk bh bc : Nat} {bits n0 : Int} {sr sk sv se : Value} {pr : Bool} {k vv rb : List UInt8} {kd dp : Nat} {lk lv B : List UInt8} {sl : Value} {sb : List (List UInt8)} (hX : cU X w) (eT : aM w bc 213 ([.int .i64 n0])) (bT : aH (fun c_ => X c_ ∨ c_ = bc) (fF bh bc bits) w) (dA : aH (fun c_ => X c_ ∨ c_ = bc) (fun w => aM w bk 168 (G9 bh sr sk sv pr se (fG kd dp lk lv B sl))) w) (fN : aH (fun c_ => X c_ ∨ c_ = bc) (bI sk k) w) (jO : aH (fun c_ => X c_ ∨ c_ = bc) (bI sv vv) w) (nE : aH (fun c_ => X c_ ∨ c_ = bc) (eQ sl sb) w) (rJ : aH (fun c_ => X c_ ∨ c_ = bc) (aX) w) (bR : 0 ≤ bits ∧ bits ≤ 256) (hp : iG kd dp lk lv B sb) (hk : k.length = 32) (hv : vv.length ≤ 65535) (tK : uU kd dp lk lv k (mS bits vv) pr) :
  bF prog 127 [.pointer (some ⟨bk, 0, none⟩)].toArray w fun v w' => ∃ m, v = .int .i64 0 ∧ Out (· = bc) w w' ∧ aM w' bc 213 [.int .i64 m] := by
 refine bF.aI (N := 7) func127 rfl rfl (by simp) ?_
 have H := ((((((St.c7 (b := bc) (t := 213) (l := [.int .i64 n0]) hX eT).add (bX rJ)).add (bX nE)).add (bX jO)).add (bX fN)).add (bX dA)).add (bX bT)
 refine WE.aA (WL.as rfl rfl (WL.nil (WE.aA (WL.mv rfl rfl ?_))))
 refine WL.call aFD rfl (F3 (bk := bk) (bh := bh) (bits := bits) (k := k) (vv := vv) (rb := []) (sr := sr) (sk := sk) (sv := sv) (se := se) (pr := pr) (kd := kd) (dp := dp) (lk := lk) (lv := lv) (B := B) (sl := sl) (sb := sb) H.aS (H.o 0 rfl) (by exact (H.aK 0 rfl 0 rfl : aH _ (fF bh bc bits) _)) (by exact (H.aK 0 rfl 1 rfl : aH _ (fun w => aM w bk 168 (G9 bh sr sk sv pr se (fG kd dp lk lv B sl))) _)) (by exact (H.aK 0 rfl 2 rfl : aH _ (bI sk k) _)) (by exact (H.aK 0 rfl 3 rfl : aH _ (bI sv vv) _)) (by exact (H.aK 0 rfl 4 rfl : aH _ (eQ sl sb) _)) (by exact (H.aK 0 rfl 5 rfl : aH _ (aX) _)) bR hp hk hv tK) ?_
 rintro _ w1 ⟨m4, rfl, hO, hB⟩
 replace H := H.eU 0 rfl hO hB
 refine WL.pv (PV.not rfl rfl) rfl ?_
 refine WL.call z1 rfl (sY (c := _) (e := 12) H.aS) ?_
 rintro _ w2 ⟨rfl, hO⟩
 replace H := H.out hO
 refine WL.as rfl rfl (WL.nil (WE.ret ⟨[_], _, .nil _, ⟨rfl, trivial⟩, ?_⟩))
 exact ⟨_, rfl, H.cL, H.o 0 rfl⟩
theorem aCT {X : Nat → Prop} {w : World} {bk bh bc : Nat} {bits n0 : Int} {sr sk sv se : Value} {pr : Bool} {k vv rb : List UInt8} {kd dp : Nat} {lk lv B : List UInt8} {sl : Value} {sb : List (List UInt8)} (hX : cU X w) (eT : aM w bc 213 ([.int .i64 n0])) (bT : aH (fun c_ => X c_ ∨ c_ = bc) (fF bh bc bits) w) (dA : aH (fun c_ => X c_ ∨ c_ = bc) (fun w => aM w bk 168 (G9 bh sr sk sv pr se (fG kd dp lk lv B sl))) w) (fN : aH (fun c_ => X c_ ∨ c_ = bc) (bI sk k) w) (jO : aH (fun c_ => X c_ ∨ c_ = bc) (bI sr rb) w) (nE : aH (fun c_ => X c_ ∨ c_ = bc) (eQ sl sb) w) (rJ : aH (fun c_ => X c_ ∨ c_ = bc) (aX) w) (bR : 0 ≤ bits ∧ bits ≤ 256) (hp : iG kd dp lk lv B sb) (hk : k.length = 32) (hr : rb.length = 32) :
  bF prog 129 [.pointer (some ⟨bk, 0, none⟩)].toArray w fun v w' => ∃ m, v = .int .i64 (if (eP bits k (fI bits dp B sb) (dP (cN (dX kd lk lv)) bits) dp) = rb then 0 else 13) ∧ Out (· = bc) w w' ∧ aM w' bc 213 [.int .i64 m] := by
 refine bF.aI (N := 7) func129 rfl rfl (by simp) ?_
 have H := ((((((St.c7 (b := bc) (t := 213) (l := [.int .i64 n0]) hX eT).add (bX rJ)).add (bX nE)).add (bX jO)).add (bX fN)).add (bX dA)).add (bX bT)
 refine WE.aA (WL.as rfl rfl (WL.nil (WE.aA (WL.mv rfl rfl ?_))))
 refine WL.call aFB rfl (VL (bk := bk) (bh := bh) (bits := bits) (k := k) (vv := []) (rb := rb) (sr := sr) (sk := sk) (sv := sv) (se := se) (pr := pr) (kd := kd) (dp := dp) (lk := lk) (lv := lv) (B := B) (sl := sl) (sb := sb) H.aS (H.o 0 rfl) (by exact (H.aK 0 rfl 0 rfl : aH _ (fF bh bc bits) _)) (by exact (H.aK 0 rfl 1 rfl : aH _ (fun w => aM w bk 168 (G9 bh sr sk sv pr se (fG kd dp lk lv B sl))) _)) (by exact (H.aK 0 rfl 2 rfl : aH _ (bI sk k) _)) (by exact (H.aK 0 rfl 3 rfl : aH _ (bI sr rb) _)) (by exact (H.aK 0 rfl 4 rfl : aH _ (eQ sl sb) _)) (by exact (H.aK 0 rfl 5 rfl : aH _ (aX) _)) bR hp hk hr) ?_
 rintro _ w1 ⟨m4, rfl, hO, hB⟩
 replace H := H.eU 0 rfl hO hB
 refine WL.pv (PV.not rfl rfl) rfl ?_
 refine WL.call z1 rfl (sY (c := _) (e := 13) H.aS) ?_
 rintro _ w2 ⟨rfl, hO⟩
 replace H := H.out hO
 refine WL.as rfl rfl (WL.nil (WE.ret ⟨[_], _, .nil _, ⟨rfl, trivial⟩, ?_⟩))
 refine ⟨_, ?_, H.cL, H.o 0 rfl⟩
 show Value.int .i64 _ = Value.int .i64 _
 congr 1
 by_cases h_ : (eP bits k (fI bits dp B sb) (dP (cN (dX kd lk lv)) bits) dp) = rb
 ·
  simp [h_]
 ·
  simp [h_]
open Go.Extern
theorem DE (v x : Value) : Extern.ReflectliteValue.set [v, x].toArray = (do
  let (some (dst, a, fl), some (src, b, _)) := (← Extern.ReflectliteValue.parts v, ← Extern.ReflectliteValue.parts x)
   | unsupported (.noEntry "extern/(internal/reflectlite.Value).Set.zeroValue")
  if fl / Extern.ReflectliteValue.flagAddr % 2 == 0 then unsupported (.noEntry "extern/(internal/reflectlite.Value).Set.unaddressable")
  let val ← loadVar src b
  if ← Extern.Rtype.directlyAssignable dst src then storeVar dst a val
  else if ← Extern.Rtype.implements dst src then
   if (← Extern.Rtype.kind src) == 20 then
    match val with
    | .nilIface => unsupported (.noEntry "extern/reflectlite: a nil value of one interface type handed on as a value of another")
    | _ => storeVar dst a val
   else storeVar dst a (.iface src val)
  else panicString ("reflectlite.Set: value of type " ++ (← Extern.Rtype.spelt src) ++ " is not assignable to type " ++ (← Extern.Rtype.spelt dst))
  pure (.tuple #[])) := rfl
def dZ (w : World) : Prop := cX w ⟨0, 0, none⟩ [(.iface 223 (.agg [(.pointer (some ⟨3, 61, none⟩))].toArray))]
theorem meK (h : Value) (w : World) : (Go.method (prog.types.size + Made.depth) 223 (.agg [h].toArray) "Kind").run prog w = .ok (237, h) w := by kernel_rfl
theorem meE (h : Value) (w : World) : (Go.method (prog.types.size + Made.depth) 223 (.agg [h].toArray) "Elem").run prog w = .ok (253, .agg [h].toArray) w := by kernel_rfl
theorem meI (h : Value) (w : World) : (Go.method (prog.types.size + Made.depth) 223 (.agg [h].toArray) "Implements").run prog w = .ok (254, .agg [h].toArray) w := by kernel_rfl
theorem meA (h : Value) (w : World) : (Go.method (prog.types.size + Made.depth) 223 (.agg [h].toArray) "AssignableTo").run prog w = .ok (251, .agg [h].toArray) w := by kernel_rfl
theorem meC (h : Value) (w : World) : (Go.method (prog.types.size + Made.depth) 223 (.agg [h].toArray) "Comparable").run prog w = .ok (252, .agg [h].toArray) w := by kernel_rfl
abbrev rvV (t : TypeId) (fl : Int) (b : Nat) : Value := .agg [.pointer (some ⟨3, t, none⟩), .pointer (some ⟨b, 0, none⟩), .int .u64 fl].toArray
theorem aID (w : World) : ((Extern.ReflectliteType.relation "AssignableTo" Extern.ReflectliteType.assignableTo) [.agg [(.pointer (some ⟨3, 219, none⟩))].toArray, (.iface 223 (.agg [(.pointer (some ⟨3, 42, none⟩))].toArray))].toArray).run prog w = .ok (.bool false) w := by kernel_rfl
theorem voE (t : Addr) (w : World) : (Extern.ReflectliteValue.unpack (.iface 97 (.pointer (some t)))).run prog w = .ok (.agg [(.pointer (some ⟨3, 97, none⟩)), .pointer (some ⟨w.heap.size, 0, none⟩), .int .u64 150].toArray) (w.alloc (.cells [.pointer (some t)].toArray 97)) := by kernel_rfl
theorem tyE (a : Addr) (w : World) : ((Extern.ReflectliteValue.methodAny (Extern.ReflectliteValue.valueError "reflectlite.Value.Type" 0) (fun t _ _ _ => Extern.ReflectliteType.toType t)) [(.agg [(.pointer (some ⟨3, 97, none⟩)), .pointer (some a), .int .u64 150].toArray)].toArray).run prog w = .ok (.iface 223 (.agg [(.pointer (some ⟨3, 97, none⟩))].toArray)) w := by kernel_rfl
theorem kiE (w : World) : ((Extern.ReflectliteType.abiMethod fun t => do pure (.int .u8 (← Extern.Rtype.kind t))) [(.pointer (some ⟨3, 97, none⟩))].toArray).run prog w = .ok (.int .u8 22) w := by kernel_rfl
theorem kjE (w : World) : ((Extern.ReflectliteType.abiMethod fun t => do pure (.int .u8 (← Extern.Rtype.kind t))) [(.pointer (some ⟨3, 42, none⟩))].toArray).run prog w = .ok (.int .u8 2) w := by kernel_rfl
theorem paE (a : Addr) (w : World) : (Extern.ReflectliteValue.parts (.agg [(.pointer (some ⟨3, 97, none⟩)), .pointer (some a), .int .u64 150].toArray)).run prog w = .ok (some (97, a, 150)) w := by kernel_rfl
theorem niE (a p : Addr) (W : World) (ha : W.cell? a = some (.pointer (some p))) : ((Extern.ReflectliteValue.method (Extern.ReflectliteValue.valueError "reflectlite.Value.IsNil" 0) Extern.ReflectliteValue.isNil) [(.agg [(.pointer (some ⟨3, 97, none⟩)), .pointer (some a), .int .u64 150].toArray)].toArray).run prog W = .ok (.bool false) W := by
 have e : ∀ (z : Sem Value) (f : TypeId → Addr → Nat → Nat → Sem Value) (v : Value), Extern.ReflectliteValue.method z f [v].toArray = (do match ← Extern.ReflectliteValue.parts v with | none => z | some (t, a, fl) => f t a fl (fl % 32)) := fun _ _ _ => rfl
 rw [e]
 simp only [Sem.run_bind, paE, Result.andThen]
 simp [Extern.ReflectliteValue.isNil, loadVar, isAgg, underlying, Tryz.underlying97, ha, Result.andThen]
theorem elE (w : World) : ((Extern.ReflectliteType.method Extern.ReflectliteType.elem) [.agg [(.pointer (some ⟨3, 97, none⟩))].toArray].toArray).run prog w = .ok (.iface 223 (.agg [(.pointer (some ⟨3, 42, none⟩))].toArray)) w := by kernel_rfl
theorem imE (w : World) : ((Extern.ReflectliteType.relation "Implements" Extern.ReflectliteType.implements_) [.agg [(.pointer (some ⟨3, 42, none⟩))].toArray, (.iface 223 (.agg [(.pointer (some ⟨3, 61, none⟩))].toArray))].toArray).run prog w = .ok (.bool true) w := by kernel_rfl
theorem asE (w : World) : ((Extern.ReflectliteType.relation "AssignableTo" Extern.ReflectliteType.assignableTo) [.agg [(.pointer (some ⟨3, 42, none⟩))].toArray, (.iface 223 (.agg [(.pointer (some ⟨3, 42, none⟩))].toArray))].toArray).run prog w = .ok (.bool true) w := by kernel_rfl
theorem toE (c : Int) (w : World) : (Extern.ReflectliteType.typeOf [.iface 42 (.int .i64 c)].toArray).run prog w = .ok (.iface 223 (.agg [(.pointer (some ⟨3, 42, none⟩))].toArray)) w := by kernel_rfl
theorem vwE (c : Int) (w : World) : (Extern.ReflectliteValue.unpack (.iface 42 (.int .i64 c))).run prog w = .ok (.agg [(.pointer (some ⟨3, 42, none⟩)), .pointer (some ⟨w.heap.size, 0, none⟩), .int .u64 130].toArray) (w.alloc (.cells [(.int .i64 c)].toArray 42)) := by kernel_rfl
theorem eoE (w : World) : (Extern.Rtype.elem? 97).run prog w = .ok (some 42) w := by kernel_rfl
theorem mkE (p : Addr) (w : World) : (Extern.ReflectliteValue.mk 42 p Extern.ReflectliteValue.flagAddr).run prog w = .ok (.agg [(.pointer (some ⟨3, 42, none⟩)), .pointer (some p), .int .u64 386].toArray) w := by kernel_rfl
theorem evE (a p : Addr) (W : World) (ha : W.cell? a = some (.pointer (some p))) : ((Extern.ReflectliteValue.method (Extern.ReflectliteValue.valueError "reflectlite.Value.Elem" 0) Extern.ReflectliteValue.elem) [(.agg [(.pointer (some ⟨3, 97, none⟩)), .pointer (some a), .int .u64 150].toArray)].toArray).run prog W = .ok (.agg [(.pointer (some ⟨3, 42, none⟩)), .pointer (some p), .int .u64 386].toArray) W := by
 have e : ∀ (z : Sem Value) (f : TypeId → Addr → Nat → Nat → Sem Value) (v : Value), Extern.ReflectliteValue.method z f [v].toArray = (do match ← Extern.ReflectliteValue.parts v with | none => z | some (t, a, fl) => f t a fl (fl % 32)) := fun _ _ _ => rfl
 rw [e]
 simp only [Sem.run_bind, paE, Result.andThen]
 simp [Extern.ReflectliteValue.elem, loadVar, isAgg, underlying, Tryz.underlying97, ha, Result.andThen, eoE, mkE]
theorem pbE (a : Addr) (w : World) : (Extern.ReflectliteValue.parts (.agg [(.pointer (some ⟨3, 42, none⟩)), .pointer (some a), .int .u64 386].toArray)).run prog w = .ok (some (42, a, 386)) w := by kernel_rfl
theorem pcE (a : Addr) (w : World) : (Extern.ReflectliteValue.parts (.agg [(.pointer (some ⟨3, 42, none⟩)), .pointer (some a), .int .u64 130].toArray)).run prog w = .ok (some (42, a, 130)) w := by kernel_rfl
theorem diE (w : World) : (Extern.Rtype.directlyAssignable 42 42).run prog w = .ok true w := by kernel_rfl
theorem stE (ta b : Addr) (c : Int) (old : Value) (W : World) (hb : W.cell? b = some (.int .i64 c)) (ht : W.cell? ta = some old) (hf : W.frozen? ta = false) :
  (Extern.ReflectliteValue.set [(.agg [(.pointer (some ⟨3, 42, none⟩)), .pointer (some ta), .int .u64 386].toArray), (.agg [(.pointer (some ⟨3, 42, none⟩)), .pointer (some b), .int .u64 130].toArray)].toArray).run prog W = .ok (.tuple #[]) (W.setCell ta (.int .i64 c)) := by
 rw [DE]
 simp only [Sem.run_bind, pbE, pcE, Result.andThen]
 simp [Extern.ReflectliteValue.flagAddr, loadVar, isAgg, underlying, Tryz.underlying42, hb, Result.andThen, diE, storeVar, Value.cells, storeCells, Addr.add]
 rw [run_store prog W ta _ _ rfl]
 simp [ht, hf]
theorem voF (t : Addr) (w : World) : (Extern.ReflectliteValue.unpack (.iface 235 (.pointer (some t)))).run prog w = .ok (.agg [(.pointer (some ⟨3, 235, none⟩)), .pointer (some ⟨w.heap.size, 0, none⟩), .int .u64 150].toArray) (w.alloc (.cells [.pointer (some t)].toArray 235)) := by kernel_rfl
theorem tyF (a : Addr) (w : World) : ((Extern.ReflectliteValue.methodAny (Extern.ReflectliteValue.valueError "reflectlite.Value.Type" 0) (fun t _ _ _ => Extern.ReflectliteType.toType t)) [(.agg [(.pointer (some ⟨3, 235, none⟩)), .pointer (some a), .int .u64 150].toArray)].toArray).run prog w = .ok (.iface 223 (.agg [(.pointer (some ⟨3, 235, none⟩))].toArray)) w := by kernel_rfl
theorem kiF (w : World) : ((Extern.ReflectliteType.abiMethod fun t => do pure (.int .u8 (← Extern.Rtype.kind t))) [(.pointer (some ⟨3, 235, none⟩))].toArray).run prog w = .ok (.int .u8 22) w := by kernel_rfl
theorem kjF (w : World) : ((Extern.ReflectliteType.abiMethod fun t => do pure (.int .u8 (← Extern.Rtype.kind t))) [(.pointer (some ⟨3, 219, none⟩))].toArray).run prog w = .ok (.int .u8 22) w := by kernel_rfl
theorem paF (a : Addr) (w : World) : (Extern.ReflectliteValue.parts (.agg [(.pointer (some ⟨3, 235, none⟩)), .pointer (some a), .int .u64 150].toArray)).run prog w = .ok (some (235, a, 150)) w := by kernel_rfl
theorem niF (a p : Addr) (W : World) (ha : W.cell? a = some (.pointer (some p))) : ((Extern.ReflectliteValue.method (Extern.ReflectliteValue.valueError "reflectlite.Value.IsNil" 0) Extern.ReflectliteValue.isNil) [(.agg [(.pointer (some ⟨3, 235, none⟩)), .pointer (some a), .int .u64 150].toArray)].toArray).run prog W = .ok (.bool false) W := by
 have e : ∀ (z : Sem Value) (f : TypeId → Addr → Nat → Nat → Sem Value) (v : Value), Extern.ReflectliteValue.method z f [v].toArray = (do match ← Extern.ReflectliteValue.parts v with | none => z | some (t, a, fl) => f t a fl (fl % 32)) := fun _ _ _ => rfl
 rw [e]
 simp only [Sem.run_bind, paF, Result.andThen]
 simp [Extern.ReflectliteValue.isNil, loadVar, isAgg, underlying, Tryz.underlying235, ha, Result.andThen]
theorem elF (w : World) : ((Extern.ReflectliteType.method Extern.ReflectliteType.elem) [.agg [(.pointer (some ⟨3, 235, none⟩))].toArray].toArray).run prog w = .ok (.iface 223 (.agg [(.pointer (some ⟨3, 219, none⟩))].toArray)) w := by kernel_rfl
theorem imF (w : World) : ((Extern.ReflectliteType.relation "Implements" Extern.ReflectliteType.implements_) [.agg [(.pointer (some ⟨3, 219, none⟩))].toArray, (.iface 223 (.agg [(.pointer (some ⟨3, 61, none⟩))].toArray))].toArray).run prog w = .ok (.bool true) w := by kernel_rfl
theorem asF (w : World) : ((Extern.ReflectliteType.relation "AssignableTo" Extern.ReflectliteType.assignableTo) [.agg [(.pointer (some ⟨3, 219, none⟩))].toArray, (.iface 223 (.agg [(.pointer (some ⟨3, 219, none⟩))].toArray))].toArray).run prog w = .ok (.bool true) w := by kernel_rfl
theorem toF (p_ : Addr) (w : World) : (Extern.ReflectliteType.typeOf [.iface 219 (.pointer (some p_))].toArray).run prog w = .ok (.iface 223 (.agg [(.pointer (some ⟨3, 219, none⟩))].toArray)) w := by kernel_rfl
theorem vwF (p_ : Addr) (w : World) : (Extern.ReflectliteValue.unpack (.iface 219 (.pointer (some p_)))).run prog w = .ok (.agg [(.pointer (some ⟨3, 219, none⟩)), .pointer (some ⟨w.heap.size, 0, none⟩), .int .u64 150].toArray) (w.alloc (.cells [(.pointer (some p_))].toArray 219)) := by kernel_rfl
theorem eoF (w : World) : (Extern.Rtype.elem? 235).run prog w = .ok (some 219) w := by kernel_rfl
theorem mkF (p : Addr) (w : World) : (Extern.ReflectliteValue.mk 219 p Extern.ReflectliteValue.flagAddr).run prog w = .ok (.agg [(.pointer (some ⟨3, 219, none⟩)), .pointer (some p), .int .u64 406].toArray) w := by kernel_rfl
theorem evF (a p : Addr) (W : World) (ha : W.cell? a = some (.pointer (some p))) : ((Extern.ReflectliteValue.method (Extern.ReflectliteValue.valueError "reflectlite.Value.Elem" 0) Extern.ReflectliteValue.elem) [(.agg [(.pointer (some ⟨3, 235, none⟩)), .pointer (some a), .int .u64 150].toArray)].toArray).run prog W = .ok (.agg [(.pointer (some ⟨3, 219, none⟩)), .pointer (some p), .int .u64 406].toArray) W := by
 have e : ∀ (z : Sem Value) (f : TypeId → Addr → Nat → Nat → Sem Value) (v : Value), Extern.ReflectliteValue.method z f [v].toArray = (do match ← Extern.ReflectliteValue.parts v with | none => z | some (t, a, fl) => f t a fl (fl % 32)) := fun _ _ _ => rfl
 rw [e]
 simp only [Sem.run_bind, paF, Result.andThen]
 simp [Extern.ReflectliteValue.elem, loadVar, isAgg, underlying, Tryz.underlying235, ha, Result.andThen, eoF, mkF]
theorem pbF (a : Addr) (w : World) : (Extern.ReflectliteValue.parts (.agg [(.pointer (some ⟨3, 219, none⟩)), .pointer (some a), .int .u64 406].toArray)).run prog w = .ok (some (219, a, 406)) w := by kernel_rfl
theorem pcF (a : Addr) (w : World) : (Extern.ReflectliteValue.parts (.agg [(.pointer (some ⟨3, 219, none⟩)), .pointer (some a), .int .u64 150].toArray)).run prog w = .ok (some (219, a, 150)) w := by kernel_rfl
theorem diF (w : World) : (Extern.Rtype.directlyAssignable 219 219).run prog w = .ok true w := by kernel_rfl
theorem stF (ta b : Addr) (p_ : Addr) (old : Value) (W : World) (hb : W.cell? b = some (.pointer (some p_))) (ht : W.cell? ta = some old) (hf : W.frozen? ta = false) :
  (Extern.ReflectliteValue.set [(.agg [(.pointer (some ⟨3, 219, none⟩)), .pointer (some ta), .int .u64 406].toArray), (.agg [(.pointer (some ⟨3, 219, none⟩)), .pointer (some b), .int .u64 150].toArray)].toArray).run prog W = .ok (.tuple #[]) (W.setCell ta (.pointer (some p_))) := by
 rw [DE]
 simp only [Sem.run_bind, pbF, pcF, Result.andThen]
 simp [Extern.ReflectliteValue.flagAddr, loadVar, isAgg, underlying, Tryz.underlying219, hb, Result.andThen, diF, storeVar, Value.cells, storeCells, Addr.add]
 rw [run_store prog W ta _ _ rfl]
 simp [ht, hf]
theorem taA (v : Value) (w : World) : (Instr.typeAssert (.iface 219 v) 61 227 true).run prog w = .ok (.tuple [.nilIface, .bool false].toArray) w := Go.run_typeAssert_lacksB Tryz.underlying227 (by kernel_rfl) (by kernel_rfl) v 61 w
theorem taU (v : Value) (w : World) : (Instr.typeAssert (.iface 219 v) 61 230 true).run prog w = .ok (.tuple [.iface 219 v, .bool true].toArray) w := Go.run_typeAssert_hasB Tryz.underlying230 (by kernel_rfl) v 61 w
theorem aGf {X : Nat → Prop} {w : World} {bt uR : Nat} {old : Value} {bf : Nat} {op : List UInt8} {ix code : Int} (hX : cU X w) (eT : aM w bt 42 ([old])) (bT : aH (fun c_ => X c_ ∨ c_ = bt) (fun w => cX w ⟨uR, 0, none⟩ [.pointer (some ⟨bt, 0, none⟩)]) w) (dA : aH (fun c_ => X c_ ∨ c_ = bt) (fun w => aM w bf 221 (dM op ix code)) w) :
  bF prog 84 [.iface 219 (.pointer (some ⟨bf, 0, none⟩)), .iface 97 (.pointer (some ⟨bt, 0, none⟩)), (.agg [(.pointer (some ⟨3, 97, none⟩)), .pointer (some ⟨uR, 0, none⟩), .int .u64 150].toArray), (.iface 223 (.agg [(.pointer (some ⟨3, 42, none⟩))].toArray))].toArray w fun v w' => v = .bool true ∧ Out (· = bt) w w' ∧ aM w' bt 42 [.int .i64 code] := by
 refine bF.aI (N := 62) func84 rfl rfl (by simp) ?_
 have H := ((St.c7 (b := bt) (t := 42) (l := [old]) hX eT).add (bX dA)).add (bX bT)
 refine WE.aA ?_
 refine WL.box (l := [(.pointer (some ⟨3, 97, none⟩)), .pointer (some ⟨uR, 0, none⟩), .int .u64 150]) H rfl rfl rfl ?_
 intro b6 w1 H
 refine WL.as rfl rfl (WL.nil (WE.block ?_))
 refine WE.jG 2 ?_
 refine dN.step ?_
 refine WE.block (WE.seq (WE.aA (WL.mv rfl rfl ?_)))
 refine WL.extern (e := Extern.ReflectliteType.typeOf) func97 (by kernel_rfl) (by kernel_rfl) (by kernel_rfl) (by kernel_rfl) rfl (toF _ _) ?_
 refine WL.mv rfl rfl ?_
 refine WL.iZ (e := (Extern.ReflectliteType.relation "AssignableTo" Extern.ReflectliteType.assignableTo)) rfl (fun w => meA _ w) func251 (by kernel_rfl) (by kernel_rfl) (by kernel_rfl) (by kernel_rfl) rfl (aID _) ?_
 refine WL.nil ?_
 refine WE.bB rfl rfl ?_
 refine WE.skip (WE.seq (WE.aA (WL.mv rfl rfl ?_)))
 refine WL.pv (PV.KE rfl (fun w => taA _ w)) rfl ?_
 refine WL.mv rfl rfl (WL.pv (PV.extract rfl rfl rfl) rfl (WL.pv (PV.extract rfl rfl rfl) rfl (WL.as rfl rfl (WL.as rfl rfl (WL.nil (WE.aA (WL.mv rfl rfl ?_)))))))
 refine WL.mv rfl rfl (WL.known (t := 31) (c := false) rfl rfl (WL.off rfl (WL.off rfl (WL.off rfl (WL.pv (PV.cZ rfl rfl rfl) rfl (WL.nil (WE.iJ rfl ?_)))))))
 refine WE.skip (WE.aA (WL.mv rfl rfl (WL.nil (WE.block (WE.aA ?_)))))
 refine WL.pv (PV.KE rfl (fun w => taU _ w)) rfl ?_
 refine WL.pv (PV.extract rfl rfl rfl) rfl (WL.pv (PV.extract rfl rfl rfl) rfl (WL.nil ?_))
 refine WE.cO rfl rfl ?_
 refine WE.aA (WL.as rfl rfl (WL.nil (WE.aA (WL.mv rfl rfl ?_))))
 refine WL.VS rfl (by kernel_rfl) Y1 aES rfl (SX (bf := bf) (op := op) (ix := ix) (code := code) H.aS (by exact (H.bK 1 rfl : aH _ (fun w => aM w bf 221 (dM op ix code)) _))) ?_
 rintro _ w5 ⟨rfl, hO⟩
 replace H := H.out hO
 refine WL.as rfl rfl (WL.nil (WE.aA (WL.mv rfl rfl ?_)))
 refine WL.pv (PV.pO rfl (by kernel_rfl) (by exact yF.of)) rfl ?_
 refine WL.nil ?_
 refine WE.bB rfl rfl ?_
 refine WE.skip ?_
 refine dN.step ?_
 refine WE.block (WE.seq (WE.aA (WL.mv rfl rfl ?_)))
 refine WL.extern (e := Extern.ReflectliteType.typeOf) func97 (by kernel_rfl) (by kernel_rfl) (by kernel_rfl) (by kernel_rfl) rfl (toE code _) ?_
 refine WL.mv rfl rfl ?_
 refine WL.iZ (e := (Extern.ReflectliteType.relation "AssignableTo" Extern.ReflectliteType.assignableTo)) rfl (fun w => meA _ w) func251 (by kernel_rfl) (by kernel_rfl) (by kernel_rfl) (by kernel_rfl) rfl (asE _) ?_
 refine WL.nil ?_
 refine WE.cO rfl rfl ?_
 refine WE.aA ?_
 refine WL.bC rfl uT rfl rfl (aM.aF (H.l 0 rfl) (aJ.all _) rfl) (by exact qB) ?_
 refine WL.extern (e := (Extern.ReflectliteValue.method (Extern.ReflectliteValue.valueError "reflectlite.Value.Elem" 0) Extern.ReflectliteValue.elem)) func131 (by kernel_rfl) (by kernel_rfl) (by kernel_rfl) (by kernel_rfl) rfl (evE _ _ _ (by exact (by have h_ := (H.p 0 rfl : cX _ ⟨uR, 0, none⟩ [.pointer (some ⟨bt, 0, none⟩)]) 0 _ rfl; rwa [show ((⟨uR, 0, none⟩ : Addr).add 0) = ⟨uR, 0, none⟩ from rfl] at h_))) ?_
 refine WL.mv rfl rfl ?_
 refine WL.vL (avs := [.iface 42 (.int .i64 code)]) (e := (fun args => Extern.ReflectliteValue.unpack (args.getD 0 (.tuple #[])))) (rvV 42 130) [.int .i64 code] 42 H func81 (by kernel_rfl) (by kernel_rfl) (by kernel_rfl) (by kernel_rfl) rfl (vwE code _) rfl ?_
 intro b23 y8 H
 refine WL.extern (e := Extern.ReflectliteValue.set) func132 (by kernel_rfl) (by kernel_rfl) (by kernel_rfl) (by kernel_rfl) rfl (stE ⟨bt, 0, none⟩ ⟨b23, 0, none⟩ code old _ (aM.cell (H.l 0 rfl) 0) (aM.cell (H.o 0 rfl) 0) (aM.frozen (H.o 0 rfl) _ rfl)) ?_
 replace H := H.uX (i := 0) rfl (Out.set _ ⟨bt, 0, none⟩ _) (aN.blk bt 42 [.int .i64 code]) (aM.aC5 (H.o 0 rfl)) (fun _ => Iff.rfl)
 refine WL.nil (WE.aA (WL.as rfl rfl (WL.nil (WE.ret ⟨[_], _, .nil _, ⟨rfl, trivial⟩, ?_⟩))))
 exact ⟨rfl, H.cL, H.o 0 rfl⟩
theorem aAw {X : Nat → Prop} {w : World} {bt : Nat} {old : Value} {bf : Nat} {op : List UInt8} {ix code : Int} (hX : cU X w) (eT : aM w bt 42 ([old])) (bT : aH (fun c_ => X c_ ∨ c_ = bt) (dZ) w) (dA : aH (fun c_ => X c_ ∨ c_ = bt) (fun w => aM w bf 221 (dM op ix code)) w) :
  bF prog 39 [.iface 219 (.pointer (some ⟨bf, 0, none⟩)), .iface 97 (.pointer (some ⟨bt, 0, none⟩))].toArray w fun v w' => v = .bool true ∧ Out (· = bt) w w' ∧ aM w' bt 42 [.int .i64 code] := by
 refine bF.aI (N := 42) func39 rfl rfl (by simp) ?_
 have H := ((St.c7 (b := bt) (t := 42) (l := [old]) hX eT).add (bX dA)).add (bX bT)
 refine WE.aA (WL.as rfl rfl (WL.nil (WE.seq (WE.aA (WL.mv rfl rfl ?_)))))
 refine WL.pv (PV.pO rfl (by kernel_rfl) (by exact yF.of)) rfl ?_
 refine WL.nil ?_
 refine WE.bB rfl rfl ?_
 refine WE.skip (WE.seq (WE.aA (WL.mv rfl rfl ?_)))
 refine WL.pv (PV.pO rfl (by kernel_rfl) (by exact yF.of)) rfl ?_
 refine WL.nil ?_
 refine WE.bB rfl rfl ?_
 refine WE.skip (WE.aA (WL.mv rfl rfl ?_))
 refine WL.vL (avs := [.iface 97 (.pointer (some ⟨bt, 0, none⟩))]) (e := (fun args => Extern.ReflectliteValue.unpack (args.getD 0 (.tuple #[])))) (rvV 97 150) [.pointer (some ⟨bt, 0, none⟩)] 97 H func81 (by kernel_rfl) (by kernel_rfl) (by kernel_rfl) (by kernel_rfl) rfl (voE _ _) rfl ?_
 intro uR w2 H
 refine WL.alloc H rfl YK rfl ?_
 intro b5 w3 H
 refine WL.aT H 0 rfl rfl rfl (new := [(.pointer (some ⟨3, 97, none⟩)), .pointer (some ⟨uR, 0, none⟩), .int .u64 150]) rfl (by exact qB) (bE _ rfl) (Laid.at (Laid.all (by simp only [aR])) rfl) rfl ?_
 intro w4 H
 refine WL.nil (WE.aA ?_)
 refine WL.bC rfl uT rfl rfl (aM.aF (H.l 0 rfl) (aJ.all _) rfl) (by exact qB) ?_
 refine WL.extern (e := (Extern.ReflectliteValue.methodAny (Extern.ReflectliteValue.valueError "reflectlite.Value.Type" 0) (fun t _ _ _ => Extern.ReflectliteType.toType t))) func82 (by kernel_rfl) (by kernel_rfl) (by kernel_rfl) (by kernel_rfl) rfl (tyE _ _) ?_
 refine WL.as rfl rfl (WL.nil (WE.seq (WE.aA (WL.mv rfl rfl ?_))))
 refine WL.iZ (e := (Extern.ReflectliteType.abiMethod fun t => do pure (.int .u8 (← Extern.Rtype.kind t)))) rfl (fun w => meK _ w) func237 (by kernel_rfl) (by kernel_rfl) (by kernel_rfl) (by kernel_rfl) rfl (kiE _) ?_
 refine WL.pv (PV.neq rfl rfl rfl) rfl (WL.mv rfl rfl (WL.known (t := 20) (c := false) rfl rfl ?_))
 refine WL.bC rfl uT rfl rfl (aM.aF (H.l 0 rfl) (aJ.all _) rfl) (by exact qB) ?_
 refine WL.extern (e := (Extern.ReflectliteValue.method (Extern.ReflectliteValue.valueError "reflectlite.Value.IsNil" 0) Extern.ReflectliteValue.isNil)) func83 (by kernel_rfl) (by kernel_rfl) (by kernel_rfl) (by kernel_rfl) rfl (niE _ ⟨bt, 0, none⟩ _ (by exact aM.cell (H.l 1 rfl) 0)) ?_
 refine WL.pv (PV.cZ rfl rfl rfl) rfl (WL.nil ?_)
 refine WE.bB rfl rfl ?_
 refine WE.skip (WE.aA (WL.mv rfl rfl ?_))
 refine WL.iZ (e := (Extern.ReflectliteType.method Extern.ReflectliteType.elem)) rfl (fun w => meE _ w) func253 (by kernel_rfl) (by kernel_rfl) (by kernel_rfl) (by kernel_rfl) rfl (elE _) ?_
 refine WL.as rfl rfl (WL.nil (WE.seq (WE.aA (WL.mv rfl rfl ?_))))
 refine WL.iZ (e := (Extern.ReflectliteType.abiMethod fun t => do pure (.int .u8 (← Extern.Rtype.kind t)))) rfl (fun w => meK _ w) func237 (by kernel_rfl) (by kernel_rfl) (by kernel_rfl) (by kernel_rfl) rfl (kjE _) ?_
 refine WL.pv (PV.neq rfl rfl rfl) rfl (WL.mv rfl rfl (WL.known (t := 30) (c := true) rfl rfl (WL.mv rfl rfl (WL.aY rfl aAp rfl rfl ((H.p 0 rfl : dZ _)) ?_))))
 refine WL.iZ (e := (Extern.ReflectliteType.relation "Implements" Extern.ReflectliteType.implements_)) rfl (fun w => meI _ w) func254 (by kernel_rfl) (by kernel_rfl) (by kernel_rfl) (by kernel_rfl) rfl (imE _) ?_
 refine WL.pv (PV.not rfl rfl) rfl (WL.pv (PV.dB rfl rfl rfl) rfl (WL.nil ?_))
 refine WE.bB rfl rfl ?_
 refine WE.skip (WE.aA (WL.mv rfl rfl (WL.mv rfl rfl ?_)))
 refine WL.bC rfl uT rfl rfl (aM.aF (H.l 0 rfl) (aJ.all _) rfl) (by exact qB) ?_
 refine WL.mv rfl rfl ?_
 replace H := H.freeze (i := 1) rfl
 replace H := H.add (show aH _ (fun w => cX w ⟨uR, 0, none⟩ [.pointer (some ⟨bt, 0, none⟩)]) _ from (H.bK 0 rfl : aH _ (fun w => aM w uR 97 [.pointer (some ⟨bt, 0, none⟩)]) _).imp fun _ h => h.rd)
 refine WL.call aEF rfl (aGf (bt := bt) (uR := uR) (bf := bf) (op := op) (ix := ix) (code := code) H.aS (H.o 0 rfl) (H.aK 0 rfl 0 rfl) (by exact (H.aK 0 rfl 3 rfl : aH _ (fun w => aM w bf 221 (dM op ix code)) _))) ?_
 rintro _ y8 ⟨rfl, hO, hB⟩
 replace H := H.eU 0 rfl hO hB
 refine WL.as rfl rfl (WL.nil (WE.ret ⟨[_], _, .nil _, ⟨rfl, trivial⟩, ?_⟩))
 exact ⟨rfl, H.cL, H.o 0 rfl⟩
theorem aGe {X : Nat → Prop} {w : World} {bt uR : Nat} {old : Value} {bf : Nat} (hX : cU X w) (eT : aM w bt 219 ([old])) (bT : aH (fun c_ => X c_ ∨ c_ = bt) (fun w => cX w ⟨uR, 0, none⟩ [.pointer (some ⟨bt, 0, none⟩)]) w) :
  bF prog 84 [.iface 219 (.pointer (some ⟨bf, 0, none⟩)), .iface 235 (.pointer (some ⟨bt, 0, none⟩)), (.agg [(.pointer (some ⟨3, 235, none⟩)), .pointer (some ⟨uR, 0, none⟩), .int .u64 150].toArray), (.iface 223 (.agg [(.pointer (some ⟨3, 219, none⟩))].toArray))].toArray w fun v w' => v = .bool true ∧ Out (· = bt) w w' ∧ aM w' bt 219 [.pointer (some ⟨bf, 0, none⟩)] := by
 refine bF.aI (N := 62) func84 rfl rfl (by simp) ?_
 have H := (St.c7 (b := bt) (t := 219) (l := [old]) hX eT).add (bX bT)
 refine WE.aA ?_
 refine WL.box (l := [(.pointer (some ⟨3, 235, none⟩)), .pointer (some ⟨uR, 0, none⟩), .int .u64 150]) H rfl rfl rfl ?_
 intro b6 w1 H
 refine WL.as rfl rfl (WL.nil (WE.block ?_))
 refine WE.jG 1 ?_
 refine dN.step ?_
 refine WE.block (WE.seq (WE.aA (WL.mv rfl rfl ?_)))
 refine WL.extern (e := Extern.ReflectliteType.typeOf) func97 (by kernel_rfl) (by kernel_rfl) (by kernel_rfl) (by kernel_rfl) rfl (toF ⟨bf, 0, none⟩ _) ?_
 refine WL.mv rfl rfl ?_
 refine WL.iZ (e := (Extern.ReflectliteType.relation "AssignableTo" Extern.ReflectliteType.assignableTo)) rfl (fun w => meA _ w) func251 (by kernel_rfl) (by kernel_rfl) (by kernel_rfl) (by kernel_rfl) rfl (asF _) ?_
 refine WL.nil ?_
 refine WE.cO rfl rfl ?_
 refine WE.aA ?_
 refine WL.bC rfl uT rfl rfl (aM.aF (H.l 0 rfl) (aJ.all _) rfl) (by exact qB) ?_
 refine WL.extern (e := (Extern.ReflectliteValue.method (Extern.ReflectliteValue.valueError "reflectlite.Value.Elem" 0) Extern.ReflectliteValue.elem)) func131 (by kernel_rfl) (by kernel_rfl) (by kernel_rfl) (by kernel_rfl) rfl (evF _ _ _ (by exact (by have h_ := (H.p 0 rfl : cX _ ⟨uR, 0, none⟩ [.pointer (some ⟨bt, 0, none⟩)]) 0 _ rfl; rwa [show ((⟨uR, 0, none⟩ : Addr).add 0) = ⟨uR, 0, none⟩ from rfl] at h_))) ?_
 refine WL.mv rfl rfl ?_
 refine WL.vL (avs := [.iface 219 (.pointer (some ⟨bf, 0, none⟩))]) (e := (fun args => Extern.ReflectliteValue.unpack (args.getD 0 (.tuple #[])))) (rvV 219 150) [.pointer (some ⟨bf, 0, none⟩)] 219 H func81 (by kernel_rfl) (by kernel_rfl) (by kernel_rfl) (by kernel_rfl) rfl (vwF ⟨bf, 0, none⟩ _) rfl ?_
 intro b23 w6 H
 refine WL.extern (e := Extern.ReflectliteValue.set) func132 (by kernel_rfl) (by kernel_rfl) (by kernel_rfl) (by kernel_rfl) rfl (stF ⟨bt, 0, none⟩ ⟨b23, 0, none⟩ ⟨bf, 0, none⟩ old _ (aM.cell (H.l 0 rfl) 0) (aM.cell (H.o 0 rfl) 0) (aM.frozen (H.o 0 rfl) _ rfl)) ?_
 replace H := H.uX (i := 0) rfl (Out.set _ ⟨bt, 0, none⟩ _) (aN.blk bt 219 [.pointer (some ⟨bf, 0, none⟩)]) (aM.aC5 (H.o 0 rfl)) (fun _ => Iff.rfl)
 refine WL.nil (WE.aA (WL.as rfl rfl (WL.nil (WE.ret ⟨[_], _, .nil _, ⟨rfl, trivial⟩, ?_⟩))))
 exact ⟨rfl, H.cL, H.o 0 rfl⟩
theorem aGN {X : Nat → Prop} {w : World} {bt : Nat} {old : Value} {bf : Nat} (hX : cU X w) (eT : aM w bt 219 ([old])) (bT : aH (fun c_ => X c_ ∨ c_ = bt) (dZ) w) :
  bF prog 39 [.iface 219 (.pointer (some ⟨bf, 0, none⟩)), .iface 235 (.pointer (some ⟨bt, 0, none⟩))].toArray w fun v w' => v = .bool true ∧ Out (· = bt) w w' ∧ aM w' bt 219 [.pointer (some ⟨bf, 0, none⟩)] := by
 refine bF.aI (N := 42) func39 rfl rfl (by simp) ?_
 have H := (St.c7 (b := bt) (t := 219) (l := [old]) hX eT).add (bX bT)
 refine WE.aA (WL.as rfl rfl (WL.nil (WE.seq (WE.aA (WL.mv rfl rfl ?_)))))
 refine WL.pv (PV.pO rfl (by kernel_rfl) (by exact yF.of)) rfl ?_
 refine WL.nil ?_
 refine WE.bB rfl rfl ?_
 refine WE.skip (WE.seq (WE.aA (WL.mv rfl rfl ?_)))
 refine WL.pv (PV.pO rfl (by kernel_rfl) (by exact yF.of)) rfl ?_
 refine WL.nil ?_
 refine WE.bB rfl rfl ?_
 refine WE.skip (WE.aA (WL.mv rfl rfl ?_))
 refine WL.vL (avs := [.iface 235 (.pointer (some ⟨bt, 0, none⟩))]) (e := (fun args => Extern.ReflectliteValue.unpack (args.getD 0 (.tuple #[])))) (rvV 235 150) [.pointer (some ⟨bt, 0, none⟩)] 235 H func81 (by kernel_rfl) (by kernel_rfl) (by kernel_rfl) (by kernel_rfl) rfl (voF _ _) rfl ?_
 intro uR w2 H
 refine WL.alloc H rfl YK rfl ?_
 intro b5 w3 H
 refine WL.aT H 0 rfl rfl rfl (new := [(.pointer (some ⟨3, 235, none⟩)), .pointer (some ⟨uR, 0, none⟩), .int .u64 150]) rfl (by exact qB) (bE _ rfl) (Laid.at (Laid.all (by simp only [aR])) rfl) rfl ?_
 intro w4 H
 refine WL.nil (WE.aA ?_)
 refine WL.bC rfl uT rfl rfl (aM.aF (H.l 0 rfl) (aJ.all _) rfl) (by exact qB) ?_
 refine WL.extern (e := (Extern.ReflectliteValue.methodAny (Extern.ReflectliteValue.valueError "reflectlite.Value.Type" 0) (fun t _ _ _ => Extern.ReflectliteType.toType t))) func82 (by kernel_rfl) (by kernel_rfl) (by kernel_rfl) (by kernel_rfl) rfl (tyF _ _) ?_
 refine WL.as rfl rfl (WL.nil (WE.seq (WE.aA (WL.mv rfl rfl ?_))))
 refine WL.iZ (e := (Extern.ReflectliteType.abiMethod fun t => do pure (.int .u8 (← Extern.Rtype.kind t)))) rfl (fun w => meK _ w) func237 (by kernel_rfl) (by kernel_rfl) (by kernel_rfl) (by kernel_rfl) rfl (kiF _) ?_
 refine WL.pv (PV.neq rfl rfl rfl) rfl (WL.mv rfl rfl (WL.known (t := 20) (c := false) rfl rfl ?_))
 refine WL.bC rfl uT rfl rfl (aM.aF (H.l 0 rfl) (aJ.all _) rfl) (by exact qB) ?_
 refine WL.extern (e := (Extern.ReflectliteValue.method (Extern.ReflectliteValue.valueError "reflectlite.Value.IsNil" 0) Extern.ReflectliteValue.isNil)) func83 (by kernel_rfl) (by kernel_rfl) (by kernel_rfl) (by kernel_rfl) rfl (niF _ ⟨bt, 0, none⟩ _ (by exact aM.cell (H.l 1 rfl) 0)) ?_
 refine WL.pv (PV.cZ rfl rfl rfl) rfl (WL.nil ?_)
 refine WE.bB rfl rfl ?_
 refine WE.skip (WE.aA (WL.mv rfl rfl ?_))
 refine WL.iZ (e := (Extern.ReflectliteType.method Extern.ReflectliteType.elem)) rfl (fun w => meE _ w) func253 (by kernel_rfl) (by kernel_rfl) (by kernel_rfl) (by kernel_rfl) rfl (elF _) ?_
 refine WL.as rfl rfl (WL.nil (WE.seq (WE.aA (WL.mv rfl rfl ?_))))
 refine WL.iZ (e := (Extern.ReflectliteType.abiMethod fun t => do pure (.int .u8 (← Extern.Rtype.kind t)))) rfl (fun w => meK _ w) func237 (by kernel_rfl) (by kernel_rfl) (by kernel_rfl) (by kernel_rfl) rfl (kjF _) ?_
 refine WL.pv (PV.neq rfl rfl rfl) rfl (WL.mv rfl rfl (WL.known (t := 30) (c := true) rfl rfl (WL.mv rfl rfl (WL.aY rfl aAp rfl rfl ((H.p 0 rfl : dZ _)) ?_))))
 refine WL.iZ (e := (Extern.ReflectliteType.relation "Implements" Extern.ReflectliteType.implements_)) rfl (fun w => meI _ w) func254 (by kernel_rfl) (by kernel_rfl) (by kernel_rfl) (by kernel_rfl) rfl (imF _) ?_
 refine WL.pv (PV.not rfl rfl) rfl (WL.pv (PV.dB rfl rfl rfl) rfl (WL.nil ?_))
 refine WE.bB rfl rfl ?_
 refine WE.skip (WE.aA (WL.mv rfl rfl (WL.mv rfl rfl ?_)))
 refine WL.bC rfl uT rfl rfl (aM.aF (H.l 0 rfl) (aJ.all _) rfl) (by exact qB) ?_
 refine WL.mv rfl rfl ?_
 replace H := H.freeze (i := 1) rfl
 replace H := H.add (show aH _ (fun w => cX w ⟨uR, 0, none⟩ [.pointer (some ⟨bt, 0, none⟩)]) _ from (H.bK 0 rfl : aH _ (fun w => aM w uR 235 [.pointer (some ⟨bt, 0, none⟩)]) _).imp fun _ h => h.rd)
 refine WL.call aEF rfl (aGe (bt := bt) (uR := uR) (bf := bf) H.aS (H.o 0 rfl) (H.aK 0 rfl 0 rfl)) ?_
 rintro _ y8 ⟨rfl, hO, hB⟩
 replace H := H.eU 0 rfl hO hB
 refine WL.as rfl rfl (WL.nil (WE.ret ⟨[_], _, .nil _, ⟨rfl, trivial⟩, ?_⟩))
 exact ⟨rfl, H.cL, H.o 0 rfl⟩
theorem YB {X : Nat → Prop} {w : World} {bf : Nat} {op : List UInt8} {ix code : Int} (hX : cU X w) (bT : aH X (dZ) w) (dA : aH X (fun w => aM w bf 221 (dM op ix code)) w) :
  bF prog 85 [.iface 219 (.pointer (some ⟨bf, 0, none⟩))].toArray w fun v w' => v = .tuple [o8 op, .int .i64 ix, .bool true].toArray ∧ Out Nil w w' := by
 refine bF.aI (N := 18) func85 rfl rfl (by simp) ?_
 have H := ((St.begin hX).add (cE dA)).add (cE bT)
 refine WE.aA (WL.as rfl rfl (WL.as rfl rfl (WL.as rfl rfl (WL.nil (WE.aA ?_)))))
 refine WL.alloc H rfl aCB rfl ?_
 intro b5 w1 H
 refine WL.nil (WE.seq (WE.aA (WL.mv rfl rfl (WL.pv (PV.kV rfl (by kernel_rfl)) rfl ?_))))
 refine WL.call aBN rfl (aGN (bt := b5) (bf := bf) H.aS (H.l 0 rfl) (by exact (H.fM 0 rfl 0 rfl : aH _ (dZ) _))) ?_
 rintro _ w2 ⟨rfl, hO, hB⟩
 replace H := H.called 0 rfl hO hB
 refine WL.pv (PV.not rfl rfl) rfl (WL.nil ?_)
 refine WE.bB rfl rfl ?_
 refine WE.skip ?_
 refine WE.bG (.take 0 (.take 1 (.take 2 (.take 3 (.take 4 (.take 5 (.take 6 (.take 7 (.take 8 (.take 9 (.take 10 .done))))))))))) mixed (by kernel_rfl) ?_
 replace H := H.out (Out.drew _)
 refine WP.aQ rfl rfl (RV.aZ rfl aAo rfl) (aM.aF (H.l 0 rfl) (aJ.all _) rfl) (WP.aC rfl rfl (PV.nilCheck rfl rfl) (WP.aC rfl rfl (PV.fieldAddr rfl JV rfl) ?_))
 refine WP.aQ rfl rfl (RV.aZ rfl ag9 rfl) ((dM.rd0 (by exact (H.p 1 rfl : aM _ bf 221 (dM op ix code))))) ?_
 refine WP.aQ rfl rfl (RV.aZ rfl aAo rfl) (aM.aF (H.l 0 rfl) (aJ.all _) rfl) (WP.aC rfl rfl (PV.nilCheck rfl rfl) (WP.aC rfl rfl (PV.fieldAddr rfl WI rfl) ?_))
 refine WP.aQ rfl rfl (RV.aZ rfl oZ rfl) ((dM.rd1 (by exact (H.p 1 rfl : aM _ bf 221 (dM op ix code))))) ?_
 refine WP.as rfl rfl rfl (WP.as rfl rfl rfl (WP.as rfl rfl rfl (WP.done (WE.ret ⟨[_, _, _], _, .nil _, ⟨rfl, rfl, rfl, trivial⟩, ?_⟩))))
 exact ⟨rfl, H.aL⟩
theorem aCp {X : Nat → Prop} {w : World} {bf : Nat} {op : List UInt8} {ix code : Int} (hX : cU X w) (bT : aH X (dZ) w) (dA : aH X (fun w => aM w bf 221 (dM op ix code)) w) :
  bF prog 86 [.iface 219 (.pointer (some ⟨bf, 0, none⟩))].toArray w fun v w' => v = .int .i64 code ∧ Out Nil w w' := by
 refine bF.aI (N := 12) func86 rfl rfl (by simp) ?_
 have H := ((St.begin hX).add (cE dA)).add (cE bT)
 refine WE.aA (WL.as rfl rfl (WL.nil (WE.aA ?_)))
 refine WL.alloc H rfl aCu rfl ?_
 intro b3 w1 H
 refine WL.nil (WE.seq (WE.block (WE.aA (WL.mv rfl rfl ?_))))
 refine WL.pv (PV.pO rfl (by kernel_rfl) (by exact yF.of)) rfl ?_
 refine WL.as rfl rfl (WL.nil ?_)
 refine WE.bB rfl rfl ?_
 refine WE.aA (WL.mv rfl rfl (WL.pv (PV.kV rfl (by kernel_rfl)) rfl ?_))
 refine WL.call aBN rfl (aAw (bt := b3) (bf := bf) (op := op) (ix := ix) (code := code) H.aS (H.l 0 rfl) (by exact (H.fM 0 rfl 0 rfl : aH _ (dZ) _)) (by exact (H.fM 0 rfl 1 rfl : aH _ (fun w => aM w bf 221 (dM op ix code)) _))) ?_
 rintro _ w2 ⟨rfl, hO, hB⟩
 replace H := H.called 0 rfl hO hB
 refine WL.as rfl rfl (WL.nil ?_)
 refine WE.cO rfl rfl ?_
 refine WE.aA (WL.aY rfl aB2 rfl rfl (aM.aF (H.l 0 rfl) (aJ.all _) rfl) (WL.as rfl rfl (WL.nil (WE.ret ⟨[_], _, .nil _, ⟨rfl, trivial⟩, ?_⟩))))
 exact ⟨rfl, H.aL⟩
theorem aGz {X : Nat → Prop} {w : World} {bf : Nat} {op : List UInt8} {ix code : Int} (hX : cU X w) (bT : aH X (fun w => aM w bf 221 (dM op ix code)) w) :
  bF prog 87 [.iface 219 (.pointer (some ⟨bf, 0, none⟩))].toArray w fun v w' => Out Nil w w' ∧ aH X (fun w => cR w v 1 1 [o8 op]) w' := by
 refine bF.aI (N := 25) func87 rfl rfl (by simp) ?_
 have H := (St.begin hX).add (cE bT)
 refine WE.aA (WL.as rfl rfl (WL.nil (WE.aA (WL.as rfl rfl (WL.nil (WE.block ?_))))))
 replace H := H.lK 9 1
 refine WE.jG 2 ?_
 refine dN.step ?_
 refine WE.block (WE.aA (WL.mv rfl rfl (WL.pv (PV.AN (z := .pointer none) rfl (by kernel_rfl) (by kernel_rfl) rfl) rfl (WL.mv rfl rfl (WL.pv (PV.extract rfl rfl rfl) rfl (WL.pv (PV.extract rfl rfl rfl) rfl (WL.as rfl rfl ?_)))))))
 refine WL.as rfl rfl (WL.nil (WE.seq (WE.aA (WL.mv rfl rfl (WL.pv (PV.not rfl rfl) rfl (WL.nil ?_))))))
 refine WE.bB rfl rfl ?_
 refine WE.skip (WE.aA (WL.mv rfl rfl (WL.mv rfl rfl (WL.pv (PV.nilCheck rfl rfl) rfl (WL.pv (PV.fieldAddr rfl JV rfl) rfl ?_)))))
 refine WL.aY rfl ag9 rfl rfl ((dM.rd0 (by exact (H.p 0 rfl : aM _ bf 221 (dM op ix code))))) ?_
 refine WL.bL (l0 := [.string ⟨#[]⟩]) H rfl YU (by decide) (dH _ _) (Fl.cons rfl (rfl) (by simp only [aR]) Laid.head Fl.nil) rfl ?_
 intro b19 w1 H
 refine WL.append (m := 1) H 1 YU (by decide) rfl rfl rfl (cR.bZ (n := 1) (H.l 0 rfl) rfl) (bE _ rfl) (by omega) (by decide) rfl ?_
 intro v20 w2 H
 replace H := H.forget 0
 refine WL.as rfl rfl (WL.nil (WE.eH (WL.mv rfl rfl (WL.pv (PV.nilCheck rfl rfl) rfl (WL.pv (PV.fieldAddr rfl JU rfl) rfl ?_)))))
 refine WL.aY rfl aGk rfl rfl ((dM.rd2 (by exact (H.p 0 rfl : aM _ bf 221 (dM op ix code))))) ?_
 refine WL.as rfl rfl (WL.nil ?_)
 refine dN.step ?_
 refine WE.block (WE.aA (WL.mv rfl rfl (WL.pv (PV.AN (z := .pointer none) rfl (by kernel_rfl) (by kernel_rfl) rfl) rfl (WL.mv rfl rfl (WL.pv (PV.extract rfl rfl rfl) rfl (WL.pv (PV.extract rfl rfl rfl) rfl (WL.as rfl rfl ?_)))))))
 refine WL.as rfl rfl (WL.nil (WE.seq (WE.aA (WL.mv rfl rfl (WL.pv (PV.not rfl rfl) rfl (WL.nil ?_))))))
 refine WE.cO rfl rfl ?_
 refine WE.aA (WL.mv rfl rfl (WL.as rfl rfl (WL.nil (WE.ret ⟨[_], _, .nil _, ⟨rfl, trivial⟩, ?_⟩))))
 replace H := H.freeze (i := 0) rfl
 exact ⟨H.aL, H.gQ ((H.bK 0 rfl).imp fun _ h => cR.eM h)⟩
theorem NV {X : Nat → Prop} {w : World} {op : List UInt8} {ix : Int} (hX : cU X w) :
  bF prog 43 [.nilIface, o8 op, .int .i64 ix, .int .i64 0].toArray w fun v w' => v = .bool false ∧ Out Nil w w' := by
 refine bF.aI (N := 50) func43 rfl rfl (by simp) ?_
 have H := St.begin hX
 refine WE.aA (WL.as rfl rfl (WL.nil (WE.seq (WE.aA (WL.mv rfl rfl (WL.pv (PV.eql rfl rfl rfl) rfl (WL.nil ?_)))))))
 refine WE.cO rfl rfl ?_
 refine WE.aA (WL.mv rfl rfl ?_)
 refine WL.pv (PV.zL rfl (by kernel_rfl) (by exact yF.nil)) rfl ?_
 refine WL.as rfl rfl (WL.nil (WE.ret ⟨[_], _, .nil _, ⟨rfl, trivial⟩, ?_⟩))
 exact ⟨rfl, H.aL⟩
theorem NU {X : Nat → Prop} {w : World} {bf : Nat} {op : List UInt8} {ix code : Int} (hX : cU X w) (bT : aH X (dZ) w) (dA : aH X (fun w => aM w bf 221 (dM op ix code)) w) (hz : code ≠ 0) :
  bF prog 43 [.iface 219 (.pointer (some ⟨bf, 0, none⟩)), o8 op, .int .i64 ix, .int .i64 code].toArray w fun v w' => v = .bool false ∧ Out Nil w w' := by
 refine bF.aI (N := 50) func43 rfl rfl (by simp) ?_
 have H := ((St.begin hX).add (cE dA)).add (cE bT)
 refine WE.aA (WL.as rfl rfl (WL.nil (WE.seq (WE.aA (WL.mv rfl rfl (WL.pv (PV.eql rfl rfl rfl) rfl (WL.nil ?_)))))))
 refine WE.bB rfl (by simp [hz]) ?_
 refine WE.skip (WE.aA (WL.mv rfl rfl ?_))
 refine WL.call aIb rfl (YB (bf := bf) (op := op) (ix := ix) (code := code) H.aS (by exact (H.bK 0 rfl : aH _ (dZ) _)) (by exact (H.bK 1 rfl : aH _ (fun w => aM w bf 221 (dM op ix code)) _))) ?_
 rintro _ w1 ⟨rfl, hO⟩
 replace H := H.out hO
 refine WL.mv rfl rfl (WL.pv (PV.extract rfl rfl rfl) rfl (WL.pv (PV.extract rfl rfl rfl) rfl (WL.pv (PV.extract rfl rfl rfl) rfl (WL.as rfl rfl (WL.as rfl rfl (WL.as rfl rfl (WL.nil ?_)))))))
 refine WE.aA (WL.mv rfl rfl ?_)
 refine WL.pv (PV.pO rfl (by kernel_rfl) (by exact yF.of)) rfl ?_
 refine WL.mv rfl rfl (WL.known (t := 24) (c := false) rfl rfl (WL.mv rfl rfl ?_))
 refine WL.call aIa rfl (aCp (bf := bf) (op := op) (ix := ix) (code := code) H.aS (by exact (H.bK 0 rfl : aH _ (dZ) _)) (by exact (H.bK 1 rfl : aH _ (fun w => aM w bf 221 (dM op ix code)) _))) ?_
 rintro _ w2 ⟨rfl, hO⟩
 replace H := H.out hO
 refine WL.mv rfl rfl (WL.pv (PV.neq rfl rfl rfl) rfl (WL.pv (PV.cZ rfl rfl rfl) rfl (WL.mv rfl rfl (WL.known (t := 30) (c := false) rfl (by simp) (WL.mv rfl rfl (WL.mv rfl rfl (WL.pv (PV.aA1 rfl rfl rfl) rfl ?_)))))))
 refine WL.pv (PV.cZ rfl rfl rfl) rfl (WL.mv rfl rfl (WL.known (t := 35) (c := false) rfl (by simp) (WL.mv rfl rfl (WL.mv rfl rfl (WL.pv (PV.neq rfl rfl rfl) rfl (WL.pv (PV.cZ rfl rfl rfl) rfl (WL.mv rfl rfl ?_)))))))
 refine WL.known (t := 40) (c := false) rfl (by simp) (WL.mv rfl rfl (WL.pv (PV.not rfl rfl) rfl (WL.pv (PV.cZ rfl rfl rfl) rfl (WL.mv rfl rfl (WL.known (t := 44) (c := false) rfl rfl (WL.mv rfl rfl ?_))))))
 refine WL.call aH9 rfl (aGz (bf := bf) (op := op) (ix := ix) (code := code) H.aS (by exact (H.bK 1 rfl : aH _ (fun w => aM w bf 221 (dM op ix code)) _))) ?_
 rintro v46 w3 ⟨hO, hR⟩
 replace H := (H.out hO).add (show aH _ (fun w => cR w v46 1 1 [o8 op]) _ from hR)
 refine WL.pv (PV.dO (H.p 0 rfl : cR _ v46 1 1 [o8 op]) YW rfl) rfl (WL.pv (PV.neq rfl rfl rfl) rfl (WL.pv (PV.cZ rfl rfl rfl) rfl (WL.as rfl rfl (WL.nil (WE.ret ⟨[_], _, .nil _, ⟨rfl, trivial⟩, ?_⟩)))))
 refine ⟨?_, H.aL⟩
 rfl
theorem u6 {X : Nat → Prop} {w : World} {op : List UInt8} {ix code : Int} {ev : Value} (hX : cU X w) (h0 : aH X dZ w) (h1 : aH X (eZ op ix code ev) w) :
  bF prog 43 [ev, o8 op, .int .i64 ix, .int .i64 code].toArray w fun v w' => v = .bool false ∧ Out Nil w w' := by
 rcases h1.here with ⟨rfl, rfl⟩ | ⟨hz, bf, rfl, _⟩
 ·
  exact NV hX
 ·
  refine NU (bf := bf) hX h0 (h1.imp fun w_ h => ?_) hz
  rcases h with ⟨h2, _⟩ | ⟨_, b2, h3, h4⟩
  ·
   exact absurd h2 hz
  ·
   injection h3 with _ h5
   injection h5 with h6
   injection h6 with h7
   injection h7 with h8
   rw [h8]; exact h4
def gK : List Value := [vG 121, vG 123, vG 124, vG 125, vG 127, vG 129]
theorem mT {v : Value} {w : World} (h : cR w v 1 6 gK) (i : Nat) (hi : i < 6) : cX w (jF v (i * 1)) [gK[i]'hi] := by
 have h2 := cR.rd h i hi
 rw [Nat.mul_one] at h2 ⊢
 have e : (gK.drop i).take 1 = [gK[i]'hi] := by rw [List.drop_eq_getElem_cons (show i < gK.length from hi)]; rfl
 rw [e] at h2; exact h2
theorem eZ.fault {X : Nat → Prop} {w : World} {op : List UInt8} {ix code : Int} {v : Value} (h : aH X (eZ op ix code v) w) (hz : code ≠ 0) : ∃ bf, v = .iface 219 (.pointer (some ⟨bf, 0, none⟩)) ∧ aH X (fun w => aM w bf 221 (dM op ix code)) w := by
 rcases h.here with ⟨h1, _⟩ | ⟨_, bf, rfl, _⟩
 ·
  exact absurd h1 hz
 ·
  refine ⟨bf, rfl, h.imp fun w_ h => ?_⟩
  rcases h with ⟨h2, _⟩ | ⟨_, b2, h3, h4⟩
  ·
   exact absurd h2 hz
  ·
   injection h3 with _ h5
   injection h5 with h6
   injection h6 with h7
   injection h7 with h8
   rw [h8]; exact h4
theorem eZ.none {X : Nat → Prop} {w : World} {op : List UInt8} {ix code : Int} {v : Value} (h : aH X (eZ op ix code v) w) (hz : code = 0) : v = .nilIface := by
 rcases h.here with ⟨_, h1⟩ | ⟨h1, _⟩
 ·
  exact h1
 ·
  exact absurd hz h1
theorem UP {X : Nat → Prop} {w : World}  (hX : cU X w) :
  bF prog 79 [].toArray w fun v w' => Out Nil w w' ∧ aH X (fun w => cR w v 1 6 gK) w' := by
 refine bF.aI (N := 8) func79 rfl rfl (by decide +revert) ?_
 have H := St.begin hX
 refine WE.aA (WL.as rfl rfl (WL.nil (WE.aA ?_)))
 refine WL.pv (PV.dD rfl zH mR (Fl.cons rfl rfl (by simp only [aR, aU, aB, aD]) Laid.head Fl.nil)) rfl ?_
 refine WL.pv (PV.dD rfl zH mR (Fl.cons rfl rfl (by simp only [aR, aU, aB, aD]) Laid.head Fl.nil)) rfl ?_
 refine WL.pv (PV.dD rfl zH mR (Fl.cons rfl rfl (by simp only [aR, aU, aB, aD]) Laid.head Fl.nil)) rfl ?_
 refine WL.pv (PV.dD rfl zH mR (Fl.cons rfl rfl (by simp only [aR, aU, aB, aD]) Laid.head Fl.nil)) rfl ?_
 refine WL.pv (PV.dD rfl zH mR (Fl.cons rfl rfl (by simp only [aR, aU, aB, aD]) Laid.head Fl.nil)) rfl ?_
 refine WL.pv (PV.dD rfl zH mR (Fl.cons rfl rfl (by simp only [aR, aU, aB, aD]) Laid.head Fl.nil)) rfl ?_
 refine WL.bL (l0 := [.nilFunc, .nilFunc, .nilFunc, .nilFunc, .nilFunc, .nilFunc]) H rfl aC0 (by decide) (dH _ _) (Fl.cons rfl (rfl) (by simp only [aR, aU, aB, aD]) Laid.head (Fl.cons rfl (rfl) (by simp only [aR, aU, aB, aD]) (Laid.tail Laid.head rfl) (Fl.cons rfl (rfl) (by simp only [aR, aU, aB, aD]) (Laid.tail (Laid.tail Laid.head rfl) rfl) (Fl.cons rfl (rfl) (by simp only [aR, aU, aB, aD]) (Laid.tail (Laid.tail (Laid.tail Laid.head rfl) rfl) rfl) (Fl.cons rfl (rfl) (by simp only [aR, aU, aB, aD]) (Laid.tail (Laid.tail (Laid.tail (Laid.tail Laid.head rfl) rfl) rfl) rfl) (Fl.cons rfl (rfl) (by simp only [aR, aU, aB, aD]) (Laid.tail (Laid.tail (Laid.tail (Laid.tail (Laid.tail Laid.head rfl) rfl) rfl) rfl) rfl) Fl.nil)))))) rfl ?_
 intro b7 w1 H
 refine WL.as rfl rfl (WL.nil (WE.ret ⟨[_], _, .nil _, ⟨rfl, trivial⟩, ?_⟩))
 replace H := H.freeze (i := 0) rfl
 exact ⟨H.aL, H.gQ ((H.bK 0 rfl).imp fun _ h => cR.bZ (n := 6) h rfl)⟩
theorem SV {X : Nat → Prop} {w : World} {bh bc : Nat} {bits n0 : Int} {sr sk sv se : Value} {pr : Bool} {k vv rb : List UInt8} {kd dp : Nat} {lk lv B : List UInt8} {sb : List (List UInt8)} (hX : cU X w) (eT : aM w bc 213 ([.int .i64 n0])) (bT : aH (fun c_ => X c_ ∨ c_ = bc) (fF bh bc bits) w) (dA : aH (fun c_ => X c_ ∨ c_ = bc) (bI sr rb) w) (fN : aH (fun c_ => X c_ ∨ c_ = bc) (bI sk k) w) (jO : aH (fun c_ => X c_ ∨ c_ = bc) (bI sv vv) w) (nE : aH (fun c_ => X c_ ∨ c_ = bc) (bI se (e8 kd dp lk lv B sb)) w) (rJ : aH (fun c_ => X c_ ∨ c_ = bc) (aX) w) (bR : 0 ≤ bits ∧ bits ≤ 256) (hp : iG kd dp lk lv B sb) (hk : k.length = 32) (hr : rb.length = 32) (hv : vv.length ≤ 65535) (tK : uU kd dp lk lv k (mS bits vv) pr) :
  bF prog 38 [.pointer (some ⟨bh, 0, none⟩), sr, .agg [sk, sv, .bool pr].toArray, se].toArray w fun v w' => ∃ (m : Int), Out (· = bc) w w' ∧ aM w' bc 213 [.int .i64 m] ∧ aH (fun c => X c ∨ c = bc) (eZ [118, 101, 114, 105, 102, 121] 5 (if (eP bits k (fI bits dp B sb) (dP (cN (dX kd lk lv)) bits) dp) = rb then (0 : Int) else 13) v) w' := by
 refine bF.aI (N := 37) func38 rfl rfl (by simp) ?_
 have H := ((((((St.c7 (b := bc) (t := 213) (l := [.int .i64 n0]) hX eT).add (bX rJ)).add (bX nE)).add (bX jO)).add (bX fN)).add (bX dA)).add (bX bT)
 have P8 : sr.oneCell' = true := cR.fH (dA.here)
 have vE : sk.oneCell' = true := cR.fH (fN.here)
 have hv1 : sv.oneCell' = true := cR.fH (jO.here)
 have he1 : se.oneCell' = true := cR.fH (nE.here)
 have hpz : eF UA := bO (bE _ rfl) (bO (bE _ rfl) (bO (bO (bJ _) (bJ _)) (bO (bJ _) (bE _ rfl))))
 obtain ⟨cd, BT⟩ : ∃ cd : Int, cd = (if (eP bits k (fI bits dp B sb) (dP (cN (dX kd lk lv)) bits) dp) = rb then (0 : Int) else 13) := ⟨_, rfl⟩
 refine WE.aA ?_
 refine WL.box (l := [sk, sv, .bool pr]) H rfl (rfl) rfl ?_
 intro b6 w1 H
 refine WL.as rfl rfl (WL.nil (WE.aA (WL.mv rfl rfl (WL.mv rfl rfl ?_))))
 refine WL.bC rfl XT rfl rfl (aM.aF (H.l 0 rfl) (aJ.all _) rfl) (by exact K6) ?_
 refine WL.mv rfl rfl ?_
 refine WL.pv (PV.dD rfl aDk aCE (Fl.cons rfl (rfl) (by simp only [aR, aU, aB, aD]) (Laid.left (Laid.all (by simp only [aR, aU, aB, aD]))) (Fl.cons rfl (cells_one P8) (by simp only [aR, aU, aB, aD]) (Laid.right (Laid.left (Laid.all (by simp only [aR, aU, aB, aD]))) (by simp only [aR, aU, aB, aD])) (Fl.cons rfl (rfl) (by simp only [aR, aU, aB, aD]) (Laid.right (Laid.right (Laid.left (Laid.all (by simp only [aR, aU, aB, aD]))) rfl) (by simp only [aR, aU, aB, aD])) (Fl.cons rfl (cells_one he1) (by simp only [aR, aU, aB, aD]) (Laid.right (Laid.right (Laid.right (Laid.left (Laid.all (by simp only [aR, aU, aB, aD]))) rfl) rfl) (by simp only [aR, aU, aB, aD])) Fl.nil))))) rfl ?_
 refine WL.box (l := G9 bh sr sk sv pr se UA) H rfl rfl rfl ?_
 intro SG w2 H
 refine WL.as rfl rfl (WL.nil (WE.seq (WE.aA ?_)))
 refine WL.call aIc rfl (UP H.aS) ?_
 rintro IU w3 ⟨hO, hR⟩
 replace H := (H.out hO).add (show aH _ (fun w => cR w IU 1 6 gK) _ from hR)
 refine WL.pv (PV.dO (by exact (H.p 0 rfl : ((fun w => cR w IU 1 6 gK)) _)) uH rfl) rfl ?_
 refine WL.mv rfl rfl (WL.nil (WE.block ?_))
 refine WE.jG 7 ?_
 refine dN.step ?_
 refine WE.aA (WL.pv (PV.lss rfl rfl rfl) rfl (WL.nil (WE.seq ?_)))
 refine WE.cO rfl rfl ?_
 refine WE.skip (WE.seq (WE.block (WE.aA (WL.mv rfl rfl ?_))))
 refine WL.pv (by exact PV.eO (i := 0) rfl (by exact (H.p 0 rfl : ((fun w => cR w IU 1 6 gK)) _)) uH jP rfl rfl (by omega) (by decide)) rfl ?_
 refine WL.bC rfl AQ rfl rfl (by exact mT (by exact (H.p 0 rfl : ((fun w => cR w IU 1 6 gK)) _)) 0 (by decide)) (by exact jP) ?_
 refine WL.alloc H rfl mR rfl ?_
 intro XN w4 H
 refine WL.as rfl rfl ?_
 refine WL.aT H 0 rfl rfl rfl (new := _) rfl (by exact jP) (bE _ rfl) (Laid.at (Laid.all (by simp only [aR, aU, aB, aD])) rfl) rfl ?_
 intro w5 H
 refine WL.nil (WE.aA (WL.pv (PV.fieldAddr rfl pW rfl) rfl (WL.aY rfl AR rfl rfl (aM.aF (H.l 0 rfl) aJ.hd rfl) (WL.mv rfl rfl ?_))))
 (refine WL.iK rfl rfl (eV.iU (fs := []) (cs := []) aFJ (aCZ (X := Nil) (bk := SG) (bh := bh) (sr := sr) (sk := sk) (sv := sv) (se := se) (pr := pr) (pf := UA) (rb := rb) (fun _ h => h.elim) (by exact H.U0 1 rfl) (by exact (H.bK 2 rfl : aH _ (bI sr rb) _).nil) hr)) ?_; rintro _ w6 ⟨rfl, hO⟩; replace H := H.out hO)
 refine WL.as rfl rfl (WL.nil (WE.aA (WL.mv rfl rfl (WL.pv (PV.neq rfl rfl rfl) rfl (WL.nil ?_)))))
 refine WE.bB rfl rfl ?_
 refine WE.skip (WE.eH (WL.pv (PV.bY rfl rfl rfl (by omega) (by omega)) rfl (WL.mv rfl rfl (WL.nil ?_))))
 replace H := H.forget 0
 refine dN.step ?_
 refine WE.aA (WL.pv (PV.lss rfl rfl rfl) rfl (WL.nil (WE.seq ?_)))
 refine WE.cO rfl rfl ?_
 refine WE.skip (WE.seq (WE.block (WE.aA (WL.mv rfl rfl ?_))))
 refine WL.pv (by exact PV.eO (i := 1) rfl (by exact (H.p 0 rfl : ((fun w => cR w IU 1 6 gK)) _)) uH jP rfl rfl (by omega) (by decide)) rfl ?_
 refine WL.bC rfl AQ rfl rfl (by exact mT (by exact (H.p 0 rfl : ((fun w => cR w IU 1 6 gK)) _)) 1 (by decide)) (by exact jP) ?_
 refine WL.alloc H rfl mR rfl ?_
 intro XN w7 H
 refine WL.as rfl rfl ?_
 refine WL.aT H 0 rfl rfl rfl (new := _) rfl (by exact jP) (bE _ rfl) (Laid.at (Laid.all (by simp only [aR, aU, aB, aD])) rfl) rfl ?_
 intro w8 H
 refine WL.nil (WE.aA (WL.pv (PV.fieldAddr rfl pW rfl) rfl (WL.aY rfl AR rfl rfl (aM.aF (H.l 0 rfl) aJ.hd rfl) (WL.mv rfl rfl ?_))))
 (refine WL.iK rfl rfl (eV.iU (fs := []) (cs := []) aFI (aCX (X := Nil) (bk := SG) (bh := bh) (sr := sr) (sk := sk) (sv := sv) (se := se) (pr := pr) (pf := UA) (k := k) (fun _ h => h.elim) (by exact H.U0 1 rfl) (by exact (H.bK 3 rfl : aH _ (bI sk k) _).nil) hk)) ?_; rintro _ w9 ⟨rfl, hO⟩; replace H := H.out hO)
 refine WL.as rfl rfl (WL.nil (WE.aA (WL.mv rfl rfl (WL.pv (PV.neq rfl rfl rfl) rfl (WL.nil ?_)))))
 refine WE.bB rfl rfl ?_
 refine WE.skip (WE.eH (WL.pv (PV.bY rfl rfl rfl (by omega) (by omega)) rfl (WL.mv rfl rfl (WL.nil ?_))))
 replace H := H.forget 0
 refine dN.step ?_
 refine WE.aA (WL.pv (PV.lss rfl rfl rfl) rfl (WL.nil (WE.seq ?_)))
 refine WE.cO rfl rfl ?_
 refine WE.skip (WE.seq (WE.block (WE.aA (WL.mv rfl rfl ?_))))
 refine WL.pv (by exact PV.eO (i := 2) rfl (by exact (H.p 0 rfl : ((fun w => cR w IU 1 6 gK)) _)) uH jP rfl rfl (by omega) (by decide)) rfl ?_
 refine WL.bC rfl AQ rfl rfl (by exact mT (by exact (H.p 0 rfl : ((fun w => cR w IU 1 6 gK)) _)) 2 (by decide)) (by exact jP) ?_
 refine WL.alloc H rfl mR rfl ?_
 intro XN vR H
 refine WL.as rfl rfl ?_
 refine WL.aT H 0 rfl rfl rfl (new := _) rfl (by exact jP) (bE _ rfl) (Laid.at (Laid.all (by simp only [aR, aU, aB, aD])) rfl) rfl ?_
 intro y8 H
 refine WL.nil (WE.aA (WL.pv (PV.fieldAddr rfl pW rfl) rfl (WL.aY rfl AR rfl rfl (aM.aF (H.l 0 rfl) aJ.hd rfl) (WL.mv rfl rfl ?_))))
 (refine WL.iK rfl rfl (eV.iU (fs := []) (cs := []) aFH (aCW (X := Nil) (bk := SG) (bh := bh) (sr := sr) (sk := sk) (sv := sv) (se := se) (pr := pr) (pf := UA) (vv := vv) (fun _ h => h.elim) (by exact H.U0 1 rfl) (by exact (H.bK 4 rfl : aH _ (bI sv vv) _).nil) hv)) ?_; rintro _ IQ ⟨rfl, hO⟩; replace H := H.out hO)
 refine WL.as rfl rfl (WL.nil (WE.aA (WL.mv rfl rfl (WL.pv (PV.neq rfl rfl rfl) rfl (WL.nil ?_)))))
 refine WE.bB rfl rfl ?_
 refine WE.skip (WE.eH (WL.pv (PV.bY rfl rfl rfl (by omega) (by omega)) rfl (WL.mv rfl rfl (WL.nil ?_))))
 replace H := H.forget 0
 refine dN.step ?_
 refine WE.aA (WL.pv (PV.lss rfl rfl rfl) rfl (WL.nil (WE.seq ?_)))
 refine WE.cO rfl rfl ?_
 refine WE.skip (WE.seq (WE.block (WE.aA (WL.mv rfl rfl ?_))))
 refine WL.pv (by exact PV.eO (i := 3) rfl (by exact (H.p 0 rfl : ((fun w => cR w IU 1 6 gK)) _)) uH jP rfl rfl (by omega) (by decide)) rfl ?_
 refine WL.bC rfl AQ rfl rfl (by exact mT (by exact (H.p 0 rfl : ((fun w => cR w IU 1 6 gK)) _)) 3 (by decide)) (by exact jP) ?_
 refine WL.alloc H rfl mR rfl ?_
 intro XN FP H
 refine WL.as rfl rfl ?_
 refine WL.aT H 0 rfl rfl rfl (new := _) rfl (by exact jP) (bE _ rfl) (Laid.at (Laid.all (by simp only [aR, aU, aB, aD])) rfl) rfl ?_
 intro K2 H
 refine WL.nil (WE.aA (WL.pv (PV.fieldAddr rfl pW rfl) rfl (WL.aY rfl AR rfl rfl (aM.aF (H.l 0 rfl) aJ.hd rfl) (WL.mv rfl rfl ?_))))
 (refine WL.iK rfl rfl (eV.iU (fs := []) (cs := []) aFG (aCV (bk := SG) (bh := bh) (sr := sr) (sk := sk) (sv := sv) (se := se) (pr := pr) (kd := kd) (dp := dp) (lk := lk) (lv := lv) (B := B) (sb := sb) H.aS (H.l 1 rfl) (by exact (H.fM 1 rfl 5 rfl : aH _ (bI se (e8 kd dp lk lv B sb)) _)) hp)) ?_; rintro _ NY ⟨slx, rfl, aJp, hO, hB, hR⟩; replace H := H.mC 1 rfl hO hB hR; replace H := H.freeze (i := 1) rfl)
 refine WL.as rfl rfl (WL.nil (WE.aA (WL.mv rfl rfl (WL.pv (PV.neq rfl rfl rfl) rfl (WL.nil ?_)))))
 refine WE.bB rfl rfl ?_
 refine WE.skip (WE.eH (WL.pv (PV.bY rfl rfl rfl (by omega) (by omega)) rfl (WL.mv rfl rfl (WL.nil ?_))))
 replace H := H.forget 0
 refine dN.step ?_
 refine WE.aA (WL.pv (PV.lss rfl rfl rfl) rfl (WL.nil (WE.seq ?_)))
 refine WE.cO rfl rfl ?_
 refine WE.skip (WE.seq (WE.block (WE.aA (WL.mv rfl rfl ?_))))
 refine WL.pv (by exact PV.eO (i := 4) rfl (by exact (H.p 2 rfl : ((fun w => cR w IU 1 6 gK)) _)) uH jP rfl rfl (by omega) (by decide)) rfl ?_
 refine WL.bC rfl AQ rfl rfl (by exact mT (by exact (H.p 2 rfl : ((fun w => cR w IU 1 6 gK)) _)) 4 (by decide)) (by exact jP) ?_
 refine WL.alloc H rfl mR rfl ?_
 intro XN TV H
 refine WL.as rfl rfl ?_
 refine WL.aT H 0 rfl rfl rfl (new := _) rfl (by exact jP) (bE _ rfl) (Laid.at (Laid.all (by simp only [aR, aU, aB, aD])) rfl) rfl ?_
 intro TU H
 refine WL.nil (WE.aA (WL.pv (PV.fieldAddr rfl pW rfl) rfl (WL.aY rfl AR rfl rfl (aM.aF (H.l 0 rfl) aJ.hd rfl) (WL.mv rfl rfl ?_))))
 (refine WL.iK rfl rfl (eV.iU (fs := []) (cs := []) aFE (aCU (bk := SG) (bh := bh) (sr := sr) (sk := sk) (sv := sv) (se := se) (pr := pr) (kd := kd) (dp := dp) (lk := lk) (lv := lv) (B := B) (sb := sb) (sl := slx) (bits := bits) (k := k) (vv := vv) (rb := rb) H.aS (H.o 0 rfl) (by exact (H.aK 0 rfl 3 rfl : aH _ (fF bh bc bits) _)) (by exact (H.aK 0 rfl 0 rfl : aH _ (fun w => aM w SG 168 (G9 bh sr sk sv pr se (fG kd dp lk lv B slx))) _)) (by exact (H.aK 0 rfl 5 rfl : aH _ (bI sk k) _)) (by exact (H.aK 0 rfl 6 rfl : aH _ (bI sv vv) _)) (by exact (H.aK 0 rfl 1 rfl : aH _ (eQ slx sb) _)) (by exact (H.aK 0 rfl 8 rfl : aH _ (aX) _)) bR hp hk hv tK)) ?_; rintro _ TT ⟨m29, rfl, hO, hB⟩; replace H := H.eU 0 rfl hO hB)
 refine WL.as rfl rfl (WL.nil (WE.aA (WL.mv rfl rfl (WL.pv (PV.neq rfl rfl rfl) rfl (WL.nil ?_)))))
 refine WE.bB rfl rfl ?_
 refine WE.skip (WE.eH (WL.pv (PV.bY rfl rfl rfl (by omega) (by omega)) rfl (WL.mv rfl rfl (WL.nil ?_))))
 replace H := H.forget 0
 refine dN.step ?_
 refine WE.aA (WL.pv (PV.lss rfl rfl rfl) rfl (WL.nil (WE.seq ?_)))
 refine WE.cO rfl rfl ?_
 refine WE.skip (WE.seq (WE.block (WE.aA (WL.mv rfl rfl ?_))))
 refine WL.pv (by exact PV.eO (i := 5) rfl (by exact (H.p 2 rfl : ((fun w => cR w IU 1 6 gK)) _)) uH jP rfl rfl (by omega) (by decide)) rfl ?_
 refine WL.bC rfl AQ rfl rfl (by exact mT (by exact (H.p 2 rfl : ((fun w => cR w IU 1 6 gK)) _)) 5 (by decide)) (by exact jP) ?_
 refine WL.alloc H rfl mR rfl ?_
 intro XN YQ H
 refine WL.as rfl rfl ?_
 refine WL.aT H 0 rfl rfl rfl (new := _) rfl (by exact jP) (bE _ rfl) (Laid.at (Laid.all (by simp only [aR, aU, aB, aD])) rfl) rfl ?_
 intro w20 H
 refine WL.nil (WE.aA (WL.pv (PV.fieldAddr rfl pW rfl) rfl (WL.aY rfl AR rfl rfl (aM.aF (H.l 0 rfl) aJ.hd rfl) (WL.mv rfl rfl ?_))))
 (refine WL.iK rfl rfl (eV.iU (fs := []) (cs := []) aFC (aCT (bk := SG) (bh := bh) (sr := sr) (sk := sk) (sv := sv) (se := se) (pr := pr) (kd := kd) (dp := dp) (lk := lk) (lv := lv) (B := B) (sb := sb) (sl := slx) (bits := bits) (k := k) (vv := vv) (rb := rb) H.aS (H.o 0 rfl) (by exact (H.aK 0 rfl 3 rfl : aH _ (fF bh bc bits) _)) (by exact (H.aK 0 rfl 0 rfl : aH _ (fun w => aM w SG 168 (G9 bh sr sk sv pr se (fG kd dp lk lv B slx))) _)) (by exact (H.aK 0 rfl 5 rfl : aH _ (bI sk k) _)) (by exact (H.aK 0 rfl 4 rfl : aH _ (bI sr rb) _)) (by exact (H.aK 0 rfl 1 rfl : aH _ (eQ slx sb) _)) (by exact (H.aK 0 rfl 8 rfl : aH _ (aX) _)) bR hp hk hr)) ?_; rintro _ w21 ⟨m29, aDA, hO, hB⟩; rw [← BT] at aDA; subst aDA; replace H := H.eU 0 rfl hO hB)
 refine WL.as rfl rfl (WL.nil (WE.aA (WL.mv rfl rfl (WL.pv (PV.neq rfl rfl rfl) rfl (WL.nil ?_)))))
 refine WE.cond rfl (fun kC => ?_) (fun kC => ?_)
 ·
  try simp only [bU] at kC
  have hne : ¬ (eP bits k (fI bits dp B sb) (dP (cN (dX kd lk lv)) bits) dp) = rb := fun h => kC (BT.trans (if_pos h))
  have hcd : (if (eP bits k (fI bits dp B sb) (dP (cN (dX kd lk lv)) bits) dp) = rb then (0 : Int) else 13) = 13 := if_neg hne
  have GZ : cd = 13 := BT.trans hcd
  refine WE.aA (WL.mv rfl rfl (WL.mv rfl rfl (WL.pv (PV.kV rfl (by kernel_rfl)) rfl ?_)))
  refine WL.call aEG rfl (x8 (op := [118, 101, 114, 105, 102, 121]) (ix := 5) (code := cd) H.aS) ?_
  rintro _ w22 ⟨bf, rfl, hO, hge, hB⟩
  replace H := H.push hO (aN.blk bf 221 (dM [118, 101, 114, 105, 102, 121] 5 cd)) hB (fun c hc => by cases hc; exact hge)
  refine WL.as rfl rfl (WL.nil (WE.ret ⟨[_], _, .nil _, ⟨rfl, trivial⟩, ?_⟩))
  replace H := H.freeze (i := 0) rfl
  refine ⟨_, H.cL, H.o 0 rfl, (show aH _ (fun w => aM w bf 221 (dM [118, 101, 114, 105, 102, 121] 5 cd)) _ from H.fL (H.bK 0 rfl)).imp fun _ h => ?_⟩
  rw [hcd]
  rw [GZ] at h
  exact .inr ⟨by decide, bf, rfl, h⟩
 ·
  try simp only [bU] at kC
  have heq : (eP bits k (fI bits dp B sb) (dP (cN (dX kd lk lv)) bits) dp) = rb := by (by_cases h : (eP bits k (fI bits dp B sb) (dP (cN (dX kd lk lv)) bits) dp) = rb; exact h; exact absurd ((BT.trans (if_neg h)).symm.trans kC) (by decide))
  have hcd : (if (eP bits k (fI bits dp B sb) (dP (cN (dX kd lk lv)) bits) dp) = rb then (0 : Int) else 13) = 0 := if_pos heq
  refine WE.skip (WE.eH (WL.pv (PV.bY rfl rfl rfl (by omega) (by omega)) rfl (WL.mv rfl rfl (WL.nil ?_))))
  replace H := H.forget 0
  refine dN.step ?_
  refine WE.aA (WL.pv (PV.lss rfl rfl rfl) rfl (WL.nil (WE.seq ?_)))
  refine WE.bB rfl rfl ?_
  refine WE.exit (WE.aA (WL.as rfl rfl (WL.nil (WE.ret ⟨[_], _, .nil _, ⟨rfl, trivial⟩, ?_⟩))))
  refine ⟨_, H.cL, H.o 0 rfl, fun _ _ => ?_⟩
  rw [hcd]
  exact .inl ⟨rfl, rfl⟩
theorem sO {X : Nat → Prop} {w : World} {bh bc : Nat} {bits n0 : Int} {sr sk sv se : Value} {pr : Bool} {k vv rb : List UInt8} {kd dp : Nat} {lk lv B : List UInt8} {sb : List (List UInt8)} (hX : cU X w) (eT : aM w bc 213 ([.int .i64 n0])) (bT : aH (fun c_ => X c_ ∨ c_ = bc) (fF bh bc bits) w) (dA : aH (fun c_ => X c_ ∨ c_ = bc) (bI sr rb) w) (fN : aH (fun c_ => X c_ ∨ c_ = bc) (bI sk k) w) (jO : aH (fun c_ => X c_ ∨ c_ = bc) (bI sv vv) w) (nE : aH (fun c_ => X c_ ∨ c_ = bc) (bI se (e8 kd dp lk lv B sb)) w) (rJ : aH (fun c_ => X c_ ∨ c_ = bc) (aX) w) (CM : aH (fun c_ => X c_ ∨ c_ = bc) (dZ) w) (bR : 0 ≤ bits ∧ bits ≤ 256) (hp : iG kd dp lk lv B sb) (hk : k.length = 32) (hr : rb.length = 32) (hv : vv.length ≤ 65535) (tK : uU kd dp lk lv k (mS bits vv) pr) :
  bF prog 14 [.pointer (some ⟨bh, 0, none⟩), sr, .agg [sk, sv, .bool pr].toArray, se].toArray w fun v w' => ∃ (m : Int), v = .int .i64 (if (eP bits k (fI bits dp B sb) (dP (cN (dX kd lk lv)) bits) dp) = rb then (0 : Int) else 13) ∧ Out (· = bc) w w' ∧ aM w' bc 213 [.int .i64 m] := by
 refine bF.aI (N := 25) func14 rfl rfl (by simp) ?_
 have H := (((((((St.c7 (b := bc) (t := 213) (l := [.int .i64 n0]) hX eT).add (bX CM)).add (bX rJ)).add (bX nE)).add (bX jO)).add (bX fN)).add (bX dA)).add (bX bT)
 have P8 : sr.oneCell' = true := cR.fH (dA.here)
 have vE : sk.oneCell' = true := cR.fH (fN.here)
 have hv1 : sv.oneCell' = true := cR.fH (jO.here)
 have he1 : se.oneCell' = true := cR.fH (nE.here)
 have hpz : eF UA := bO (bE _ rfl) (bO (bE _ rfl) (bO (bO (bJ _) (bJ _)) (bO (bJ _) (bE _ rfl))))
 refine WE.aA ?_
 refine WL.box (l := [sk, sv, .bool pr]) H rfl (rfl) rfl ?_
 intro b6 w1 H
 refine WL.as rfl rfl (WL.nil (WE.aA ?_))
 refine WL.alloc H rfl aCu rfl ?_
 intro b9 w2 H
 refine WL.nil (WE.seq (WE.aA (WL.mv rfl rfl (WL.mv rfl rfl ?_))))
 refine WL.bC rfl XT rfl rfl (aM.aF (H.l 1 rfl) (aJ.all _) rfl) (by exact K6) ?_
 refine WL.mv rfl rfl ?_
 refine WL.call aIm rfl (SV (bh := bh) (bits := bits) (k := k) (vv := vv) (rb := rb) (kd := kd) (dp := dp) (lk := lk) (lv := lv) (B := B) (sb := sb) (sr := sr) (sk := sk) (sv := sv) (se := se) (pr := pr) H.aS (H.o 0 rfl) (by exact (H.aK 0 rfl 0 rfl : aH _ (fF bh bc bits) _)) (by exact (H.aK 0 rfl 1 rfl : aH _ (bI sr rb) _)) (by exact (H.aK 0 rfl 2 rfl : aH _ (bI sk k) _)) (by exact (H.aK 0 rfl 3 rfl : aH _ (bI sv vv) _)) (by exact (H.aK 0 rfl 4 rfl : aH _ (bI se (e8 kd dp lk lv B sb)) _)) (by exact (H.aK 0 rfl 5 rfl : aH _ (aX) _)) bR hp hk hr hv tK) ?_
 rintro v15 w3 ⟨m15, hO, hB, hR⟩
 have aJD := (hR.here).ifv
 have aDN := (hR.here).isNil
 have JM := eZ.none hR
 replace H := H.c9 0 rfl hO hB hR
 have aHO := eZ.fault (show aH _ (eZ [118, 101, 114, 105, 102, 121] 5 (if (eP bits k (fI bits dp B sb) (dP (cN (dX kd lk lv)) bits) dp) = rb then (0 : Int) else 13) v15) _ from H.bK 0 rfl)
 refine WL.as rfl rfl (WL.nil (WE.aA (WL.mv rfl rfl (WL.pv (PV.zL rfl (by kernel_rfl) (by assumption)) rfl (WL.mv rfl rfl ?_)))))
 refine WL.split (t := 18) rfl (fun sE => ?_) (fun sE => ?_)
 ·
  refine WL.known (t := 17) (c := true) rfl sE ?_
  try simp only [bU] at sE
  have h_ : iC v15 = false := by exact sE
  have hz : (if (eP bits k (fI bits dp B sb) (dP (cN (dX kd lk lv)) bits) dp) = rb then (0 : Int) else 13) ≠ 0 := by rw [aDN] at h_; simpa using h_
  obtain ⟨bf, rfl, hbf⟩ := aHO hz
  replace H := H.add hbf
  refine WL.mv rfl rfl (WL.pv (PV.kV rfl (by kernel_rfl)) rfl ?_)
  refine WL.call aBN rfl (aAw (bt := b9) (bf := bf) (op := [118, 101, 114, 105, 102, 121]) (ix := 5) (code := (if (eP bits k (fI bits dp B sb) (dP (cN (dX kd lk lv)) bits) dp) = rb then (0 : Int) else 13)) H.aS (H.l 0 rfl) (by exact (H.fM 0 rfl 8 rfl : aH _ (dZ) _)) (by exact (H.fM 0 rfl 0 rfl : aH _ (fun w => aM w bf 221 (dM [118, 101, 114, 105, 102, 121] 5 (if (eP bits k (fI bits dp B sb) (dP (cN (dX kd lk lv)) bits) dp) = rb then (0 : Int) else 13))) _))) ?_
  rintro _ w4 ⟨rfl, hO, hB⟩
  replace H := H.called 0 rfl hO hB
  refine WL.pv (PV.not rfl rfl) rfl (WL.pv (PV.dB rfl rfl rfl) rfl (WL.nil ?_))
  refine WE.bB rfl rfl ?_
  refine WE.skip (WE.aA (WL.aY rfl aB2 rfl rfl (aM.aF (H.l 0 rfl) (aJ.all _) rfl) (WL.as rfl rfl (WL.nil (WE.ret ⟨[_], _, .nil _, ⟨rfl, trivial⟩, ?_⟩)))))
  refine ⟨_, ?_, H.cL, H.o 0 rfl⟩
  rfl
 ·
  refine WL.known (t := 17) (c := false) rfl sE ?_
  try simp only [bU] at sE
  have h_ : iC v15 = true := by exact sE
  have hz : (if (eP bits k (fI bits dp B sb) (dP (cN (dX kd lk lv)) bits) dp) = rb then (0 : Int) else 13) = 0 := by rw [aDN] at h_; simpa using h_
  have VY := JM hz
  refine WL.off rfl (WL.off rfl (WL.off rfl (WL.off rfl (WL.pv (PV.cZ rfl rfl rfl) rfl (WL.nil (WE.iJ rfl (WE.skip ?_)))))))
  refine WE.aA (WL.aY rfl aB2 rfl rfl (aM.aF (H.l 0 rfl) (aJ.all _) rfl) (WL.as rfl rfl (WL.nil (WE.ret ⟨[_], _, .nil _, ⟨rfl, trivial⟩, ?_⟩))))
  refine ⟨_, ?_, H.cL, H.o 0 rfl⟩
  (rw [hz]; rfl)
theorem N0 {w : World} {a : Addr} {u : Up} (h : cX w a (N3 u)) : cX w (a.add 0) [u.sk] := h.sub (aJ.l (aJ.all _))
theorem UG {w : World} {a : Addr} {u : Up} (h : cX w a (N3 u)) : cX w (a.add 1) [u.sv] := h.sub (aJ.r (o := 0) (aJ.l (aJ.all _)) rfl)
theorem aCH {w : World} {a : Addr} {u : Up} (h : cX w a (N3 u)) : cX w (a.add 2) [.bool u.d] := h.sub (aJ.r (o := 1) (aJ.r (o := 0) (aJ.all _) rfl) rfl)
theorem dK.k {l : List Up} {w : World} (h : dK l w) {i : Nat} (hi : i < l.length) : bI l[i].sk l[i].k w := (h _ (List.getElem_mem hi)).1
theorem dK.v {l : List Up} {w : World} (h : dK l w) {i : Nat} (hi : i < l.length) : bI l[i].sv l[i].v w := (h _ (List.getElem_mem hi)).2
theorem dK.uv {l : List Up} {w : World} (h : dK l w) {i : Nat} (hi : i < l.length) : bI (if l[i].d then .slice none 0 0 else l[i].sv) l[i].uv w := by
 unfold Up.uv
 cases hd : l[i].d
 ·
  exact h.v hi
 ·
  exact bI.nil w
theorem BE {o : o7} {w : World} (h : OV o w) : eF (yO o) := bO (bE _ rfl) (bO (dW (cR.fH h.1)) (bO (dW (cR.fH h.2.1)) (dW (cR.fH h.2.2.1))))
theorem VA {u : Up} {w : World} (h : bI u.sk u.k w ∧ bI u.sv u.v w) : eF (N3 u) := bO (dW (cR.fH h.1)) (bO (dW (cR.fH h.2)) (bE _ rfl))
theorem LN {l : List Up} {i : Nat} {u : Up} (h : u ∈ l.take i) : ∃ j, ∃ hj : j < l.length, j < i ∧ l[j] = u := by
 obtain ⟨j, hj, rfl⟩ := List.getElem_of_mem h
 rw [List.length_take] at hj
 exact ⟨j, by omega, by omega, by rw [List.getElem_take]⟩
theorem n5 {X : Nat → Prop} {w : World} {s sv : Value} {lb vv : List UInt8} (hX : cU X w) (bT : aH X (bI s lb) w) (dA : aH X (bI sv vv) w) :
  bF prog 42 [s, sv].toArray w fun v w' => v = .int .i64 (bV lb vv) ∧ Out Nil w w' := by
 refine bF.aI (N := 11) func42 rfl rfl (by simp) ?_
 have H := ((St.begin hX).add (cE dA)).add (cE bT)
 refine WE.aA (WL.as rfl rfl (WL.nil (WE.seq (WE.aA (WL.mv rfl rfl ?_)))))
 refine WL.pv (PV.dO (by exact (H.p 0 rfl : (bI s lb) _)) eW rfl) rfl ?_
 refine WL.pv (PV.neq rfl rfl rfl) rfl (WL.nil ?_)
 refine WE.cond rfl (fun yU => ?_) (fun yU => ?_)
 ·
  try simp only [bU] at yU
  have h7 : lb.length ≠ 32 := by omega
  refine WE.aA (WL.as rfl rfl (WL.nil (WE.ret ⟨[_], _, .nil _, ⟨rfl, trivial⟩, ?_⟩)))
  refine ⟨?_, H.aL⟩
  show Value.int .i64 2 = _
  rw [show bV lb vv = 2 from if_pos h7]
 ·
  try simp only [bU] at yU
  have h7 : lb.length = 32 := by omega
  refine WE.skip (WE.seq (WE.aA (WL.mv rfl rfl ?_)))
  refine WL.pv (PV.dO (by exact (H.p 1 rfl : (bI sv vv) _)) eW rfl) rfl ?_
  refine WL.pv (PV.gtr rfl rfl rfl) rfl (WL.nil ?_)
  refine WE.cond rfl (fun kW => ?_) (fun kW => ?_)
  ·
   try simp only [bU] at kW
   have h10 : 65535 < vv.length := by omega
   refine WE.aA (WL.as rfl rfl (WL.nil (WE.ret ⟨[_], _, .nil _, ⟨rfl, trivial⟩, ?_⟩)))
   refine ⟨?_, H.aL⟩
   show Value.int .i64 3 = _
   rw [show bV lb vv = 3 by unfold bV; rw [if_neg (by omega), if_pos h10]]
  ·
   try simp only [bU] at kW
   have h10 : ¬ 65535 < vv.length := by omega
   refine WE.skip (WE.aA (WL.as rfl rfl (WL.nil (WE.ret ⟨[_], _, .nil _, ⟨rfl, trivial⟩, ?_⟩))))
   refine ⟨?_, H.aL⟩
   show Value.int .i64 0 = _
   rw [show bV lb vv = 0 by unfold bV; rw [if_neg (by omega), if_neg h10]]
theorem JS {X : Nat → Prop} {w : World} {s : Value} {l : List Up} (hX : cU X w) (bT : aH X (jN s l) w) (dA : aH X (dK l) w) (hlen : l.length ≤ 9223372036854775807) (JJ : ∀ u ∈ l, u.k.length ≤ 9223372036854775807 ∧ u.v.length ≤ 9223372036854775807) :
  bF prog 41 [s].toArray w fun v w' => ∃ b : Bool, v = .bool b ∧ (b = true → CH l) ∧ Out Nil w w' := by
 refine bF.aI (N := 41) func41 rfl rfl (by simp) ?_
 have H := ((St.begin hX).add (cE dA)).add (cE bT)
 refine WE.aA (WL.as rfl rfl (WL.nil (WE.seq (WE.aA (WL.mv rfl rfl ?_)))))
 refine WL.pv (PV.dO (by exact (H.p 0 rfl : (jN s l) _)) nV rfl) rfl ?_
 refine WL.pv (PV.gtr rfl rfl rfl) rfl (WL.nil ?_)
 refine WE.cond rfl (fun yU => ?_) (fun yU => ?_)
 ·
  try simp only [bU] at yU
  refine WE.aA (WL.as rfl rfl (WL.nil (WE.ret ⟨[_], _, .nil _, ⟨rfl, trivial⟩, ?_⟩)))
  exact ⟨false, rfl, (fun h => by cases h), H.aL⟩
 ·
  try simp only [bU] at yU
  have aHI : l.length ≤ 20 := by omega
  refine WE.skip (WE.aA (WL.as rfl rfl (WL.nil (WE.seq (WE.aA (WL.as rfl rfl (WL.nil ?_)))))))
  refine WE.block ?_
  refine WE.loop (α := Nat × Nat) (rg [(2, 3), (8, 31)]) (fun p => [(4, .int .i64 (p.1 : Int)), (3, .int .i64 (p.2 : Int))]) (fun p wl => (p.1 ≤ l.length ∧ p.2 ≤ p.1 ∧ ∀ j (h : j < l.length), j < p.1 → l[j].k.length ≤ 100 ∧ l[j].v.length ≤ 70000) ∧ St X w wl [] [] [jN s l, dK l]) (fun p => l.length - p.1) (0, 0) ⟨rfl, rfl, trivial⟩ ⟨⟨Nat.zero_le _, Nat.le_refl _, fun j _ h => absurd h (Nat.not_lt_zero _)⟩, H⟩ ?_
  intro ⟨i, n⟩ γ0 w1 hI
  try dsimp only at hI
  obtain ⟨⟨hi, hni, hall⟩, H⟩ := hI
  try dsimp only at hi hni hall
  refine WE.seq (WE.aA (WL.mv rfl rfl (WL.mv rfl rfl ?_)))
  refine WL.pv (PV.dO (by exact (H.p 0 rfl : (jN s l) _)) nV rfl) rfl ?_
  refine WL.pv (PV.lss rfl rfl rfl) rfl (WL.nil ?_)
  refine WE.cond rfl (fun kD => ?_) (fun kD => ?_)
  ·
   try simp only [bU] at kD
   have hlt : i < l.length := by omega
   refine WE.skip (WE.seq (WE.block (WE.seq (WE.aA (WL.mv rfl rfl (WL.mv rfl rfl ?_))))))
   refine WL.pv (PV.eO rfl (by exact (H.p 0 rfl : (jN s l) _)) nV lH rfl rfl (by omega) (by omega)) rfl ?_
   refine WL.pv (PV.dL rfl p3 rfl) rfl ?_
   refine WL.aY rfl eN rfl rfl ((N0 (jN.rd (by exact (H.p 0 rfl : (jN s l) _)) i hlt))) ?_
   refine WL.pv (PV.dO (((by exact (H.p 1 rfl : (dK l) _)) : dK l _).k hlt) eW rfl) rfl ?_
   refine WL.pv (PV.gtr rfl rfl rfl) rfl (WL.mv rfl rfl ?_)
   refine WL.split (t := 21) rfl (fun QL => ?_) (fun QL => ?_)
   ·
    refine WL.known (t := 20) (c := true) rfl QL ?_
    try simp only [bU] at QL
    refine WL.off rfl (WL.off rfl (WL.off rfl (WL.off rfl (WL.off rfl (WL.off rfl (WL.off rfl (WL.pv (PV.dB rfl rfl rfl) rfl ?_)))))))
    refine WL.nil (WE.kG rfl (WE.aA (WL.as rfl rfl (WL.nil (WE.ret ⟨[_], _, .nil _, ⟨rfl, trivial⟩, ?_⟩)))))
    exact ⟨false, rfl, (fun h => by cases h), H.aL⟩
   ·
    refine WL.known (t := 20) (c := false) rfl QL ?_
    try simp only [bU] at QL
    have ZQ : l[i].k.length ≤ 100 := by omega
    refine WL.mv rfl rfl (WL.mv rfl rfl ?_)
    refine WL.pv (PV.eO rfl (by exact (H.p 0 rfl : (jN s l) _)) nV lH rfl rfl (by omega) (by omega)) rfl ?_
    refine WL.pv (PV.dL rfl pZ rfl) rfl ?_
    refine WL.aY rfl eN rfl rfl ((UG (jN.rd (by exact (H.p 0 rfl : (jN s l) _)) i hlt))) ?_
    refine WL.pv (PV.dO (((by exact (H.p 1 rfl : (dK l) _)) : dK l _).v hlt) eW rfl) rfl ?_
    refine WL.pv (PV.gtr rfl rfl rfl) rfl (WL.pv (PV.cZ rfl rfl rfl) rfl (WL.nil ?_))
    refine WE.cond rfl (fun BV => ?_) (fun BV => ?_)
    ·
     try simp only [bU] at BV
     refine WE.aA (WL.as rfl rfl (WL.nil (WE.ret ⟨[_], _, .nil _, ⟨rfl, trivial⟩, ?_⟩)))
     exact ⟨false, rfl, (fun h => by cases h), H.aL⟩
    ·
     try simp only [bU] at BV
     have hv7 : l[i].v.length ≤ 70000 := by omega
     refine WE.skip (WE.aA (WL.mv rfl rfl (WL.mv rfl rfl ?_)))
     refine WL.pv (PV.eO rfl (by exact (H.p 0 rfl : (jN s l) _)) nV lH rfl rfl (by omega) (by omega)) rfl ?_
     refine WL.pv (PV.dL rfl pZ rfl) rfl ?_
     refine WL.aY rfl eN rfl rfl ((UG (jN.rd (by exact (H.p 0 rfl : (jN s l) _)) i hlt))) ?_
     refine WL.pv (PV.dO (((by exact (H.p 1 rfl : (dK l) _)) : dK l _).v hlt) eW rfl) rfl ?_
     refine WL.pv (PV.gtr rfl rfl rfl) rfl (WL.nil ?_)
     refine WE.cond rfl (fun oE => ?_) (fun oE => ?_)
     ·
      try simp only [bU] at oE
      let n2 := n + 1
      have hn2 : n2 ≤ i + 1 := by omega
      refine WE.eH (WL.mv rfl rfl (WL.pv (PV.eq (v' := .int .i64 ((n + 1 : Nat) : Int)) (PV.bY rfl rfl rfl (by omega) (by omega)) rfl) rfl (WL.as rfl rfl (WL.nil (WE.eH (WL.mv rfl rfl (WL.pv (PV.eq (v' := .int .i64 ((i + 1 : Nat) : Int)) (PV.bY rfl rfl rfl (by omega) (by omega)) rfl) rfl ?_)))))))
      refine WL.as rfl rfl (WL.nil ?_)
      exact ⟨(i + 1, n2), (by repeat (first | with_reducible exact bQ.refl _ _ | refine bQ.dG rfl ?_ | refine bQ.cC rfl ?_ | refine bQ.cB rfl ?_)), ⟨rfl, rfl, trivial⟩, rfl, ⟨⟨by dsimp only; omega, by dsimp only; omega, fun j hj hji => by rcases Nat.lt_or_ge j i with h_ | h_; exact hall j hj h_; (have e_ : j = i := (by dsimp only at hji; omega)); subst e_; exact ⟨ZQ, hv7⟩⟩, H⟩, (by dsimp only; omega)⟩
     ·
      try simp only [bU] at oE
      let n2 := n
      have hn2 : n2 ≤ i + 1 := by omega
      refine WE.skip (WE.eH (WL.mv rfl rfl (WL.pv (PV.eq (v' := .int .i64 ((i + 1 : Nat) : Int)) (PV.bY rfl rfl rfl (by omega) (by omega)) rfl) rfl (WL.as rfl rfl (WL.nil ?_)))))
      exact ⟨(i + 1, n2), (by repeat (first | with_reducible exact bQ.refl _ _ | refine bQ.dG rfl ?_ | refine bQ.cC rfl ?_ | refine bQ.cB rfl ?_)), ⟨rfl, rfl, trivial⟩, rfl, ⟨⟨by dsimp only; omega, by dsimp only; omega, fun j hj hji => by rcases Nat.lt_or_ge j i with h_ | h_; exact hall j hj h_; (have e_ : j = i := (by dsimp only at hji; omega)); subst e_; exact ⟨ZQ, hv7⟩⟩, H⟩, (by dsimp only; omega)⟩
  ·
   try simp only [bU] at kD
   have uN : i = l.length := by omega
   refine WE.exit (WE.aA (WL.mv rfl rfl (WL.pv (PV.leq rfl rfl rfl) rfl (WL.as rfl rfl (WL.nil (WE.ret ⟨[_], _, .nil _, ⟨rfl, trivial⟩, ?_⟩))))))
   exact ⟨_, rfl, (fun _ => ⟨aHI, fun u hu => by obtain ⟨j, hj, rfl⟩ := List.getElem_of_mem hu; exact hall j hj (by omega)⟩), H.aL⟩
theorem DT {X : Nat → Prop} {w : World} {s : Value} {l : List o7} (hX : cU X w) (bT : aH X (uE s l) w) (dA : aH X (iY l) w) (hlen : l.length ≤ 9223372036854775807) (JJ : ∀ o ∈ l, o.k.length ≤ 9223372036854775807 ∧ o.v.length ≤ 9223372036854775807 ∧ o.b.length ≤ 9223372036854775807 ∧ ∀ u ∈ o.b, u.k.length ≤ 9223372036854775807 ∧ u.v.length ≤ 9223372036854775807) :
  bF prog 16 [s].toArray w fun v w' => ∃ n : Int, v = .int .i64 n ∧ (n ≠ 0 → FI l) ∧ Out Nil w w' := by
 refine bF.aI (N := 29) func16 rfl rfl (by simp) ?_
 have H := ((St.begin hX).add (cE dA)).add (cE bT)
 refine WE.aA (WL.as rfl rfl (WL.nil (WE.seq (WE.aA (WL.mv rfl rfl ?_)))))
 refine WL.pv (PV.dO (by exact (H.p 0 rfl : (uE s l) _)) AZ rfl) rfl ?_
 refine WL.pv (PV.gtr rfl rfl rfl) rfl (WL.nil ?_)
 refine WE.cond rfl (fun yU => ?_) (fun yU => ?_)
 ·
  try simp only [bU] at yU
  refine WE.aA (WL.as rfl rfl (WL.nil (WE.ret ⟨[_], _, .nil _, ⟨rfl, trivial⟩, ?_⟩)))
  exact ⟨0, rfl, (fun h => absurd rfl h), H.aL⟩
 ·
  try simp only [bU] at yU
  have aBl : l.length ≤ 12 := by omega
  refine WE.skip (WE.seq (WE.aA (WL.mv rfl rfl ?_)))
  refine WL.pv (PV.dO (by exact (H.p 0 rfl : (uE s l) _)) AZ rfl) rfl ?_
  refine WL.mv rfl rfl (WL.nil (WE.block ?_))
  refine WE.loop (α := Nat) (rg [(2, 1), (4, 1), (10, 19)]) (fun i => [(10, .int .i64 (i : Int))]) (fun i wl => (i ≤ l.length ∧ ∀ j (h : j < l.length), j < i → l[j].k.length ≤ 100 ∧ l[j].v.length ≤ 70000 ∧ CH l[j].b) ∧ St X w wl [] [] [uE s l, iY l]) (fun i => l.length - i) 0 ⟨rfl, trivial⟩ ⟨⟨Nat.zero_le _, fun j _ h => absurd h (Nat.not_lt_zero _)⟩, H⟩ ?_
  intro i γ0 w1 hI
  try dsimp only at hI
  obtain ⟨⟨hi, hall⟩, H⟩ := hI
  refine WE.aA (WL.pv (PV.lss rfl rfl rfl) rfl (WL.nil (WE.seq ?_)))
  refine WE.cond rfl (fun kD => ?_) (fun kD => ?_)
  ·
   try simp only [bU] at kD
   have hlt : i < l.length := by omega
   have vC := JJ _ (List.getElem_mem hlt)
   have hoi : OV l[i] _ := (by exact (H.p 1 rfl : iY l _) _ (List.getElem_mem hlt))
   have aHw : l[i].sk.oneCell' = true := cR.fH hoi.1
   have aHv : l[i].sv.oneCell' = true := cR.fH hoi.2.1
   refine WE.skip (WE.seq (WE.block (WE.aA ?_)))
   refine WL.pv (PV.eO rfl (by exact (H.p 0 rfl : (uE s l) _)) AZ vW rfl rfl (by omega) (by omega)) rfl ?_
   refine WL.bC rfl SP rfl rfl ((uE.rd (by exact (H.p 0 rfl : (uE s l) _)) i hlt)) (by exact vW) ?_
   refine WL.alloc H rfl aAy rfl ?_
   intro b4 w2 H
   refine WL.aT H 0 rfl rfl rfl (new := yO l[i]) rfl (by exact vW) (BE (by exact (H.p 1 rfl : iY l _) _ (List.getElem_mem hlt))) (Laid.at (Laid.all rfl) rfl) rfl ?_
   intro w3 H
   refine WL.nil (WE.aA (WL.pv (PV.fieldAddr rfl lM rfl) rfl (WL.aY rfl eN rfl rfl (aM.aF (H.l 0 rfl) (aJ.tl aJ.hd rfl) rfl) (WL.pv (PV.fieldAddr rfl B3 rfl) rfl (WL.aY rfl eN rfl rfl (aM.aF (H.l 0 rfl) (aJ.tl (aJ.tl aJ.hd rfl) rfl) rfl) ?_)))))
   refine WL.pv (PV.dD rfl aDl NQ (Fl.cons rfl ((cells_one aHw)) (by simp only [aR]) Laid.head (Fl.cons rfl ((cells_one aHv)) (by simp only [aR]) (Laid.tail Laid.head rfl) Fl.nil))) rfl ?_
   refine WL.bL (l0 := ([.slice none 0 0, .slice none 0 0, .bool false])) H rfl aGZ (by decide) rfl (Fl.cons rfl rfl (by simp only [aR]) (Laid.all (by simp only [aR])) Fl.nil) rfl ?_
   intro b19 w4 H
   replace H := H.freeze (i := 0) rfl
   replace H := H.add (show aH _ (jN (.slice (some ⟨b19, 0, none⟩) 1 1) [(⟨l[i].sk, l[i].k, l[i].sv, l[i].v, false⟩ : Up)]) _ from (H.bK 0 rfl).imp fun _ h => (cR.bZ (n := 1) h rfl : cR _ (.slice (some ⟨b19, 0, none⟩) 1 1) 3 1 _))
   replace H := H.add (show aH _ (dK [(⟨l[i].sk, l[i].k, l[i].sv, l[i].v, false⟩ : Up)]) _ from (by exact (H.bK 3 rfl : aH _ (iY l) _).imp fun _ h => (show dK _ _ from fun u hu => by rw [List.mem_singleton.1 hu]; exact ⟨(h _ (List.getElem_mem hlt)).1, (h _ (List.getElem_mem hlt)).2.1⟩)))
   refine WL.call aEP rfl (JS (s := (.slice (some ⟨b19, 0, none⟩) 1 1)) (l := [(⟨l[i].sk, l[i].k, l[i].sv, l[i].v, false⟩ : Up)]) H.aS (by exact (H.bK 1 rfl : aH _ (jN (.slice (some ⟨b19, 0, none⟩) 1 1) [(⟨l[i].sk, l[i].k, l[i].sv, l[i].v, false⟩ : Up)]) _)) (by exact (H.bK 0 rfl : aH _ (dK [(⟨l[i].sk, l[i].k, l[i].sv, l[i].v, false⟩ : Up)]) _)) (by simp) (fun u hu => by rw [List.mem_singleton.1 hu]; exact ⟨vC.1, vC.2.1⟩)) ?_
   rintro _ w5 ⟨bf1, rfl, hF1, hO⟩
   replace H := H.out hO
   refine WL.pv (PV.not rfl rfl) rfl (WL.mv rfl rfl ?_)
   refine WL.split (t := 22) rfl (fun sD => ?_) (fun sD => ?_)
   ·
    refine WL.known (t := 21) (c := true) rfl sD ?_
    try simp only [bU] at sD
    refine WL.off rfl (WL.off rfl (WL.off rfl (WL.off rfl (WL.pv (PV.dB rfl rfl rfl) rfl (WL.nil (WE.kG rfl (WE.aA ?_)))))))
    refine WL.as rfl rfl (WL.nil (WE.ret ⟨[_], _, .nil _, ⟨rfl, trivial⟩, ?_⟩))
    exact ⟨0, rfl, (fun h => absurd rfl h), H.aL⟩
   ·
    refine WL.known (t := 21) (c := false) rfl sD ?_
    try simp only [bU] at sD
    have aHR := hF1 (by exact sD)
    refine WL.pv (PV.fieldAddr rfl B2 rfl) rfl (WL.aY rfl XS rfl rfl (aM.aF (H.l 0 rfl) (aJ.tl (aJ.tl (aJ.tl aJ.hd rfl) rfl) rfl) rfl) ?_)
    refine WL.call aEP rfl (JS (s := l[i].sb) (l := l[i].b) H.aS (by exact (H.bK 4 rfl : aH _ (iY l) _).imp fun _ h => (h _ (List.getElem_mem hlt)).2.2.1) (by exact (H.bK 4 rfl : aH _ (iY l) _).imp fun _ h => (h _ (List.getElem_mem hlt)).2.2.2) vC.2.2.1 vC.2.2.2) ?_
    rintro _ w6 ⟨bf2, rfl, hF2, hO⟩
    replace H := H.out hO
    refine WL.pv (PV.not rfl rfl) rfl (WL.pv (PV.cZ rfl rfl rfl) rfl (WL.nil ?_))
    refine WE.cond rfl (fun V7 => ?_) (fun V7 => ?_)
    ·
     try simp only [bU] at V7
     refine WE.aA (WL.as rfl rfl (WL.nil (WE.ret ⟨[_], _, .nil _, ⟨rfl, trivial⟩, ?_⟩)))
     exact ⟨0, rfl, (fun h => absurd rfl h), H.aL⟩
    ·
     try simp only [bU] at V7
     have aHQ := hF2 (by exact V7)
     have FT := aHR.2 _ (List.mem_singleton.2 rfl)
     refine WE.skip (WE.eH (WL.pv (PV.eq (v' := .int .i64 ((i + 1 : Nat) : Int)) (PV.bY rfl rfl rfl (by omega) (by omega)) rfl) rfl (WL.mv rfl rfl (WL.nil ?_))))
     replace H := H.forget 0
     exact ⟨i + 1, (by repeat (first | with_reducible exact bQ.refl _ _ | refine bQ.dG rfl ?_ | refine bQ.cC rfl ?_ | refine bQ.cB rfl ?_)), ⟨rfl, trivial⟩, rfl, ⟨⟨by omega, fun j hj hji => by rcases Nat.lt_or_ge j i with h_ | h_; exact hall j hj h_; (have e_ : j = i := by omega); subst e_; exact ⟨FT.1, FT.2, aHQ⟩⟩, (by exact H.sS [3, 4])⟩, (by omega)⟩
  ·
   try simp only [bU] at kD
   have uN : i = l.length := by omega
   refine WE.exit (WE.aA (WL.as rfl rfl (WL.nil (WE.ret ⟨[_], _, .nil _, ⟨rfl, trivial⟩, ?_⟩))))
   exact ⟨1, rfl, (fun _ => ⟨aBl, fun o ho => by obtain ⟨j, hj, rfl⟩ := List.getElem_of_mem ho; exact hall j hj (by omega)⟩), H.aL⟩
theorem XC {X : Nat → Prop} {w : World} {s : Value} {l : List Up} (hX : cU X w) (bT : aH X (jN s l) w) (dA : aH X (dK l) w) (hlen : l.length ≤ 1000000) (JJ : ∀ u ∈ l, u.k.length ≤ 9223372036854775807 ∧ u.v.length ≤ 9223372036854775807) :
  bF prog 22 [s].toArray w fun v w' => v = .tuple [.int .i64 (((jM l).1 : Nat) : Int), .int .i64 (jM l).2].toArray ∧ Out Nil w w' := by
 refine bF.aI (N := 52) func22 rfl rfl (by simp) ?_
 have H := ((St.begin hX).add (cE dA)).add (cE bT)
 refine WE.aA (WL.as rfl rfl (WL.as rfl rfl (WL.nil (WE.seq (WE.aA (WL.as rfl rfl (WL.nil ?_)))))))
 refine WE.block ?_
 refine WE.loop (α := Nat) (rg [(2, 50)]) (fun i => [(4, .int .i64 (i : Int))]) (fun i wl => (i ≤ l.length ∧ xL i (l.take i) (l.drop i) = jM l) ∧ St X w wl [] [] [jN s l, dK l]) (fun i => l.length - i) 0 ⟨rfl, trivial⟩ ⟨⟨Nat.zero_le _, by rw [List.take_zero, List.drop_zero]; rfl⟩, H⟩ ?_
 intro i γ0 w1 hI
 try dsimp only at hI
 obtain ⟨⟨hi, qI⟩, H⟩ := hI
 refine WE.seq (WE.aA (WL.mv rfl rfl (WL.mv rfl rfl ?_)))
 refine WL.pv (PV.dO (by exact (H.p 0 rfl : (jN s l) _)) nV rfl) rfl ?_
 refine WL.pv (PV.lss rfl rfl rfl) rfl (WL.nil ?_)
 refine WE.cond rfl (fun kD => ?_) (fun kD => ?_)
 ·
  try simp only [bU] at kD
  have hlt : i < l.length := by omega
  have hvi := JJ _ (List.getElem_mem hlt)
  have D2 := AF l (l.length - i) i (by omega)
  rw [dif_pos hlt] at D2
  rw [D2] at qI
  refine WE.skip (WE.seq (WE.block (WE.aA (WL.mv rfl rfl (WL.mv rfl rfl ?_)))))
  refine WL.pv (PV.eO rfl (by exact (H.p 0 rfl : (jN s l) _)) nV lH rfl rfl (by omega) (by omega)) rfl ?_
  refine WL.pv (PV.dL rfl pZ rfl) rfl ?_
  refine WL.aY rfl eN rfl rfl ((UG (jN.rd (by exact (H.p 0 rfl : (jN s l) _)) i hlt))) ?_
  refine WL.as rfl rfl (WL.nil ?_)
  refine WE.cut (α := Value) (rg [(5, 1), (19, 5)]) (fun nH => [(5, nH)]) (fun nH wl => St X w wl [] [] [bI nH l[i].uv, jN s l, dK l]) ?_ ?_
  ·
   refine WE.aA (WL.mv rfl rfl (WL.mv rfl rfl ?_))
   refine WL.pv (PV.eO rfl (by exact (H.p 0 rfl : (jN s l) _)) nV lH rfl rfl (by omega) (by omega)) rfl ?_
   refine WL.pv (PV.dL rfl vK rfl) rfl ?_
   refine WL.aY rfl uC rfl rfl ((aCH (jN.rd (by exact (H.p 0 rfl : (jN s l) _)) i hlt))) ?_
   refine WL.nil ?_
   refine WE.cond rfl (fun lL => ?_) (fun lL => ?_)
   ·
    try simp only [bU] at lL
    have hd : l[i].d = true := (by exact lL)
    have huv : l[i].uv = [] := if_pos hd
    refine WE.eH (WL.as rfl rfl (WL.nil ?_))
    exact ⟨(.slice none 0 0), (by repeat (first | with_reducible exact bQ.refl _ _ | refine bQ.dG rfl ?_)), ⟨rfl, trivial⟩, rfl, H.add (show aH _ (bI (.slice none 0 0) l[i].uv) _ from fun w_ _ => by rw [huv]; exact bI.nil w_)⟩
   ·
    try simp only [bU] at lL
    have hd : l[i].d = false := (by exact lL)
    have huv : l[i].uv = l[i].v := if_neg (by rw [hd]; decide)
    refine WE.skip ?_
    exact ⟨l[i].sv, (by repeat (first | with_reducible exact bQ.refl _ _ | refine bQ.dG rfl ?_)), ⟨rfl, trivial⟩, rfl, H.add (show aH _ (bI l[i].sv l[i].uv) _ from ((by exact (H.bK 1 rfl : aH _ (dK l) _)) : aH _ (dK l) _).imp fun _ h => by rw [huv]; exact h.v hlt)⟩
  ·
   intro nH γ w2 hI
   try dsimp only at hI
   replace H := hI
   refine WE.aA (WL.mv rfl rfl (WL.mv rfl rfl ?_))
   refine WL.pv (PV.eO rfl (by exact (H.p 1 rfl : (jN s l) _)) nV lH rfl rfl (by omega) (by omega)) rfl ?_
   refine WL.pv (PV.dL rfl p3 rfl) rfl ?_
   refine WL.aY rfl eN rfl rfl ((N0 (jN.rd (by exact (H.p 1 rfl : (jN s l) _)) i hlt))) ?_
   refine WL.mv rfl rfl ?_
   refine WL.call WU rfl (n5 (lb := l[i].k) (vv := l[i].uv) H.aS (show aH _ (bI l[i].sk l[i].k) _ from ((by exact (H.bK 2 rfl : aH _ (dK l) _)) : aH _ (dK l) _).imp fun _ h => h.k hlt) (by exact (H.bK 0 rfl : aH _ (bI nH l[i].uv) _))) ?_
   rintro _ w3 ⟨rfl, hO⟩
   replace H := H.out hO
   refine WL.as rfl rfl (WL.nil (WE.seq (WE.aA (WL.mv rfl rfl (WL.pv (PV.neq rfl rfl rfl) rfl (WL.nil ?_))))))
   refine WE.cond rfl (fun yV => ?_) (fun yV => ?_)
   ·
    try simp only [bU] at yV
    have hr : bV l[i].k l[i].uv ≠ 0 := (by exact yV)
    have sG : lR (l.take i) l[i] = bV l[i].k l[i].uv := if_pos hr
    rw [if_pos (by rw [sG]; exact hr), sG] at qI
    refine WE.aA (WL.mv rfl rfl (WL.mv rfl rfl (WL.as rfl rfl (WL.as rfl rfl (WL.nil (WE.ret ⟨[_, _], _, .nil _, ⟨rfl, rfl, trivial⟩, ?_⟩))))))
    refine ⟨?_, H.aL⟩
    show Value.tuple [.int .i64 ((i : Nat) : Int), .int .i64 (bV l[i].k l[i].uv)].toArray = _
    rw [← qI]
   ·
    try simp only [bU] at yV
    have hr : bV l[i].k l[i].uv = 0 := (by exact yV)
    refine WE.skip (WE.aA (WL.as rfl rfl (WL.nil (WE.block ?_))))
    refine WE.loop (α := Nat) (rg [(2, 2), (7, 1), (35, 17)]) (fun j => [(7, .int .i64 (j : Int))]) (fun j wl => (j ≤ i ∧ ∀ q (h : q < l.length), q < j → ¬ l[i].k = l[q].k) ∧ St X w wl [] [] [bI nH l[i].uv, jN s l, dK l]) (fun j => i - j) 0 ⟨rfl, trivial⟩ ⟨⟨Nat.zero_le _, fun q _ h => absurd h (Nat.not_lt_zero _)⟩, H⟩ ?_
    intro j γ1 w4 hI
    try dsimp only at hI
    obtain ⟨⟨hj, JM⟩, H⟩ := hI
    refine WE.seq (WE.aA (WL.mv rfl rfl (WL.mv rfl rfl (WL.pv (PV.lss rfl rfl rfl) rfl (WL.nil ?_)))))
    refine WE.cond rfl (fun GX => ?_) (fun GX => ?_)
    ·
     try simp only [bU] at GX
     have aBj : j < i := by omega
     refine WE.skip (WE.seq (WE.block ?_))
     refine WE.bG (.take 0 (.take 1 (.take 2 (.take 3 (.take 4 (.take 5 (.take 6 (.take 7 (.take 8 (.take 9 (.aG 10 .done))))))))))) mixed (by kernel_rfl) ?_
     replace H := H.out (Out.drew _)
     refine WP.mv rfl rfl rfl (WP.mv rfl rfl rfl ?_)
     refine WP.aC rfl rfl (PV.eO rfl (by exact (H.p 1 rfl : (jN s l) _)) nV lH rfl rfl (by omega) (by omega)) ?_
     refine WP.aC rfl rfl (PV.dL rfl p3 rfl) ?_
     refine WP.aQ rfl rfl (RV.aZ rfl eN rfl) ((N0 (jN.rd (by exact (H.p 1 rfl : (jN s l) _)) i hlt))) ?_
     refine WP.mv rfl rfl rfl (WP.mv rfl rfl rfl ?_)
     refine WP.aC rfl rfl (PV.eO rfl (by exact (H.p 1 rfl : (jN s l) _)) nV lH rfl rfl (by omega) (by omega)) ?_
     refine WP.aC rfl rfl (PV.dL rfl p3 rfl) ?_
     refine WP.aQ rfl rfl (RV.aZ rfl eN rfl) ((N0 (jN.rd (by exact (H.p 1 rfl : (jN s l) _)) j (by omega)))) ?_
     refine WP.aG rfl ?_
     refine WL.call aEN rfl (S8 (la := l[i].k) (lb := l[j].k) H.aS (show aH _ (bI l[i].sk l[i].k) _ from ((by exact (H.bK 2 rfl : aH _ (dK l) _)) : aH _ (dK l) _).imp fun _ h => h.k hlt) (show aH _ (bI l[j].sk l[j].k) _ from ((by exact (H.bK 2 rfl : aH _ (dK l) _)) : aH _ (dK l) _).imp fun _ h => h.k (by omega)) hvi.1) ?_
     rintro _ w5 ⟨rfl, hO⟩
     replace H := H.out hO
     refine WL.nil ⟨(fa (nw 10 9) (fa (nw 10 4) c5)), ?_⟩
     refine WP.done ?_
     refine WE.cond rfl (fun mH => ?_) (fun mH => ?_)
     ·
      try simp only [bU] at mH
      have hsame : l[i].k = l[j].k := (by exact mH)
      have sG : lR (l.take i) l[i] = 9 := by unfold lR; rw [if_neg (by simp [hr]), if_pos ⟨l[j], List.mem_take_iff_getElem.2 ⟨j, by omega, rfl⟩, hsame.symm⟩]
      rw [if_pos (by rw [sG]; decide), sG] at qI
      refine WE.aA (WL.mv rfl rfl (WL.as rfl rfl (WL.as rfl rfl (WL.nil (WE.ret ⟨[_, _], _, .nil _, ⟨rfl, rfl, trivial⟩, ?_⟩)))))
      refine ⟨?_, H.aL⟩
      show Value.tuple [.int .i64 ((i : Nat) : Int), .int .i64 9].toArray = _
      rw [← qI]
     ·
      try simp only [bU] at mH
      have aD0 : ¬ l[i].k = l[j].k := (by exact mH)
      refine WE.skip (WE.eH (WL.mv rfl rfl (WL.pv (PV.eq (v' := .int .i64 ((j + 1 : Nat) : Int)) (PV.bY rfl rfl rfl (by omega) (by omega)) rfl) rfl (WL.as rfl rfl (WL.nil ?_)))))
      exact ⟨j + 1, (by repeat (first | with_reducible exact bQ.refl _ _ | refine bQ.dG rfl ?_ | refine bQ.cC rfl ?_ | refine bQ.cB rfl ?_)), ⟨rfl, trivial⟩, rfl, ⟨⟨by omega, fun q hq hqj => by rcases Nat.lt_or_ge q j with h_ | h_; exact JM q hq h_; (have e_ : q = j := by omega); subst e_; exact aD0⟩, H⟩, (by omega)⟩
    ·
     try simp only [bU] at GX
     have hji : j = i := by omega
     refine WE.exit (WE.eH (WL.mv rfl rfl (WL.pv (PV.eq (v' := .int .i64 ((i + 1 : Nat) : Int)) (PV.bY rfl rfl rfl (by omega) (by omega)) rfl) rfl (WL.as rfl rfl (WL.nil ?_)))))
     subst hji
     have sG : lR (l.take j) l[j] = 0 := uA.2 ⟨hr, fun x hx => by obtain ⟨q, hq, hqj, rfl⟩ := LN hx; exact fun e_ => JM q hq hqj e_.symm⟩
     rw [if_neg (by simp [sG])] at qI
     exact ⟨j + 1, (by repeat (first | with_reducible exact bQ.refl _ _ | refine bQ.dG rfl ?_ | refine bQ.cC rfl ?_ | refine bQ.cB rfl ?_)), ⟨rfl, trivial⟩, rfl, ⟨⟨by omega, qI⟩, H.sS [1, 2]⟩, (by omega)⟩
 ·
  try simp only [bU] at kD
  have uN : l.drop i = [] := List.drop_eq_nil_of_le (by omega)
  rw [uN] at qI
  have aBq : jM l = (0, 0) := qI.symm
  refine WE.exit (WE.aA (WL.as rfl rfl (WL.as rfl rfl (WL.nil (WE.ret ⟨[_, _], _, .nil _, ⟨rfl, rfl, trivial⟩, ?_⟩)))))
  refine ⟨?_, H.aL⟩
  rw [aBq]; rfl
theorem XP {X : Nat → Prop} {w : World} {s2 s : Value} {m : List En} {l : List Up} (hX : cU X w) (bT : aH X (fY s2 m) w) (dA : aH X (jN s l) w) (fN : aH X (dK l) w) (hm : dY 1000 m) (D3 : o4 m) (hg : nQ l) (hlen : l.length ≤ 1000) :
  bF prog 48 [s2, s].toArray w fun v w' => Out Nil w w' ∧ aH X (fY v (s5 m l) ) w' := by
 refine bF.aI (N := 36) func48 rfl rfl (by simp) ?_
 have H := (((St.begin hX).add (cE fN)).add (cE dA)).add (cE bT)
 have aHu : ∀ u ∈ l, u.sv.oneCell' = true := fun u hu => cR.fH ((fN.here) u hu).2
 refine WE.aA (WL.as rfl rfl (WL.nil (WE.seq (WE.aA (WL.as rfl rfl (WL.nil (WE.block ?_)))))))
 refine WE.loop (α := Nat × Value) (rg [(0, 1), (5, 30)]) (fun p => [(5, .int .i64 (p.1 : Int)), (0, p.2)]) (fun p wl => (p.1 ≤ l.length ∧ o4 (s5 m (l.take p.1))) ∧ St X w wl [] [] [fY p.2 (s5 m (l.take p.1)), jN s l, dK l]) (fun p => l.length - p.1) (0, s2) ⟨rfl, rfl, trivial⟩ ⟨⟨Nat.zero_le _, D3⟩, H⟩ ?_
 intro ⟨i, v_⟩ γ0 w1 hI
 try dsimp only at hI
 obtain ⟨⟨hi, hoo⟩, H⟩ := hI
 try dsimp only at hi hoo
 refine WE.seq (WE.aA (WL.mv rfl rfl (WL.mv rfl rfl ?_)))
 refine WL.pv (PV.dO (by exact (H.p 1 rfl : (jN s l) _)) nV rfl) rfl ?_
 refine WL.pv (PV.lss rfl rfl rfl) rfl (WL.nil ?_)
 refine WE.cond rfl (fun kW => ?_) (fun kW => ?_)
 ·
  try simp only [bU] at kW
  have hlt : i < l.length := by omega
  have hgi := c8.1 (hg.1 _ (List.getElem_mem hlt))
  have hki := hgi.1
  have hmi := dY.dG (l.take i) hm (fun u hu => hg.1 u (List.mem_of_mem_take hu))
  have yS := hmi.l
  have htl : (l.take i).length ≤ l.length := by rw [List.length_take]; omega
  have zR := N2 (m := m) hlt
  refine WE.skip ?_
  refine WE.cut (α := Value) (rg [(0, 1), (6, 1), (13, 22)]) (fun nH => [(0, nH)]) (fun nH wl => o4 (s5 m (l.take (i + 1))) ∧ St X w wl [] [] [fY nH (s5 m (l.take (i + 1))), jN s l, dK l]) ?_ ?_
  ·
   refine WE.block (WE.aA (WL.mv rfl rfl (WL.mv rfl rfl ?_)))
   refine WL.pv (PV.eO rfl (by exact (H.p 1 rfl : (jN s l) _)) nV lH rfl rfl (by omega) (by omega)) rfl ?_
   refine WL.pv (PV.dL rfl p3 rfl) rfl ?_
   refine WL.aY rfl eN rfl rfl ((N0 (jN.rd (by exact (H.p 1 rfl : (jN s l) _)) i hlt))) ?_
   refine WL.call RH rfl (rY (lb := l[i].k) H.aS (show aH _ (bI l[i].sk l[i].k) _ from ((by exact (H.bK 2 rfl : aH _ (dK l) _)) : aH _ (dK l) _).imp fun _ h => h.k hlt) hki) ?_
   rintro _ w2 ⟨rfl, hO⟩
   replace H := H.out hO
   refine WL.alloc H rfl rM rfl ?_
   intro b6 w3 H
   refine WL.aT H 0 rfl rfl rfl (new := kc l[i].k) rfl (cH cM (by simp only [aR]; omega)) (bJ _) (Laid.at (Laid.all (by simp only [aR]; omega)) rfl) rfl ?_
   intro w4 H
   refine WL.nil (WE.aA (WL.mv rfl rfl (WL.mv rfl rfl ?_)))
   refine WL.pv (PV.eO rfl (by exact (H.p 1 rfl : (jN s l) _)) nV lH rfl rfl (by omega) (by omega)) rfl ?_
   refine WL.pv (PV.dL rfl vK rfl) rfl ?_
   refine WL.aY rfl uC rfl rfl ((aCH (jN.rd (by exact (H.p 1 rfl : (jN s l) _)) i hlt))) ?_
   refine WL.nil ?_
   refine WE.cond rfl (fun lL => ?_) (fun lL => ?_)
   ·
    try simp only [bU] at lL
    have hd : l[i].d = true := (by exact lL)
    have hau : SL (s5 m (l.take i)) l[i] = eX (s5 m (l.take i)) l[i].k := if_pos hd
    refine WE.eH (WL.mv rfl rfl ?_)
    refine WL.bC rfl cV rfl rfl (aM.aF (H.l 0 rfl) (aJ.all _) rfl) (cH cM (by simp only [aR]; omega)) ?_
    refine WL.call aBL rfl (xZ (m := (s5 m (l.take i))) (q := l[i].k) H.aS (by exact (H.bK 0 rfl : aH _ (fY v_ (s5 m (l.take i))) _)) hmi.k hoo (by omega) hki) ?_
    rintro v26 w5 ⟨hO, hR⟩
    replace H := (H.out hO).add hR
    refine WL.as rfl rfl (WL.nil ?_)
    replace H := H.forget 0
    exact ⟨v26, (by repeat (first | with_reducible exact bQ.refl _ _ | refine bQ.dG rfl ?_)), ⟨rfl, trivial⟩, rfl, ⟨by rw [zR, hau]; exact fun e he => hoo e (iO.1 he).1, show St X w _ [] [] _ by rw [zR, hau]; exact H.sS [0, 2, 3]⟩⟩
   ·
    try simp only [bU] at lL
    have hd : l[i].d = false := (by exact lL)
    have hau : SL (s5 m (l.take i)) l[i] = gJ (s5 m (l.take i)) ⟨l[i].k, l[i].sv, l[i].v⟩ := if_neg (by rw [hd]; decide)
    refine WE.draw (.take 0 (.take 1 (.take 2 (.take 3 (.take 4 (.take 5 (.take 6 (.aG 7 (.take 8 .done))))))))) mixed (by kernel_rfl) ?_
    replace H := H.out (Out.drew _)
    refine WP.mv rfl rfl rfl ?_
    refine WP.dF rfl rfl rfl cV rfl (aM.aF (H.l 0 rfl) (aJ.all _) rfl) (cH cM (by simp only [aR]; omega)) ?_
    refine WP.mv rfl rfl rfl (WP.mv rfl rfl rfl ?_)
    refine WP.aC rfl rfl (PV.eO rfl (by exact (H.p 1 rfl : (jN s l) _)) nV lH rfl rfl (by omega) (by omega)) ?_
    refine WP.aC rfl rfl (PV.dL rfl pZ rfl) ?_
    refine WP.aQ rfl rfl (RV.aZ rfl eN rfl) ((UG (jN.rd (by exact (H.p 1 rfl : (jN s l) _)) i hlt))) ?_
    refine WP.aG rfl ?_
    refine WL.call aEO rfl (aAt (m := (s5 m (l.take i))) (q := l[i].k) (vv := l[i].v) H.aS (by exact (H.bK 0 rfl : aH _ (fY v_ (s5 m (l.take i))) _)) (show aH _ (bI l[i].sv l[i].v) _ from ((by exact (H.bK 2 rfl : aH _ (dK l) _)) : aH _ (dK l) _).imp fun _ h => h.v hlt) hmi.k hoo (by omega) hki) ?_
    rintro v34 w6 ⟨hO, hR⟩
    replace H := (H.out hO).add hR
    refine WL.nil ⟨(fa (nw 7 6) (fa (nw 7 1) c5)), ?_⟩
    refine WP.as rfl rfl rfl (WP.done ?_)
    replace H := H.forget 0
    exact ⟨v34, (by repeat (first | with_reducible exact bQ.refl _ _ | refine bQ.dG rfl ?_)), ⟨rfl, trivial⟩, rfl, ⟨by rw [zR, hau]; exact fun e he => by rcases nA.1 he with rfl | he; exact aHu _ (List.getElem_mem hlt); exact hoo e he.1, show St X w _ [] [] _ by rw [zR, hau]; exact H.sS [0, 2, 3]⟩⟩
  ·
   intro nH γ w7 hI
   try dsimp only at hI
   obtain ⟨aHt, H⟩ := hI
   refine WE.eH (WL.mv rfl rfl (WL.pv (PV.eq (v' := .int .i64 ((i + 1 : Nat) : Int)) (PV.bY rfl rfl rfl (by omega) (by omega)) rfl) rfl (WL.as rfl rfl (WL.nil ?_))))
   exact ⟨(i + 1, nH), (by repeat (first | with_reducible exact bQ.refl _ _ | refine bQ.dG rfl ?_ | refine bQ.cC rfl ?_ | refine bQ.cB rfl ?_)), ⟨rfl, rfl, trivial⟩, rfl, ⟨⟨by dsimp only; omega, aHt⟩, H⟩, (by dsimp only; omega)⟩
 ·
  try simp only [bU] at kW
  have uN : l.take i = l := List.take_of_length_le (by omega)
  refine WE.exit (WE.aA (WL.mv rfl rfl (WL.as rfl rfl (WL.nil (WE.ret ⟨[_], _, .nil _, ⟨rfl, trivial⟩, ?_⟩)))))
  rw [uN] at H
  exact ⟨H.aL, H.gQ (H.bK 0 rfl)⟩
theorem xO {X : Nat → Prop} {w : World} {a b : Value} {la lb : List UInt8} (hX : cU X w) (bT : aH X (bI a la) w) (dA : aH X (bI b lb) w) :
  bF prog 143 [a, b].toArray w fun v w' => v = .int .i64 (Lib.compareBytes la lb) ∧ w' = w := by
 refine bF.aI (N := 8) func143 rfl rfl (by simp) ?_
 have H := ((St.begin hX).add (cE dA)).add (cE bT)
 refine WE.aA (WL.as rfl rfl (WL.nil (WE.aA (WL.mv rfl rfl (WL.mv rfl rfl ?_)))))
 refine WL.extern (e := Extern.BytealgCompare.compare) (v := .int .i64 (Lib.compareBytes la lb)) func184 (by kernel_rfl) (by kernel_rfl) (by kernel_rfl) (by kernel_rfl) rfl (rV (H.p 0 rfl) (H.p 1 rfl)) ?_
 refine WL.as rfl rfl (WL.nil (WE.ret ⟨[_], _, .nil _, ⟨rfl, trivial⟩, ?_⟩))
 exact ⟨rfl, rfl⟩
section
variable {r : Option Nat} {P : Program} {N : Nat} {σ : Env} {ds : List Deferred} {w : World} {ops : Array Oper} {o : Oper} {rest : List Oper} {K : Env → List Deferred → World → Prop}
theorem WL.XI {t : TypeId} {x : Operand} {l : List Value} (h : o.op = .box t x) (hx : (ev σ x).cells = l.toArray) (hw : cD ops σ o = true)
  (k : WL r P N ops rest K (dG N σ o.dst (.pointer (some ⟨w.heap.size, 0, none⟩))) ds (w.alloc (.cells l.toArray t))) : WL r P N ops (o :: rest) K σ ds w :=
 WL.val (v := .pointer (some ⟨w.heap.size, 0, none⟩)) (w' := w.alloc (.cells l.toArray t)) hw (by unfold eL; rw [h]) (by
  obtain ⟨v, hv⟩ : ∃ v, v = ev σ x := ⟨_, rfl⟩
  rw [← hv] at hx
  simp [execOp, h, Instr.box, ← hv, qU (t := t) hx w]) k
theorem E2 {w : World} {b : Nat} {t : TypeId} {l : List Value} (h : aM w b t l) : aH Nil (fun w => aM w b t l) w := fun w' hw => h.of_eq (hw b h.lt id)
end
theorem yZ {X : Nat → Prop} {w : World} {k l : List UInt8} (hX : cU X w) (hk : k.length = 32) (hl : l.length = 32) :
  bF prog 94 [.agg (kc k).toArray, .agg (kc l).toArray].toArray w fun v w' => v = .int .i64 (gN k l) ∧ ∃ q os, w' = Go.Sort.grow (w.drewN q) os := by
 refine bF.aI (N := 8) func94 rfl rfl (by simp) ?_
 have H := St.begin hX
 refine WE.aA ?_
 refine WL.XI (l := kc k) rfl rfl rfl ?_
 refine WL.XI (l := kc l) rfl rfl rfl ?_
 refine WL.as rfl rfl (WL.nil ?_)
 refine WE.bG (.take 0 (.take 1 (.aG 2 (.take 3 .done)))) mixed (by kernel_rfl) ?_
 replace H := H.out (Out.drew _)
 have xB : aM ((w.alloc (.cells (kc k).toArray 24)).alloc (.cells (kc l).toArray 24)).drew w.heap.size 24 (kc k) := (Below.heap_alloc _ _ _ (by simp)).trans (World.alloc_heap_new w _)
 have rK : aM ((w.alloc (.cells (kc k).toArray 24)).alloc (.cells (kc l).toArray 24)).drew (w.heap.size + 1) 24 (kc l) := by have h_ := World.alloc_heap_new (w.alloc (.cells (kc k).toArray 24)) (.cells (kc l).toArray 24); rw [World.size_alloc] at h_; exact h_
 refine WP.aC rfl rfl (PV.fO rfl gM (by rw [gY]; rfl) rfl) ?_
 refine WP.aC rfl rfl (PV.fO rfl gM (by rw [gY]; rfl) rfl) ?_
 refine WP.aG rfl ?_
 refine WL.call Z9 rfl (xO (X := Nil) (la := k) (lb := l) (mZ _) ((E2 xB).imp fun _ h => bI.bZ h hk) ((E2 rK).imp fun _ h => (by rw [World.size_alloc]; exact bI.bZ h hl))) ?_
 rintro _ w3 ⟨rfl, rfl⟩
 rw [kH k l (by rw [hk, hl])]
 refine WL.nil ⟨c5, ?_⟩
 refine WP.as rfl rfl rfl (WP.done (WE.ret ⟨[_], _, .nil _, ⟨rfl, trivial⟩, ?_⟩))
 exact ⟨rfl, 1, #[.cells (kc k).toArray 24, .cells (kc l).toArray 24], by rw [Go.Sort.alloc_eq_grow, Go.Sort.alloc_eq_grow, Go.Sort.grow_grow]; rfl⟩
theorem aBT {X : Nat → Prop} {w : World} {c d : Ch} (hX : cU X w) (hc : c.k.length = 32) (hd : d.k.length = 32) :
  bF prog 93 [.agg (dV c).toArray, .agg (dV d).toArray].toArray w fun v w' => v = .int .i64 (gN c.k d.k) ∧ ∃ q os, w' = Go.Sort.grow (w.drewN q) os := by
 refine bF.aI (N := 10) func93 rfl rfl (by simp) ?_
 have H := St.begin hX
 refine WE.aA ?_
 refine WL.XI (l := dV c) rfl rfl rfl ?_
 refine WL.XI (l := dV d) rfl rfl rfl ?_
 refine WL.as rfl rfl (WL.nil (WE.aA ?_))
 have xB : aM ((w.alloc (.cells (dV c).toArray 127)).alloc (.cells (dV d).toArray 127)) w.heap.size 127 (dV c) := (Below.heap_alloc _ _ _ (by simp)).trans (World.alloc_heap_new w _)
 have rK : aM ((w.alloc (.cells (dV c).toArray 127)).alloc (.cells (dV d).toArray 127)) (w.heap.size + 1) 127 (dV d) := (by have h_ := World.alloc_heap_new (w.alloc (.cells (dV c).toArray 127)) (.cells (dV d).toArray 127); rw [World.size_alloc] at h_; exact h_)
 have G1 : cX ((w.alloc (.cells (dV c).toArray 127)).alloc (.cells (dV d).toArray 127)) ⟨w.heap.size, 0 + 0, none⟩ (kc c.k) := aM.aF xB (o := 0) ⟨[], [c.s, .bool c.d], by simp [dV], rfl⟩ rfl
 have EF : cX ((w.alloc (.cells (dV c).toArray 127)).alloc (.cells (dV d).toArray 127)) ⟨(w.alloc (.cells (dV c).toArray 127)).heap.size, 0 + 0, none⟩ (kc d.k) := by rw [World.size_alloc]; exact aM.aF rK (o := 0) ⟨[], [d.s, .bool d.d], by simp [dV], rfl⟩ rfl
 refine WL.pv (PV.fieldAddr rfl pX rfl) rfl ?_
 refine WL.bC rfl cV rfl rfl (G1) (cH cM (by simp only [aR, aU, aB]; omega)) ?_
 refine WL.pv (PV.fieldAddr rfl pX rfl) rfl ?_
 refine WL.bC rfl cV rfl rfl (EF) (cH cM (by simp only [aR, aU, aB]; omega)) ?_
 refine WL.call aBG rfl (yZ (X := Nil) (k := c.k) (l := d.k) (mZ _) hc hd) ?_
 rintro _ w3 ⟨rfl, q, os, hw⟩
 refine WL.as rfl rfl (WL.nil (WE.ret ⟨[_], _, .nil _, ⟨rfl, trivial⟩, ?_⟩))
 refine ⟨rfl, q, (#[.cells (dV c).toArray 127] ++ #[.cells (dV d).toArray 127]) ++ os, ?_⟩
 rw [hw, Go.Sort.alloc_eq_grow, Go.Sort.alloc_eq_grow, Go.Sort.grow_grow]
 exact Go.Sort.grow_grow (w.drewN q) _ os
open Go.Sort Go.Lib
abbrev T7 := { c : Ch // c.k.length = 32 ∧ c.s.oneCell' = true }
instance : Inhabited T7 := ⟨⟨⟨List.replicate 32 0, .slice none 0 0, [], false⟩, by simp, rfl⟩⟩
def lY (x : T7) : List Value := dV x.1
def cfX (x y : T7) : Int := gN x.1.k y.1.k
theorem ER (x : T7) : (lY x).length = 34 := iQ x.2.1
theorem JE (x y : T7) : ltOf cfX x y = decide (num x.1.k < num y.1.k) := by
 unfold ltOf cfX
 by_cases h : num x.1.k < num y.1.k
 ·
  rw [decide_eq_true (lP.2 h), decide_eq_true h]
 ·
  rw [decide_eq_false (fun h2 => h (lP.1 h2)), decide_eq_false h]
theorem aGY : Go.Sort.SWO (ltOf cfX) where
 irrefl x := by rw [JE]; simp
 trans x y z h1 h2 := by rw [JE] at *; simp at *; omega
 ntrans x y z h1 h2 := by rw [JE] at *; simp at *; omega
def IK : (l : List Ch) → (∀ c ∈ l, c.k.length = 32 ∧ c.s.oneCell' = true) → List T7
 | [], _ => []
 | c :: l, h => ⟨c, h c (by simp)⟩ :: IK l (fun x hx => h x (List.mem_cons_of_mem _ hx))
theorem sX : ∀ (l : List Ch) (h : ∀ c ∈ l, c.k.length = 32 ∧ c.s.oneCell' = true), (IK l h).map (·.1) = l
 | [], _ => rfl
 | c :: l, h => congrArg (c :: ·) (sX l fun x hx => h x (List.mem_cons_of_mem _ hx))
theorem KW (l : List Ch) (h : ∀ c ∈ l, c.k.length = 32 ∧ c.s.oneCell' = true) : (IK l h).length = l.length := by
 have := congrArg List.length (sX l h)
 simpa using this
theorem NT (d : List T7) : XL (d.map (·.1)) := fun c hc => by obtain ⟨x, _, rfl⟩ := List.mem_map.1 hc; exact x.2.1
theorem zX (d : Array T7) (j : Nat) (hj : j < d.size * 34) : some ((flatK lY 34 d)[j]!) = ((d.toList.map (·.1)).flatMap dV)[j]? := by
 have h1 : j / 34 < d.size := by omega
 have h2 : (d.toList.map (·.1)).length = d.size := by simp
 have h3 := sH (d.toList.map (·.1)) (NT d.toList).len (j / 34) (by rw [h2]; exact h1)
 have h4 : ((d.toList.map (·.1)).flatMap dV)[j]? = (dV (d.toList.map (·.1))[j / 34])[j % 34]? := by
  rw [← h3, List.getElem?_take_of_lt (by omega), List.getElem?_drop]
  congr 1
  omega
 have e : (d.toList.map (·.1))[j / 34]'(by rw [h2]; exact h1) = (d[j / 34]!).1 := by
  rw [List.getElem_map, Array.getElem_toList, getElem!_pos d _ h1]
 rw [get_flatK lY 34 d j hj, h4, e]
 show some (lY d[j / 34]!)[j % 34]! = (lY d[j / 34]!)[j % 34]?
 have h5 : j % 34 < (lY d[j / 34]!).length := by rw [ER]; omega
 rw [List.getElem?_eq_getElem h5, getElem!_pos (lY d[j / 34]!) (j % 34) h5]
theorem R4 {blk off size : Nat} {w : World} : CmpLays prog 93 #[] lY 34 cfX blk off size w := fun m os dk _ x y => by
 have h := aBT (X := Nil) (w := sortWorldK lY 34 w blk off m dk os) (c := x.1) (d := y.1) (mZ _) x.2.1 y.2.1
 refine h.calls.mono ?_
 rintro e w' ⟨v, rfl, rfl, q, os', hw⟩
 exact ⟨rfl, q, os', hw⟩
theorem LF {w : World} {g : Nat} {d : Array Value} {cur : Array Value} {e : TypeId} {p : Nat × Nat} (h : w.heap[g]? = some (.cells cur e p)) : (putRow id w g 0 d).heap[g]? = some (.cells (putCells id 0 d cur) e p) := by
 unfold putRow mapBlock
 show (w.heap.modify g _)[g]? = _
 rw [Array.getElem?_modify, if_pos rfl, h]; rfl
theorem F8 {w : World} {g b : Nat} {d : Array Value} (hb : b ≠ g) : (putRow id w g 0 d).heap[b]? = w.heap[b]? := by
 unfold putRow mapBlock
 show (w.heap.modify g _)[b]? = _
 rw [Array.getElem?_modify, if_neg (fun h => hb h.symm)]
theorem yN {d cur : Array Value} (h : d.size ≤ cur.size) : (putCells id 0 d cur).size = cur.size ∧ (putCells id 0 d cur).toList.take d.size = d.toList := by
 have hs : (putCells id 0 d cur).size = cur.size := by simp [putCells]
 refine ⟨hs, List.ext_getElem? fun i => ?_⟩
 rw [List.getElem?_take]
 split
 ·
  rename_i hi
  rw [Array.getElem?_toList, Array.getElem?_toList, Array.getElem?_eq_getElem (by omega), Array.getElem?_eq_getElem hi]
  unfold putCells
  rw [Array.getElem_mapIdx, if_pos ⟨Nat.zero_le _, by omega⟩]
  show some d[i - 0]! = _
  rw [Nat.sub_zero, getElem!_pos d i hi]
 ·
  rename_i hi
  rw [Array.getElem?_toList, Array.getElem?_eq_none (by omega)]
theorem XY {w : World} {base : Nat} {v : Value} {l : List Ch} (hown : w.ownsRow base 127 34 v l.length (l.flatMap dV)) (hx : XL l) (fV : ∀ c ∈ l, c.s.oneCell' = true) (hd : NB l) (hlen : l.length ≤ 1000000) :
  bF prog 92 [v, .func (.func 93) #[] #[]].toArray w fun r w' => ∃ l' : List Ch, r = .tuple #[] ∧ l.Perm l' ∧ rL l' ∧ Out (fun b => v.ownBlock = some b) w w' ∧ w'.ownsRow base 127 34 v l'.length (l'.flatMap dV) := by
 refine bF.PH ?_
 have hk : ∀ c ∈ l, c.k.length = 32 ∧ c.s.oneCell' = true := fun c hc => ⟨hx c hc, fV c hc⟩
 obtain ⟨h1, ⟨rfl, h2⟩ | ⟨g, cap, cur, rfl, hg, BS, jE, QB, hsz, D1⟩⟩ := hown
 ·
  have h3 : l = [] := List.eq_nil_of_length_eq_zero h2
  subst h3
  refine (AnyF.slices_SortFunc_none (P := prog) (ρ := Tryz.y9) { Tryz.YV with } none 0 (.func (.func 93) #[] #[]) w).mono ?_
  rintro e w' ⟨rfl, rfl⟩
  exact ⟨_, rfl, [], rfl, List.Perm.refl _, List.Pairwise.nil, Out.refl _ _, by simp, .inl ⟨rfl, rfl⟩⟩
 ·
  obtain ⟨d, hdd⟩ : ∃ d : Array T7, d = (IK l hk).toArray := ⟨_, rfl⟩
  have hds : d.size = l.length := by rw [hdd]; simp [KW]
  have hdv : d.toList.map (·.1) = l := by rw [hdd]; exact sX l hk
  have hgl : g < w.heap.size := by
   rcases Nat.lt_or_ge g w.heap.size with h | h
   ·
    exact h
   ·
    rw [Array.getElem?_eq_none h] at BS; cases BS
  have hH : HoldsK lY 34 w g 0 d := fun j hj => by
   rw [size_flatK] at hj
   have h3 := zX d j hj
   rw [hdv, ← D1, List.getElem?_take_of_lt (by omega), Array.getElem?_toList] at h3
   refine ⟨?_, ?_⟩
   ·
    show w.cell? ⟨g, 0 + j, none⟩ = some ((flatK lY 34 d)[j]!)
    rw [h3, Nat.zero_add]
    simp [World.cell?, BS]
   ·
    simp [World.frozen?, BS]
  have aD1 := AnyQ.slices_SortFunc Tryz.YV 34 (fun w => j5 sN w) (fun w => cI eE w) lY ER (fun x v hv => k9 x.2.2 v hv) cfX aGY 93 #[] g 0 cap d w (fun args w => fJ aH5 args w) R4 hH hgl (by rw [hds]; omega)
  rw [hds] at aD1
  refine aD1.mono ?_
  rintro e w' ⟨rfl, sd, n, os, qH, V0, rfl⟩
  have hss : sd.size = l.length := by rw [qH.1, hds]
  obtain ⟨l', QE⟩ : ∃ l', l' = sd.toList.map (·.1) := ⟨_, rfl⟩
  have NH : l'.length = l.length := by rw [QE, List.length_map, Array.length_toList, hss]
  have hx' : XL l' := QE ▸ NT sd.toList
  have hp : l.Perm l' := by
   have h3 := qH.2.2
   rw [show d.extract 0 l.length = d by rw [← hds]; simp, show sd.extract 0 l.length = sd by rw [← hss]; simp] at h3
   have h4 := h3.map (fun x : T7 => x.1)
   rw [hdv, ← QE] at h4
   exact h4.symm
  have hlt : rL l' := by
   have V5 : NB l' := hd.perm hp fun h e => h e.symm
   refine List.pairwise_iff_getElem.2 fun i j hi hj hij => ?_
   have hne := List.pairwise_iff_getElem.1 V5 i j hi hj hij
   have hj2 : j < sd.size := by rw [hss, ← NH]; exact hj
   have h3 := V0 i j (Nat.zero_le _) hij (by rw [← NH]; exact hj)
   rw [JE, decide_eq_false_iff_not, getElem!_pos sd j hj2, getElem!_pos sd i (by omega)] at h3
   have e1 : l'[i] = (sd[i]'(by omega)).1 := by simp [QE]
   have e2 : l'[j] = (sd[j]'hj2).1 := by simp [QE]
   rw [← e1, ← e2] at h3
   have h4 : num l'[i].k ≠ num l'[j].k := fun e => hne (r9 _ _ (by rw [hx' _ (List.getElem_mem hi), hx' _ (List.getElem_mem hj)]) e)
   omega
  have JO : (flatK lY 34 sd).toList = l'.flatMap dV := List.ext_getElem? fun j => by
   rcases Nat.lt_or_ge j (sd.size * 34) with hj | hj
   ·
    have h3 := zX sd j hj
    rw [← QE] at h3
    rw [← h3, Array.getElem?_toList, Array.getElem?_eq_getElem (by rw [size_flatK]; exact hj), getElem!_pos _ j (by rw [size_flatK]; exact hj)]
   ·
    rw [Array.getElem?_toList, Array.getElem?_eq_none (by rw [size_flatK]; exact hj), List.getElem?_eq_none]
    rw [c6 _ hx'.len, NH, ← hss]; exact hj
  have hpt := yN (d := flatK lY 34 sd) (cur := cur) (by rw [size_flatK, hss, hsz]; exact Nat.mul_le_mul_right _ jE)
  have hat : (sortWorldK lY 34 w g 0 n sd os).heap[g]? = some (.cells (putCells id 0 (flatK lY 34 sd) cur) 127 (0, 0)) := by
   show ((putRow id (Go.Sort.ahead w n) g 0 (flatK lY 34 sd)).heap ++ os)[g]? = _
   have hc2 : (Go.Sort.ahead w n).heap[g]? = some (.cells cur 127 (0, 0)) := BS
   have h4 := LF (d := flatK lY 34 sd) hc2
   rw [Array.getElem?_append_left (Array.getElem?_eq_some_iff.1 h4).1, h4]
  refine ⟨_, rfl, l', rfl, hp, hlt, ⟨rfl, rfl, rfl, ?_, fun b hb hn => ?_⟩, ?_⟩
  ·
   show w.heap.size ≤ ((putRow id (Go.Sort.ahead w n) g 0 (flatK lY 34 sd)).heap ++ os).size
   have : (putRow id (Go.Sort.ahead w n) g 0 (flatK lY 34 sd)).heap.size = w.heap.size := by show (w.heap.modify g _).size = _; simp
   rw [Array.size_append, this]; omega
  ·
   have hne : b ≠ g := fun h => hn (by subst h; rfl)
   have : (putRow id (Go.Sort.ahead w n) g 0 (flatK lY 34 sd)).heap.size = w.heap.size := by show (w.heap.modify g _).size = _; simp
   show ((putRow id (Go.Sort.ahead w n) g 0 (flatK lY 34 sd)).heap ++ os)[b]? = _
   rw [Array.getElem?_append_left (by rw [this]; exact hb), F8 hne]; rfl
  ·
   rw [← NH]
   refine ⟨?_, .inr ⟨g, cap, _, rfl, hg, hat, by rw [NH]; exact jE, QB, by rw [hpt.1, hsz], ?_⟩⟩
   ·
    rw [c6 _ hx'.len]
   ·
    have h5 := hpt.2
    rw [size_flatK, hss, JO] at h5
    rw [NH]; exact h5
theorem BL : Go.Maps.Keyed prog 24 := Go.Maps.Keyed.of_law (Go.WideMaps.ArrKey.law (P := prog) (k := 24) (e := 5) (n := 32) ⟨dU gM, by kernel_rfl, by kernel_rfl, by kernel_rfl⟩)
def wQ (k : List UInt8) : List Lit := k.map fun x => Lit.int .u8 (x.toNat : Int)
def X6 (k : List UInt8) : Lit := .string (keyBytes (wQ k))
theorem DR {α β : Type} (f : α → Option β) (g : α → β) : ∀ l : List α, (∀ x ∈ l, f x = some (g x)) → l.mapM f = some (l.map g)
 | [], _ => rfl
 | x :: l, h => by
  rw [List.mapM_cons, h x (by simp), DR f g l fun y hy => h y (List.mem_cons_of_mem _ hy)]
  rfl
theorem EJ {α β : Type} (f : α → β) : ∀ l : List α, (l.map fun i => [f i]).flatten = l.map f
 | [] => rfl
 | x :: l => by
  show [f x] ++ (l.map fun i => [f i]).flatten = f x :: l.map f
  rw [EJ f l]; rfl
theorem wf8 (x : UInt8) : (Lit.int .u8 (x.toNat : Int)).wf = true := by
 have h1 : IntKind.u8.min = 0 := by kernel_rfl
 have h2 : IntKind.u8.max = 255 := by kernel_rfl
 have := x.toNat_lt
 show (decide (IntKind.u8.min ≤ (x.toNat : Int)) && decide ((x.toNat : Int) ≤ IntKind.u8.max)) = true
 rw [h1, h2, decide_eq_true (by omega), decide_eq_true (by omega)]; rfl
theorem GK (d : Nat) {k : List UInt8} (hk : k.length = 32) : (prog).keyLits (d + 2) 24 (kc k) = some (wQ k) := by
 have hu := dU gM
 have h8 := fD oW
 have hc : (prog).cellsOf 24 = 32 := by kernel_rfl
 have h1 : (prog).cellsOf 5 = 1 := by kernel_rfl
 have hl : (kc k).length = 32 := by rw [aO, hk]
 unfold Program.keyLits
 rw [hu]
 simp only []
 rw [if_pos (by rw [hl, hc]), DR _ (fun i => [Lit.int .u8 ((k.getD i 0).toNat : Int)]) _ fun i hi => ?_]
 ·
  rw [Option.map_some]
  rw [EJ]
  unfold wQ
  congr 1
  refine List.ext_getElem (by simp [hk]) fun i h3 h4 => ?_
  rw [List.length_map] at h4
  rw [List.getElem_map, List.getElem_map, List.getElem_range, List.getD_eq_getElem?_getD, List.getElem?_eq_getElem h4]; rfl
 ·
  have hi' := List.mem_range.1 hi
  unfold Program.keyLits
  rw [h8, h1, Nat.mul_one]
  have e : ((kc k).drop i).take 1 = [.int .u8 ((k.getD i 0).toNat : Int)] := by
   rw [List.drop_eq_getElem_cons (by omega), List.take_succ_cons, List.take_zero]
   unfold kc
   rw [List.getElem_map, List.getD_eq_getElem?_getD, List.getElem?_eq_getElem (by omega)]; rfl
  rw [e]
  simp only []
  rw [if_pos ⟨trivial, wf8 _⟩]
theorem nD {k : List UInt8} (hk : k.length = 32) : keyOf prog 24 (.agg (kc k).toArray) = some (X6 k) := by
 have hu := dU gM
 have hc : (prog).cellsOf 24 = 32 := by kernel_rfl
 have hkt : (prog).keyType 24 = true := by kernel_rfl
 have hn : ∃ d, (prog).types.size + 1 = d + 2 := ⟨(prog).types.size - 1, by kernel_rfl⟩
 obtain ⟨d, hd⟩ := hn
 unfold keyOf
 rw [hu]
 simp only []
 have hf : Value.formed prog 24 (.agg (kc k).toArray) = true := by
  unfold Value.formed
  rw [hu]
  simp only []
  rw [hc]
  simp [aO, hk]
 rw [if_pos (by rw [hkt, hf]; rfl), hd]
 have e : (Value.agg (kc k).toArray).cells.toList = kc k := rfl
 rw [e, GK d hk]; rfl
theorem TI {k k' : List UInt8} (hk : k.length = 32) (hk' : k'.length = 32) (h : X6 k = X6 k') : k = k' := by
 have h1 := nD hk
 have h2 := nD hk'
 rw [← h] at h2
 have h3 := BL.inj h1 h2
 injection h3 with h4
 have h5 := congrArg Array.toList h4
 exact aA7 h5
def aCg (b : Nat) (ks : List (List UInt8)) (w : World) : Prop := ∃ D : DataW Unit, w.ownsMap prog 24 (plainElem prog 4) b ks.length D ∧ ∀ k, k.length = 32 → D.atKey (X6 k) (.lit (.bool false)) = .lit (.bool (decide (k ∈ ks)))
theorem GD {b n : Nat} {D : DataW Unit} {w w' : World} (h : w.ownsMap prog 24 (plainElem prog 4) b n D) (he : w'.heap[b]? = w.heap[b]?) : w'.ownsMap prog 24 (plainElem prog 4) b n D := by
 obtain ⟨es, clock, hb, F, hs, hD⟩ := h
 exact ⟨es, clock, he.trans hb, F, hs, hD⟩
def aN.DS (b : Nat) (ks : List (List UInt8)) : aN where
 fp := (· = b)
 ok := aCg b ks
 loc := fun w w' h hb => by
  obtain ⟨D, h1, h2⟩ := hb
  exact ⟨D, GD h1 (h b rfl), h2⟩
 lt := fun w h x hx => by
  subst hx
  obtain ⟨D, h1, _⟩ := h
  exact h1.lt
theorem MQ {v : Value} {x : Bool} {ps : List MemPlace} (h : plainElem (H := Unit) prog 4 v = some (.lit (.bool x), ps)) : v = .bool x := by
 unfold plainElem at h
 rw [l4 bo4] at h
 cases v <;> simp at h
 rw [h.1]
theorem J9 (x : Bool) : plainElem (H := Unit) prog 4 (.bool x) = some (.lit (.bool x), []) := plainElem_bool (l4 bo4) x
theorem IW : (prog).underlying 197 = some (.map 24 4) := by kernel_rfl
section
variable {r : Option Nat} {N : Nat} {σ : Env} {ds : List Deferred} {w w0 : World} {ops : Array Oper} {o : Oper} {rest : List Oper} {K : Env → List Deferred → World → Prop} {X : Nat → Prop} {O L : List aN} {Ps : List (World → Prop)}
theorem WL.PR (H : St X w0 w O L Ps) (h : o.op = .makeMap 197 none) (hw : cD ops σ o = true)
  (k : ∀ b w', St X w0 w' O (aN.DS b [] :: L) Ps → WL r prog N ops rest K (dG N σ o.dst (.map (some b))) ds w') : WL r prog N ops (o :: rest) K σ ds w := by
 refine WL.val (v := .map (some w.heap.size)) (w' := w.alloc (.map #[] 0)) hw (by unfold eL; rw [h]) ?_ (k _ _ ?_)
 ·
  simp [execOp, h, run_makeMap]
 ·
  refine H.push (Out.alloc w _) _ ⟨.map [], World.ownsMap_made w prog 24 (plainElem prog 4), fun k _ => ?_⟩ fun b hb => by (cases hb; exact Nat.le_refl _)
  simp [DataW.atKey]
theorem WL.VH {m x : Operand} {b : Nat} {ks : List (List UInt8)} {k : List UInt8} (H : St X w0 w O L Ps) (i : Nat) (h : o.op = .lookup 197 m x false) (hm : ev σ m = .map (some b)) (hx : ev σ x = .agg (kc k).toArray) (hi : L[i]? = some (aN.DS b ks)) (hk : k.length = 32) (hw : cD ops σ o = true)
  (c : WL r prog N ops rest K (dG N σ o.dst (.bool (decide (k ∈ ks)))) ds w) : WL r prog N ops (o :: rest) K σ ds w := by
 obtain ⟨D, h1, h2⟩ := (H.l i hi : aCg b ks w)
 obtain ⟨v, ps, hrun, hv⟩ := h1.lookup BL IW (z := .bool false) (s9 (P := prog) (t := 4) (by kernel_rfl) w) (J9 false) (nD hk)
 rw [h2 k hk] at hv
 obtain rfl := MQ hv
 exact WL.val hw (by unfold eL; rw [h]) (by simp [execOp, h, hm, hx, hrun]) c
theorem WL.UF {m x y : Operand} {b : Nat} {ks : List (List UInt8)} {k : List UInt8} (H : St X w0 w O L Ps) (i : Nat) (h : o.op = .mapUpdate 197 m x y) (hm : ev σ m = .map (some b)) (hx : ev σ x = .agg (kc k).toArray) (hy : ev σ y = .bool true) (hi : L[i]? = some (aN.DS b ks)) (hk : k.length = 32) (hn : ks.length ≤ 1000000) (hw : cD ops σ o = true)
  (c : ∀ w', St X w0 w' O (L.set i (aN.DS b (ks ++ [k]))) Ps → WL r prog N ops rest K (dG N σ o.dst undef) ds w') : WL r prog N ops (o :: rest) K σ ds w := by
 obtain ⟨D, h1, h2⟩ := (H.l i hi : aCg b ks w)
 obtain ⟨w', hrun, h3, h4⟩ := h1.update BL IW (by unfold maxLen; omega) (nD hk) (J9 true)
 refine WL.unit (w' := w') hw (by unfold eL; rw [h]) (by simp [execOp, h, hm, hx, hy, hrun]) (c w' ?_)
 refine H.nY hi ((Out.grown h4).mono fun c _ hc => (Option.some.inj hc).symm) _ ⟨_, by rw [List.length_append]; exact h3, fun k' hk' => ?_⟩ fun _ h => .inl h
 by_cases he : k' = k
 ·
  subst he
  rw [Go.Maps.atKey_put_same h1.isMap (BL.key (nD hk))]
  simp
 ·
  rw [Go.Maps.atKey_put_other (fun e => he (TI hk' hk e)), h2 k' hk']
  simp [he]
end
def upW (u : Up) : List Value := [u.sk] ++ ([u.ch.s] ++ [.bool u.d])
theorem Up.aBU (u : Up) : u.ch.s = if u.d then .slice none 0 0 else u.sv := rfl
theorem aCI {u : Up} (h : u.d = true) : upW u = [u.sk] ++ ([.slice none 0 0] ++ [.bool u.d]) := by unfold upW; rw [Up.aBU, if_pos h]
theorem aCJ {u : Up} (h : u.d = false) : upW u = N3 u := by unfold upW N3; rw [Up.aBU, if_neg (by rw [h]; decide)]
theorem nQ.take_one {l : List Up} {i : Nat} (h : i < l.length) (hg : nQ (l.take i)) (hb : lR (l.take i) l[i] = 0) : nQ (l.take (i + 1)) := by
 rw [List.take_succ_eq_append_getElem h]; exact hg.snoc hb
theorem SF {l : List Up} {u : Up} : lR l u = if bV u.k u.uv ≠ 0 then bV u.k u.uv else if u.k ∈ l.map Up.k then 9 else 0 := by
 unfold lR
 have e : (∃ x ∈ l, x.k = u.k) ↔ u.k ∈ l.map Up.k := by rw [List.mem_map]
 simp only [e]
theorem HG {X : Nat → Prop} {w : World} {s : Value} {l : List Up} (hX : cU X w) (bT : aH X (jN s l) w) (dA : aH X (dK l) w) (hlen : l.length ≤ 1000) (JJ : ∀ u ∈ l, u.k.length ≤ 9223372036854775807 ∧ u.v.length ≤ 9223372036854775807) :
  bF prog 54 [s].toArray w fun v w' => ∃ v1 v2, v = .tuple [v1, v2].toArray ∧ Out Nil w w' ∧ aH X (eZ [97, 112, 112, 108, 121] (((jM l).1 : Nat) : Int) (jM l).2 v2) w' ∧ ((jM l).2 = 0 → ∃ cs : List Ch, aH X (fW v1 cs) w' ∧ aH X (gH cs) w' ∧ (l.map Up.ch).Perm cs ∧ rL cs) := by
 refine bF.aI (N := 59) func54 rfl rfl (by simp) ?_
 have H := ((St.begin hX).add (cE dA)).add (cE bT)
 have fV := fun u (hu : u ∈ l) => VA ((dA.here) u hu)
 have ZE : ∀ u ∈ l, u.ch.s.oneCell' = true := fun u hu => by rw [Up.aBU]; split; rfl; exact cR.fH ((dA.here) u hu).2
 refine WE.aA (WL.as rfl rfl (WL.as rfl rfl (WL.nil (WE.aA (WL.as rfl rfl (WL.nil (WE.aA ?_)))))))
 refine WL.PR H rfl rfl ?_
 intro sW w2 H
 refine WL.as rfl rfl (WL.nil (WE.seq (WE.aA (WL.mv rfl rfl ?_))))
 refine WL.pv (PV.dO (by exact (H.p 0 rfl : (jN s l) _)) nV rfl) rfl ?_
 refine WL.mv rfl rfl (WL.nil (WE.block ?_))
 replace H := H.lK 127 34
 replace H := H.perm (List.Perm.swap _ _ [])
 refine WE.loop (α := Nat × Value) (rg [(2, 3), (6, 4), (13, 43)]) (fun p => [(13, .int .i64 (p.1 : Int)), (4, p.2)]) (fun p wl => (p.1 ≤ l.length ∧ xL p.1 (l.take p.1) (l.drop p.1) = jM l ∧ nQ (l.take p.1)) ∧ St X w wl [] [aN.DS sW ((l.take p.1).map Up.k), aN.iA w.heap.size p.2 127 34 ((((l.take p.1).map Up.ch)).length) ((((l.take p.1).map Up.ch)).flatMap dV)] [jN s l, dK l]) (fun p => l.length - p.1) (0, .slice none 0 0) ⟨rfl, rfl, trivial⟩ ⟨⟨Nat.zero_le _, by rw [List.take_zero, List.drop_zero]; rfl, ⟨fun _ h => (by cases h), List.Pairwise.nil⟩⟩, H⟩ ?_
 intro ⟨i, v_⟩ γ0 w3 hI
 try dsimp only at hI
 obtain ⟨⟨hi, qI, hgd⟩, H⟩ := hI
 try dsimp only at hi qI hgd
 refine WE.aA (WL.pv (PV.lss rfl rfl rfl) rfl (WL.nil (WE.seq ?_)))
 refine WE.cond rfl (fun q5 => ?_) (fun q5 => ?_)
 ·
  try simp only [bU] at q5
  have hlt : i < l.length := by omega
  have hvi := JJ _ (List.getElem_mem hlt)
  have D2 := AF l (l.length - i) i (by omega)
  rw [dif_pos hlt] at D2
  rw [D2] at qI
  have NI := nC l[i].k
  have aJC := NI
  have hos := ZE _ (List.getElem_mem hlt)
  have htl : (l.take i).length = i := by rw [List.length_take]; omega
  have pU : ((l.take i).map Up.ch).length = i := by rw [List.length_map]; exact htl
  have hbv := SF (l := l.take i) (u := l[i])
  refine WE.skip (WE.seq (WE.block (WE.aA (WL.mv rfl rfl ?_))))
  refine WL.pv (PV.eO rfl (by exact (H.p 0 rfl : (jN s l) _)) nV lH rfl rfl (by omega) (by omega)) rfl ?_
  refine WL.bC rfl aGr rfl rfl ((jN.rd (by exact (H.p 0 rfl : (jN s l) _)) i hlt)) (by exact lH) ?_
  refine WL.alloc H rfl NQ rfl ?_
  intro b7 w4 H
  refine WL.as rfl rfl ?_
  refine WL.aT H 0 rfl rfl rfl (new := N3 l[i]) rfl (by exact lH) (fV _ (List.getElem_mem hlt)) (Laid.at (Laid.all rfl) rfl) rfl ?_
  intro w5 H
  refine WL.nil ?_
  refine WE.cut (α := Unit) [18, 19, 20] (fun _ => []) (fun _ wl => St X w wl [] [aN.blk b7 102 (upW l[i]), aN.DS sW ((l.take i).map Up.k), aN.iA w.heap.size v_ 127 34 ((((l.take i).map Up.ch)).length) ((((l.take i).map Up.ch)).flatMap dV)] [jN s l, dK l]) ?_ ?_
  ·
   refine WE.aA (WL.pv (PV.fieldAddr rfl vK rfl) rfl (WL.aY rfl uC rfl rfl (aM.aF (H.l 0 rfl) (aJ.tl (aJ.tl aJ.hd rfl) rfl) rfl) (WL.nil ?_)))
   refine WE.cond rfl (fun jL => ?_) (fun jL => ?_)
   ·
    try simp only [bU] at jL
    have hd : l[i].d = true := (by exact jL)
    refine WE.eH (WL.pv (PV.fieldAddr rfl pZ rfl) rfl ?_)
    refine WL.aT H 0 rfl rfl rfl (new := [.slice none 0 0]) rfl (by exact AW) (bE _ rfl) (Laid.at (Laid.tail Laid.head rfl) rfl) rfl ?_
    intro w6 H
    refine WL.nil ?_
    exact ⟨(), (by repeat (first | with_reducible exact bQ.refl _ _ | refine bQ.dG rfl ?_)), trivial, rfl, H.conv (by rw [aCI hd]; rfl)⟩
   ·
    try simp only [bU] at jL
    have hd : l[i].d = false := (by exact jL)
    refine WE.skip ?_
    exact ⟨(), (by repeat (first | with_reducible exact bQ.refl _ _ | refine bQ.dG rfl ?_)), trivial, rfl, H.conv (by rw [aCJ hd]; rfl)⟩
  ·
   intro _ γ w7 hI
   try dsimp only at hI
   replace H := hI
   refine WE.aA (WL.pv (PV.fieldAddr rfl p3 rfl) rfl (WL.aY rfl eN rfl rfl (aM.aF (H.l 0 rfl) aJ.hd rfl) (WL.pv (PV.fieldAddr rfl pZ rfl) rfl (WL.aY rfl eN rfl rfl (aM.aF (H.l 0 rfl) (aJ.tl aJ.hd rfl) rfl) ?_))))
   refine WL.call aEE rfl (J2 (s := l[i].sk) (sv := l[i].ch.s) (lb := l[i].k) (vv := l[i].uv) H.aS (show aH _ (bI l[i].sk l[i].k) _ from ((by exact (H.bK 1 rfl : aH _ (dK l) _)) : aH _ (dK l) _).imp fun _ h => h.k hlt) (show aH _ (bI l[i].ch.s l[i].uv) _ from ((by exact (H.bK 1 rfl : aH _ (dK l) _)) : aH _ (dK l) _).imp fun _ h => h.uv hlt) hvi.1 (by unfold Up.uv; split; simp; exact hvi.2)) ?_
   rintro _ w8 ⟨rfl, hO⟩
   replace H := H.out hO
   refine WL.mv rfl rfl (WL.pv (PV.extract rfl rfl rfl) rfl (WL.pv (PV.extract rfl rfl rfl) rfl ?_))
   refine WL.alloc H rfl kO rfl ?_
   intro b8 w9 H
   refine WL.aT H 0 rfl rfl rfl (new := kc (jR l[i].k) ++ [l[i].ch.s]) rfl (cH fK (by simp only [aR, aU, aB]; omega)) (bO (bJ _) (dW hos)) (Laid.at (Laid.all (by simp only [aR, aU, aB]; omega)) rfl) rfl ?_
   intro vR H
   refine WL.as rfl rfl (WL.nil ?_)
   refine WE.cut (α := Unit) (rg [(9, 1), (29, 8)]) (fun _ => [(9, .int .i64 (lR (l.take i) l[i]))]) (fun _ wl => St X w wl [] [aN.blk b8 111 (kc (jR l[i].k) ++ [l[i].ch.s]), aN.blk b7 102 (upW l[i]), aN.DS sW ((l.take i).map Up.k), aN.iA w.heap.size v_ 127 34 ((((l.take i).map Up.ch)).length) ((((l.take i).map Up.ch)).flatMap dV)] [jN s l, dK l]) ?_ ?_
   ·
    refine WE.aA (WL.mv rfl rfl (WL.pv (PV.eql rfl rfl rfl) rfl (WL.mv rfl rfl ?_)))
    refine WL.split (t := 31) rfl (fun GW => ?_) (fun GW => ?_)
    ·
     refine WL.known (t := 30) (c := true) rfl GW ?_
     try simp only [bU] at GW
     have P9 : bV l[i].k l[i].uv = 0 := (by exact GW)
     have uZ : jR l[i].k = l[i].k := if_pos (c8.1 P9).1
     refine WL.mv rfl rfl (WL.pv (PV.fieldAddr rfl gR rfl) rfl ?_)
     refine WL.bC rfl cV rfl rfl (aM.aF (H.l 0 rfl) (aJ.l (aJ.all _)) rfl) (cH cM (by simp only [aR, aU, aB]; omega)) ?_
     refine WL.VH H 2 rfl rfl rfl rfl NI rfl ?_
     refine WL.pv (PV.dB rfl rfl rfl) rfl (WL.nil ?_)
     refine WE.cond rfl (fun oE => ?_) (fun oE => ?_)
     ·
      try simp only [bU] at oE
      have hin : l[i].k ∈ ((l.take i).map Up.k) := by rw [← uZ]; exact (by exact oE)
      have hb9 : (9 : Int) = (lR (l.take i) l[i]) := by rw [hbv, if_neg (by simp [P9]), if_pos hin]
      refine WE.eH (WL.as rfl rfl (WL.nil ?_))
      exact ⟨(), (by repeat (first | with_reducible exact bQ.refl _ _ | refine bQ.dG rfl ?_)), ⟨(by (show Value.int .i64 _ = _; rw [hb9])), trivial⟩, rfl, H⟩
     ·
      try simp only [bU] at oE
      have hin : ¬ l[i].k ∈ ((l.take i).map Up.k) := by rw [← uZ]; exact (by exact oE)
      have hb9 : bV l[i].k l[i].uv = (lR (l.take i) l[i]) := by rw [hbv, if_neg (by simp [P9]), if_neg hin, P9]
      refine WE.skip ?_
      exact ⟨(), (by repeat (first | with_reducible exact bQ.refl _ _ | refine bQ.dG rfl ?_)), ⟨(by (show Value.int .i64 _ = _; rw [hb9])), trivial⟩, rfl, H⟩
    ·
     refine WL.known (t := 30) (c := false) rfl GW ?_
     try simp only [bU] at GW
     have P9 : ¬ bV l[i].k l[i].uv = 0 := (by exact GW)
     have hb9 : bV l[i].k l[i].uv = (lR (l.take i) l[i]) := by rw [hbv, if_pos P9]
     refine WL.off rfl (WL.off rfl (WL.off rfl (WL.off rfl (WL.pv (PV.cZ rfl rfl rfl) rfl (WL.nil (WE.iJ rfl (WE.skip ?_)))))))
     exact ⟨(), (by repeat (first | with_reducible exact bQ.refl _ _ | refine bQ.dG rfl ?_)), ⟨(by (show Value.int .i64 _ = _; rw [hb9])), trivial⟩, rfl, H⟩
   ·
    intro _ γ IQ hI
    try dsimp only at hI
    replace H := hI
    refine WE.seq (WE.aA (WL.mv rfl rfl (WL.pv (PV.neq rfl rfl rfl) rfl (WL.nil ?_))))
    refine WE.cond rfl (fun xA => ?_) (fun xA => ?_)
    ·
     try simp only [bU] at xA
     have sG : (lR (l.take i) l[i]) ≠ 0 := (by exact xA)
     rw [if_pos sG] at qI
     refine WE.aA (WL.mv rfl rfl (WL.mv rfl rfl ?_))
     refine WL.call aBJ rfl (G7 (op := [97, 112, 112, 108, 121]) (ix := (i : Int)) (code := (lR (l.take i) l[i])) H.aS  ) ?_
     rintro v41 FP ⟨hO, hR⟩
     replace H := (H.out hO).add hR
     refine WL.as rfl rfl (WL.as rfl rfl (WL.nil (WE.ret ⟨[_, _], _, .nil _, ⟨rfl, rfl, trivial⟩, ?_⟩)))
     refine ⟨.slice none 0 0, v41, rfl, H.aL, ?_, fun h => ?_⟩
     ·
      rw [← qI]; exact H.gQ (H.bK 0 rfl)
     ·
      rw [← qI] at h; exact absurd h sG
    ·
     try simp only [bU] at xA
     have sG : (lR (l.take i) l[i]) = 0 := (by exact xA)
     rw [if_neg (by simp [sG])] at qI
     have hz0 := uA.1 sG
     have tL := (c8.1 hz0.1).1
     have uZ : jR l[i].k = l[i].k := if_pos tL
     have hS : ((l.take (i + 1)).map Up.ch) = ((l.take i).map Up.ch) ++ [l[i].ch] := by rw [List.take_succ_eq_append_getElem hlt, List.map_append]; rfl
     have hSk : ((l.take (i + 1)).map Up.k) = ((l.take i).map Up.k) ++ [l[i].k] := by rw [List.take_succ_eq_append_getElem hlt, List.map_append]; rfl
     refine WE.skip (WE.aA (WL.mv rfl rfl (WL.pv (PV.fieldAddr rfl gR rfl) rfl ?_)))
     refine WL.bC rfl cV rfl rfl (aM.aF (H.l 0 rfl) (aJ.l (aJ.all _)) rfl) (cH cM (by simp only [aR, aU, aB]; omega)) ?_
     refine WL.UF H 2 rfl rfl rfl rfl rfl NI (by rw [List.length_map]; omega) rfl ?_
     intro NY H
     refine WL.nil (WE.eH (WL.mv rfl rfl (WL.pv (PV.fieldAddr rfl gR rfl) rfl ?_)))
     refine WL.bC rfl cV rfl rfl (aM.aF (H.l 0 rfl) (aJ.l (aJ.all _)) rfl) (cH cM (by simp only [aR, aU, aB]; omega)) ?_
     refine WL.pv (PV.fieldAddr rfl pY rfl) rfl ?_
     refine WL.aY rfl eN rfl rfl (aM.aF (H.l 0 rfl) (aJ.r (aJ.all _) rfl) (by simp [aO, bA, *])) ?_
     refine WL.pv (PV.fieldAddr rfl vK rfl) rfl (WL.aY rfl uC rfl rfl (aM.aF (H.l 1 rfl) (aJ.tl (aJ.tl aJ.hd rfl) rfl) rfl) ?_)
     refine WL.pv (PV.dD rfl Y6 y5 (Fl.cons rfl rfl (by simp only [aR, aU, aB]; omega) (Laid.left (Laid.all (by simp only [aR, aU, aB]; omega))) (Fl.cons rfl (cells_one hos) (by simp only [aR, aU, aB]) (Laid.right (Laid.left (Laid.all (by simp only [aR, aU, aB]))) (by simp only [aR, aU, aB]; omega)) (Fl.cons rfl rfl (by simp only [aR, aU, aB]) (Laid.right (Laid.right (Laid.all (by simp only [aR, aU, aB])) rfl) (by simp only [aR, aU, aB]; omega)) Fl.nil)))) rfl ?_
     refine WL.bL (l0 := ((kc (List.replicate 32 0) ++ ([.slice none 0 0] ++ ([.bool false]))))) H rfl uG (by decide) rfl (Fl.cons rfl rfl (by simp only [aR, aU, aB]; omega) (Laid.all (by simp only [aR, aU, aB]; omega)) Fl.nil) rfl ?_
     intro b53 TV H
     refine WL.append (m := 1) H 4 uG (by decide) rfl rfl rfl (cR.bZ (n := 1) (H.l 0 rfl) (iQ (c := ⟨jR l[i].k, l[i].ch.s, l[i].uv, l[i].d⟩) NI)) (k9 (c := ⟨jR l[i].k, l[i].ch.s, l[i].uv, l[i].d⟩) hos) (by omega) (by decide) rfl ?_
     intro v54 TU H
     have BW := congrArg List.length hS
     rw [List.length_append, List.length_singleton] at BW
     have ED := congrArg (List.flatMap dV) hS
     rw [List.flatMap_append, List.flatMap_singleton] at ED
     replace H := H.forget 0
     replace H := H.forget 0
     replace H := H.forget 0
     rw [uZ] at H
     replace H := H.conv (L' := [aN.DS sW ((l.take (i + 1)).map Up.k), aN.iA w.heap.size v54 127 34 ((((l.take (i + 1)).map Up.ch)).length) ((((l.take (i + 1)).map Up.ch)).flatMap dV)]) (by rw [BW, ED, hSk]; rfl)
     refine WL.as rfl rfl (WL.nil (WE.eH (WL.pv (PV.eq (v' := .int .i64 ((i + 1 : Nat) : Int)) (PV.bY rfl rfl rfl (by omega) (by omega)) rfl) rfl (WL.mv rfl rfl (WL.nil ?_)))))
     exact ⟨(i + 1, v54), (by repeat (first | with_reducible exact bQ.refl _ _ | refine bQ.dG rfl ?_ | refine bQ.cC rfl ?_ | refine bQ.cB rfl ?_)), ⟨rfl, rfl, trivial⟩, rfl, ⟨⟨by dsimp only; omega, qI, hgd.take_one hlt sG⟩, H⟩, (by dsimp only; omega)⟩
 ·
  try simp only [bU] at q5
  have uN : l.take i = l := List.take_of_length_le (by omega)
  have hid : l.drop i = [] := List.drop_eq_nil_of_le (by omega)
  rw [hid] at qI
  have aBq : jM l = (0, 0) := qI.symm
  rw [uN] at hgd
  rw [uN] at H
  refine WE.exit (WE.aA (WL.mv rfl rfl ?_))
  refine WL.call aH6 rfl (XY (l := l.map Up.ch) (H.l 1 rfl) hgd.ch.1 (fun c hc => by obtain ⟨u, hu, rfl⟩ := List.mem_map.1 hc; exact ZE u hu) hgd.ch.2.1 (by rw [List.length_map]; omega)) ?_
  rintro _ TT ⟨cs, rfl, qH, BP, hO, gP⟩
  replace H := H.nY (i := 1) rfl hO (aN.iA w.heap.size v_ 127 34 cs.length (cs.flatMap dV)) gP (fun b hb => .inl hb)
  refine WL.nil (WE.aA (WL.mv rfl rfl (WL.as rfl rfl (WL.as rfl rfl (WL.nil (WE.ret ⟨[_, _], _, .nil _, ⟨rfl, rfl, trivial⟩, ?_⟩))))))
  refine ⟨v_, .nilIface, rfl, H.aL, ?_, fun _ => ⟨cs, ?_, ?_, qH, BP⟩⟩
  ·
   rw [aBq]; exact fun _ _ => .inl ⟨rfl, rfl⟩
  ·
   exact (pR hX (H.l 1 rfl)).imp fun _ h => cR.eM h
  ·
   exact H.gQ ((show aH _ (dK l) _ from (by exact (H.bK 1 rfl : aH _ (dK l) _))).imp fun _ h c hc => by obtain ⟨u, hu, rfl⟩ := List.mem_map.1 (qH.mem_iff.2 hc); obtain ⟨q, hq, rfl⟩ := List.getElem_of_mem hu; exact h.uv hq)
theorem SY {X : Nat → Prop} {w : World} {bt bh bc : Nat} {bits c0 : Int} {T : Tr} {m : List En} {s sv : Value} {lb vv : List UInt8} (hX : cU X w) (eT : aM w bc 213 ([.int .i64 c0])) (yE : aM w bt 90 ([.pointer (some ⟨bh, 0, none⟩), T.ptr])) (bT : aH (fun c_ => X c_ ∨ c_ = bc ∨ c_ = bt) (fF bh bc bits) w) (dA : aH (fun c_ => X c_ ∨ c_ = bc ∨ c_ = bt) (cQ bits T) w) (fN : aH (fun c_ => X c_ ∨ c_ = bc ∨ c_ = bt) (bI s lb) w) (jO : aH (fun c_ => X c_ ∨ c_ = bc ∨ c_ = bt) (bI sv vv) w) (nE : aH (fun c_ => X c_ ∨ c_ = bc ∨ c_ = bt) (aX) w) (hne : bc ≠ bt) (bR : 0 ≤ bits ∧ bits ≤ 256) (hT : T.er = grow 0 m) (hs : lD m) (sU : KL m) (yS : m.length ≤ 1000000) (D5 : lb.length ≤ 9223372036854775807) (hvv : vv.length ≤ 9223372036854775807) :
  bF prog 18 [.pointer (some ⟨bt, 0, none⟩), s, sv].toArray w fun v w' => ∃ (T' : Tr) (c' : Int) , T'.er = grow 0 (if bV lb vv = 0 then gJ m ⟨lb, sv, vv⟩ else m) ∧ Out (fun c => c = bc ∨ c = bt) w w' ∧ aM w' bc 213 [.int .i64 c'] ∧ aM w' bt 90 [.pointer (some ⟨bh, 0, none⟩), T'.ptr] ∧ aH (fun c => X c ∨ c = bc ∨ c = bt) (cQ bits T') w' ∧ aH (fun c => X c ∨ c = bc ∨ c = bt) (eZ [112, 117, 116] 0 (bV lb vv) v) w' := by
 refine bF.aI (N := 32) func18 rfl rfl (by simp) ?_
 have H := St.rD (b1 := bc) (b2 := bt) (t1 := 213) (t2 := 90) (l1 := [.int .i64 c0]) (l2 := [.pointer (some ⟨bh, 0, none⟩), T.ptr]) hX eT yE hne
 replace H := H.add (gI nE)
 replace H := H.add (gI jO)
 replace H := H.add (gI fN)
 replace H := H.add (gI dA)
 replace H := H.add (gI bT)
 have vC : sv.oneCell' = true := cR.fH (jO.here)
 have NI := nC lb
 refine WE.aA (WL.as rfl rfl (WL.nil (WE.aA (WL.mv rfl rfl (WL.mv rfl rfl (WL.mv rfl rfl ?_))))))
 refine WL.call aBK rfl (vV (bt := bt) (op := [112, 117, 116]) (lb := lb) (vv := vv) H.aS (by exact H.bK 2 rfl) (by exact H.bK 3 rfl) (by assumption) (by assumption)) ?_
 rintro _ w1 ⟨oS, rfl, hO, qJ⟩
 have aBn := qJ.here.ifv
 have sC := qJ.here.isNil
 have V1 := qJ.here.one
 replace H := (H.out hO).add qJ
 refine WL.mv rfl rfl (WL.pv (PV.extract rfl rfl rfl) rfl (WL.pv (PV.extract rfl rfl rfl) rfl ?_))
 refine WL.alloc H rfl kO rfl ?_
 intro b7 w2 H
 refine WL.aT H 0 rfl rfl rfl (new := kc (jR lb) ++ [sv]) rfl (cH fK (by simp only [aR]; omega)) (bO (bJ _) (dW vC)) (Laid.at (Laid.all (by simp only [aR]; omega)) rfl) rfl ?_
 intro w3 H
 refine WL.as rfl rfl (WL.nil (WE.seq (WE.aA (WL.mv rfl rfl (WL.pv (PV.pO rfl (by kernel_rfl) (by assumption)) rfl (WL.nil ?_))))))
 refine WE.cond rfl (fun iB => ?_) (fun iB => ?_)
 ·
  try simp only [bU] at iB
  have hz : bV lb vv = 0 := by have h_ : iC oS = true := iB; rw [sC] at h_; simpa using h_
  have tL := (c8.1 hz).1
  have aJl := (c8.1 hz).2
  have uZ : jR lb = lb := if_pos tL
  refine WE.draw (.take 0 (.take 1 (.take 2 (.take 3 (.take 4 (.take 5 (.take 6 (.take 7 (.take 8 (.take 9 (.aG 10 (.take 11 (.take 12 (.aG 13 .done)))))))))))))) mixed (by kernel_rfl) ?_
  replace H := H.out (Out.drew _)
  refine WP.mv rfl rfl rfl (WP.mv rfl rfl rfl (WP.aC rfl rfl (PV.nilCheck rfl rfl) (WP.aC rfl rfl (PV.fieldAddr rfl xE rfl) (WP.aQ rfl rfl (RV.aZ rfl u3 rfl) (aM.aF (H.o 1 rfl) aJ.hd rfl) (WP.mv rfl rfl rfl (WP.aC rfl rfl (PV.nilCheck rfl rfl) (WP.aC rfl rfl (PV.fieldAddr rfl oG rfl) ?_)))))))
  refine WP.aQ rfl rfl (RV.aZ rfl gX rfl) (aM.aF (H.o 1 rfl) (aJ.tl aJ.hd rfl) rfl) ?_
  refine WP.dF rfl rfl rfl oU rfl (aM.aF (H.l 0 rfl) (aJ.all _) rfl) (cH fK (by simp only [aR]; omega)) ?_
  refine WP.aG rfl ?_
  refine WL.call aIk rfl (aCb (T := T) (M := m) (k := jR lb) (lv := vv) (s := sv) (bits := bits) H.aS (H.o 0 rfl) (by exact (H.aK 0 rfl 1 rfl : aH _ (fF bh bc bits) _)) (by exact (H.aK 0 rfl 2 rfl : aH _ (cQ bits T) _)) (by exact (H.aK 0 rfl 5 rfl : aH _ (aX) _)) bR NI (by omega) (aH.wk1 (X := YY X _ _) (by exact (H.aK 0 rfl 4 rfl : aH _ (bI sv vv) _))) hT sU hs (by omega)) ?_
  rintro _ w4 ⟨aB6, aJd, rfl, aEd, hO, hB, hR⟩
  replace H := H.c9 0 rfl hO hB hR
  refine WL.nil ⟨(fa (nw 10 9) (fa (nw 10 8) (fa (nw 10 4) c5))), ?_⟩
  refine WP.aC rfl rfl (PV.nilCheck rfl rfl) (WP.aC rfl rfl (PV.fieldAddr rfl oG rfl) (WP.aG rfl ?_))
  refine WL.kZ H 1 rfl rfl rfl (new := [aB6.ptr]) rfl (by exact lG) (bE _ rfl) (Laid.at (Laid.tail Laid.head rfl) rfl) rfl ?_
  intro w5 H
  refine WL.nil ⟨(fa (nw 13 9) (fa (nw 13 8) (fa (nw 13 4) c5))), ?_⟩
  refine WP.done (WE.aA (WL.mv rfl rfl (WL.as rfl rfl (WL.nil (WE.ret ⟨[_], _, .nil _, ⟨rfl, trivial⟩, ?_⟩)))))
  exact ⟨aB6, _, by rw [aEd, if_pos hz, uZ], H.kY, H.o 0 rfl, H.o 1 rfl, H.fQ (by exact (H.bK 0 rfl : aH _ (cQ bits aB6) _)), H.fQ (by exact (H.bK 1 rfl : aH _ (eZ [112, 117, 116] 0 (bV lb vv) oS) _))⟩
 ·
  try simp only [bU] at iB
  have hz : ¬ bV lb vv = 0 := by have h_ : iC oS = false := iB; rw [sC] at h_; simpa using h_
  refine WE.skip (WE.aA (WL.mv rfl rfl (WL.as rfl rfl (WL.nil (WE.ret ⟨[_], _, .nil _, ⟨rfl, trivial⟩, ?_⟩)))))
  exact ⟨T, _, by rw [hT, if_neg hz], H.kY, H.o 0 rfl, H.o 1 rfl, H.fQ (by exact (H.bK 2 rfl : aH _ (cQ bits T) _)), H.fQ (by exact (H.bK 0 rfl : aH _ (eZ [112, 117, 116] 0 (bV lb vv) oS) _))⟩
theorem aB7 {X : Nat → Prop} {w : World} {bt bh : Nat} {bits : Int} {T : Tr} {m : List En} {s : Value} {lb : List UInt8} (hX : cU X w) (eT : aM w bt 90 ([.pointer (some ⟨bh, 0, none⟩), T.ptr])) (bT : aH (fun c_ => X c_ ∨ c_ = bt) (cQ bits T) w) (dA : aH (fun c_ => X c_ ∨ c_ = bt) (bI s lb) w) (hT : T.er = grow 0 m) (hs : lD m) (sU : KL m) (yS : m.length ≤ 1000000) (D5 : lb.length ≤ 9223372036854775807) :
  bF prog 19 [.pointer (some ⟨bt, 0, none⟩), s].toArray w fun v w' => ∃ sv2 ev, v = .tuple [sv2, .bool (decide (lb.length = 32) && iE m lb), ev].toArray ∧ Out Nil w w' ∧ aH (fun c => X c ∨ c = bt) (bI sv2 (if lb.length = 32 then gV m lb else [])) w' ∧ aH (fun c => X c ∨ c = bt) (eZ [103, 101, 116] 0 (bV lb []) ev) w' := by
 refine bF.aI (N := 32) func19 rfl rfl (by simp) ?_
 have H := ((St.c7 (b := bt) (t := 90) (l := [.pointer (some ⟨bh, 0, none⟩), T.ptr]) hX eT).add (bX dA)).add (bX bT)
 have NI := nC lb
 have hrz := gO lb
 refine WE.aA (WL.as rfl rfl (WL.as rfl rfl (WL.as rfl rfl (WL.nil (WE.aA (WL.mv rfl rfl (WL.mv rfl rfl ?_)))))))
 refine WL.call aBK rfl (vV (bt := bt) (op := [103, 101, 116]) (lb := lb) (vv := []) H.aS (by exact H.bK 1 rfl) (by exact fun _ _ => bI.nil _) (by assumption) (by simp_all)) ?_
 rintro _ w1 ⟨xI, rfl, hO, EE⟩
 have aHK := EE.here.ifv
 have JN := EE.here.isNil
 have aGO := EE.here.one
 replace H := (H.out hO).add EE
 refine WL.mv rfl rfl (WL.pv (PV.extract rfl rfl rfl) rfl (WL.pv (PV.extract rfl rfl rfl) rfl ?_))
 refine WL.alloc H rfl kO rfl ?_
 intro b7 w2 H
 refine WL.aT H 0 rfl rfl rfl (new := kc (jR lb) ++ [.slice none 0 0]) rfl (cH fK (by simp only [aR]; omega)) (by exact bO (bJ _) (bE _ rfl)) (Laid.at (Laid.all (by simp only [aR]; omega)) rfl) rfl ?_
 intro w3 H
 refine WL.as rfl rfl (WL.nil (WE.seq (WE.aA (WL.mv rfl rfl (WL.pv (PV.zL rfl (by kernel_rfl) (by assumption)) rfl (WL.nil ?_))))))
 refine WE.cond rfl (fun q4 => ?_) (fun q4 => ?_)
 ·
  try simp only [bU] at q4
  have hz : ¬ bV lb [] = 0 := by have h_ : iC xI = false := q4; rw [JN] at h_; simpa using h_
  have FV : ¬ lb.length = 32 := fun h => hz (by rw [hrz, if_pos h])
  refine WE.aA (WL.mv rfl rfl (WL.as rfl rfl (WL.as rfl rfl (WL.as rfl rfl (WL.nil (WE.ret ⟨[_, _, _], _, .nil _, ⟨rfl, rfl, rfl, trivial⟩, ?_⟩))))))
  refine ⟨.slice none 0 0, xI, ?_, (H.JA eT), (fun w_ _ => by rw [if_neg FV]; exact bI.nil w_), H.fL (by exact (H.bK 0 rfl : aH _ (eZ [103, 101, 116] 0 (bV lb []) xI) _))⟩
  rw [decide_eq_false FV]; rfl
 ·
  try simp only [bU] at q4
  have hz : bV lb [] = 0 := by have h_ : iC xI = true := q4; rw [JN] at h_; simpa using h_
  have FV := (c8.1 hz).1
  have uZ : jR lb = lb := if_pos FV
  refine WE.skip ?_
  refine WE.bG (.take 0 (.take 1 (.take 2 (.take 3 (.take 4 (.take 5 (.aG 6 (.take 7 (.take 8 (.take 9 (.take 10 (.take 11 .done)))))))))))) mixed (by kernel_rfl) ?_
  replace H := H.out (Out.drew _)
  refine WP.mv rfl rfl rfl (WP.aC rfl rfl (PV.nilCheck rfl rfl) (WP.aC rfl rfl (PV.fieldAddr rfl oG rfl) (WP.aQ rfl rfl (RV.aZ rfl gX rfl) (aM.aF (H.o 0 rfl) (aJ.tl aJ.hd rfl) rfl) (WP.aC rfl rfl (PV.fieldAddr rfl gR rfl) ?_))))
  refine WP.dF rfl rfl rfl cV rfl (aM.aF (H.l 0 rfl) (aJ.l (aJ.all _)) rfl) (cH cM (by simp only [aR]; omega)) ?_
  refine WP.aG rfl ?_
  refine WL.call aIj rfl (aCk (T := T) (m := m) (k := jR lb) (bits := bits) H.aS (by exact (H.bK 1 rfl : aH _ (cQ bits T) _)) NI hT hs sU) ?_
  rintro _ w4 ⟨gv, rfl, hO, hG⟩
  replace H := (H.out hO).add (show aH _ (bI gv (gV m (jR lb))) _ from hG)
  refine WL.nil ⟨(fa (nw 6 5) (fa (nw 6 3) c5)), ?_⟩
  refine WP.mv rfl rfl rfl (WP.aC rfl rfl (PV.extract rfl rfl rfl) (WP.aC rfl rfl (PV.extract rfl rfl rfl) (WP.as rfl rfl rfl (WP.as rfl rfl rfl (WP.done (WE.aA (WL.mv rfl rfl ?_)))))))
  refine WL.mv rfl rfl (WL.as rfl rfl (WL.as rfl rfl (WL.as rfl rfl (WL.nil (WE.ret ⟨[_, _, _], _, .nil _, ⟨rfl, rfl, rfl, trivial⟩, ?_⟩)))))
  have QA : xI = .nilIface := by rcases EE.here with ⟨_, h_⟩ | ⟨h_, _⟩; exact h_; exact absurd hz h_
  refine ⟨gv, xI, ?_, (H.JA eT), (H.fL (by exact (H.bK 0 rfl : aH _ (bI gv (gV m (jR lb))) _))).imp (fun _ h => by rw [if_pos FV]; rw [uZ] at h; exact h), H.fL (by exact (H.bK 1 rfl : aH _ (eZ [103, 101, 116] 0 (bV lb []) xI) _))⟩
  rw [decide_eq_true FV, QA, uZ]; rfl
theorem aB8 {X : Nat → Prop} {w : World} {bt bh bc : Nat} {bits c0 : Int} {T : Tr} {m : List En} {s : Value} {lb : List UInt8} (hX : cU X w) (eT : aM w bc 213 ([.int .i64 c0])) (yE : aM w bt 90 ([.pointer (some ⟨bh, 0, none⟩), T.ptr])) (bT : aH (fun c_ => X c_ ∨ c_ = bc ∨ c_ = bt) (fF bh bc bits) w) (dA : aH (fun c_ => X c_ ∨ c_ = bc ∨ c_ = bt) (cQ bits T) w) (fN : aH (fun c_ => X c_ ∨ c_ = bc ∨ c_ = bt) (bI s lb) w) (jO : aH (fun c_ => X c_ ∨ c_ = bc ∨ c_ = bt) (aX) w) (hne : bc ≠ bt) (bR : 0 ≤ bits ∧ bits ≤ 256) (hT : T.er = grow 0 m) (hs : lD m) (sU : KL m) (yS : m.length ≤ 1000000) (D5 : lb.length ≤ 9223372036854775807) :
  bF prog 20 [.pointer (some ⟨bt, 0, none⟩), s].toArray w fun v w' => ∃ (T' : Tr) (c' : Int) (ev : Value), v = .tuple [.bool (decide (lb.length = 32) && iE m lb), ev].toArray ∧ T'.er = grow 0 (if bV lb [] = 0 then eX m lb else m) ∧ Out (fun c => c = bc ∨ c = bt) w w' ∧ aM w' bc 213 [.int .i64 c'] ∧ aM w' bt 90 [.pointer (some ⟨bh, 0, none⟩), T'.ptr] ∧ aH (fun c => X c ∨ c = bc ∨ c = bt) (cQ bits T') w' ∧ aH (fun c => X c ∨ c = bc ∨ c = bt) (eZ [100, 101, 108, 101, 116, 101] 0 (bV lb []) ev) w' := by
 refine bF.aI (N := 38) func20 rfl rfl (by simp) ?_
 have H := St.rD (b1 := bc) (b2 := bt) (t1 := 213) (t2 := 90) (l1 := [.int .i64 c0]) (l2 := [.pointer (some ⟨bh, 0, none⟩), T.ptr]) hX eT yE hne
 replace H := H.add (gI jO)
 replace H := H.add (gI fN)
 replace H := H.add (gI dA)
 replace H := H.add (gI bT)
 have NI := nC lb
 have hrz := gO lb
 refine WE.aA (WL.as rfl rfl (WL.as rfl rfl (WL.nil (WE.aA (WL.mv rfl rfl (WL.mv rfl rfl ?_))))))
 refine WL.call aBK rfl (vV (bt := bt) (op := [100, 101, 108, 101, 116, 101]) (lb := lb) (vv := []) H.aS (by exact H.bK 2 rfl) (by exact fun _ _ => bI.nil _) (by assumption) (by simp_all)) ?_
 rintro _ w1 ⟨oS, rfl, hO, qJ⟩
 have aBn := qJ.here.ifv
 have sC := qJ.here.isNil
 have V1 := qJ.here.one
 replace H := (H.out hO).add qJ
 refine WL.mv rfl rfl (WL.pv (PV.extract rfl rfl rfl) rfl (WL.pv (PV.extract rfl rfl rfl) rfl ?_))
 refine WL.alloc H rfl kO rfl ?_
 intro b6 w2 H
 refine WL.aT H 0 rfl rfl rfl (new := kc (jR lb) ++ [.slice none 0 0]) rfl (cH fK (by simp only [aR]; omega)) (by exact bO (bJ _) (bE _ rfl)) (Laid.at (Laid.all (by simp only [aR]; omega)) rfl) rfl ?_
 intro w3 H
 refine WL.as rfl rfl (WL.nil (WE.seq (WE.aA (WL.mv rfl rfl (WL.pv (PV.zL rfl (by kernel_rfl) (by assumption)) rfl (WL.nil ?_))))))
 refine WE.cond rfl (fun iB => ?_) (fun iB => ?_)
 ·
  try simp only [bU] at iB
  have hz : ¬ bV lb [] = 0 := by have h_ : iC oS = false := iB; rw [sC] at h_; simpa using h_
  have FV : ¬ lb.length = 32 := fun h => hz (by rw [hrz, if_pos h])
  refine WE.aA (WL.mv rfl rfl (WL.as rfl rfl (WL.as rfl rfl (WL.nil (WE.ret ⟨[_, _], _, .nil _, ⟨rfl, rfl, trivial⟩, ?_⟩)))))
  refine ⟨T, _, oS, ?_, by rw [hT, if_neg hz], H.kY, H.o 0 rfl, H.o 1 rfl, H.fQ (by exact (H.bK 2 rfl : aH _ (cQ bits T) _)), H.fQ (by exact (H.bK 0 rfl : aH _ (eZ [100, 101, 108, 101, 116, 101] 0 (bV lb []) oS) _))⟩
  rw [decide_eq_false FV]; rfl
 ·
  try simp only [bU] at iB
  have hz : bV lb [] = 0 := by have h_ : iC oS = true := iB; rw [sC] at h_; simpa using h_
  have FV := (c8.1 hz).1
  have uZ : jR lb = lb := if_pos FV
  refine WE.skip ?_
  refine WE.bG (.take 0 (.take 1 (.take 2 (.take 3 (.take 4 (.take 5 (.take 6 (.take 7 (.take 8 (.take 9 (.aG 10 (.take 11 (.take 12 (.take 13 (.take 14 (.take 15 .done)))))))))))))))) mixed (by kernel_rfl) ?_
  replace H := H.out (Out.drew _)
  refine WP.mv rfl rfl rfl (WP.aC rfl rfl (PV.nilCheck rfl rfl) (WP.aC rfl rfl (PV.fieldAddr rfl xE rfl) (WP.aQ rfl rfl (RV.aZ rfl u3 rfl) (aM.aF (H.o 1 rfl) aJ.hd rfl) (WP.mv rfl rfl rfl (WP.aC rfl rfl (PV.nilCheck rfl rfl) (WP.aC rfl rfl (PV.fieldAddr rfl oG rfl) (WP.aQ rfl rfl (RV.aZ rfl gX rfl) (aM.aF (H.o 1 rfl) (aJ.tl aJ.hd rfl) rfl) ?_)))))))
  refine WP.aC rfl rfl (PV.fieldAddr rfl gR rfl) ?_
  refine WP.dF rfl rfl rfl cV rfl (aM.aF (H.l 0 rfl) (aJ.l (aJ.all _)) rfl) (cH cM (by simp only [aR]; omega)) ?_
  refine WP.aG rfl ?_
  refine WL.call aIi rfl (M6 (T := T) (M := m) (k := jR lb) (bits := bits) H.aS (H.o 0 rfl) (by exact (H.aK 0 rfl 1 rfl : aH _ (fF bh bc bits) _)) (by exact (H.aK 0 rfl 2 rfl : aH _ (cQ bits T) _)) (by exact (H.aK 0 rfl 4 rfl : aH _ (aX) _)) bR NI hT (hs.pm sU) (by omega)) ?_
  rintro _ w4 ⟨HV, aJK, aJH, rfl, Q5, aDW, aIY, hO, hB, hR⟩
  replace H := H.c9 0 rfl hO hB hR
  refine WL.nil ⟨(fa (nw 10 9) (fa (nw 10 7) (fa (nw 10 3) c5))), ?_⟩
  refine WP.mv rfl rfl rfl (WP.aC rfl rfl (PV.extract rfl rfl rfl) (WP.aC rfl rfl (PV.extract rfl rfl rfl) (WP.as rfl rfl rfl (WP.as rfl rfl rfl (WP.done (WE.aA (WL.mv rfl rfl ?_)))))))
  refine WL.mv rfl rfl (WL.pv (PV.nilCheck rfl rfl) rfl (WL.pv (PV.fieldAddr rfl oG rfl) rfl ?_))
  refine WL.kZ H 1 rfl rfl rfl (new := [HV.ptr]) rfl (by exact lG) (bE _ rfl) (Laid.at (Laid.tail Laid.head rfl) rfl) rfl ?_
  intro w5 H
  refine WL.nil (WE.aA (WL.mv rfl rfl (WL.as rfl rfl (WL.as rfl rfl (WL.nil (WE.ret ⟨[_, _], _, .nil _, ⟨rfl, rfl, trivial⟩, ?_⟩))))))
  have QA : oS = .nilIface := by rcases qJ.here with ⟨_, h_⟩ | ⟨h_, _⟩; exact h_; exact absurd hz h_
  refine ⟨HV, _, oS, ?_, by rw [Q5, if_pos hz, uZ], H.kY, H.o 0 rfl, H.o 1 rfl, H.fQ (by exact (H.bK 0 rfl : aH _ (cQ bits HV) _)), H.fQ (by exact (H.bK 1 rfl : aH _ (eZ [100, 101, 108, 101, 116, 101] 0 (bV lb []) oS) _))⟩
  rw [decide_eq_true FV, QA, aDW, uZ]; rfl
noncomputable def aF1 : Array Value → Sem Value := (Extern.find f252).getD fun _ => pure (.bool false)
theorem coE (w : World) : (aF1 [.agg [(.pointer (some ⟨3, 42, none⟩))].toArray].toArray).run prog w = .ok (.bool true) w := by kernel_rfl
theorem AE : ∀ (l b : List Up) (i : Nat), (xL i b l).2 = 0 → xL i b l = (0, 0)
 | [], _, _, _ => rfl
 | u :: l, b, i, h => by
  unfold xL at h ⊢
  by_cases hu : lR b u = 0
  ·
   rw [if_neg (by simp [hu])] at h ⊢
   exact AE l (b ++ [u]) (i + 1) h
  ·
   rw [if_pos hu] at h; exact absurd h hu
theorem MN {l : List Up} (h : (jM l).2 = 0) : (jM l).1 = 0 := by
 have := AE l [] 0 h
 unfold jM; rw [this]
theorem XL.perm {l l' : List Ch} (h : XL l) (hp : l.Perm l') : XL l' := fun c hc => h c (hp.mem_iff.2 hc)
theorem oO.perm {l l' : List Ch} (h : oO l) (hp : l.Perm l') : oO l' := fun c hc => h c (hp.mem_iff.2 hc)
theorem aDu {X : Nat → Prop} {w : World}  (hX : cU X w) :
  bF prog 98 [.iface 42 (.int .i64 0), .iface 42 (.int .i64 0), .bool true].toArray w fun v w' => v = .bool true ∧ Out Nil w w' := by
 refine bF.aI (N := 54) func98 rfl rfl (by simp) ?_
 have H := St.begin hX
 refine WE.aA (WL.as rfl rfl (WL.nil (WE.block ?_)))
 refine WE.jG 1 ?_
 refine dN.step ?_
 refine WE.block (WE.seq (WE.aA (WL.mv rfl rfl (WL.mv rfl rfl (WL.known (t := 15) (c := true) rfl rfl (WL.mv rfl rfl (WL.mv rfl rfl ?_)))))))
 refine WL.pv (PV.RU rfl (by kernel_rfl) aHf (by kernel_rfl) rfl rfl) rfl (WL.pv (PV.dB rfl rfl rfl) rfl (WL.nil ?_))
 refine WE.cO rfl rfl ?_
 refine WE.aA (WL.as rfl rfl (WL.nil (WE.ret ⟨[_], _, .nil _, ⟨rfl, trivial⟩, ?_⟩)))
 refine ⟨?_, H.aL⟩
 rfl
theorem aGE {X : Nat → Prop} {w : World}  (hX : cU X w) :
  bF prog 56 [.iface 42 (.int .i64 0), .iface 42 (.int .i64 0)].toArray w fun v w' => v = .bool true ∧ Out Nil w w' := by
 refine bF.aI (N := 22) func56 rfl rfl (by simp) ?_
 have H := St.begin hX
 refine WE.aA (WL.as rfl rfl (WL.nil (WE.seq (WE.aA (WL.mv rfl rfl ?_)))))
 refine WL.pv (PV.pO rfl (by kernel_rfl) (by exact yF.of)) rfl ?_
 refine WL.mv rfl rfl (WL.known (t := 8) (c := false) rfl rfl (WL.mv rfl rfl ?_))
 refine WL.pv (PV.pO rfl (by kernel_rfl) (by exact yF.of)) rfl ?_
 refine WL.pv (PV.cZ rfl rfl rfl) rfl (WL.nil ?_)
 refine WE.bB rfl rfl ?_
 refine WE.skip (WE.aA (WL.mv rfl rfl ?_))
 refine WL.extern (e := Extern.ReflectliteType.typeOf) func97 (by kernel_rfl) (by kernel_rfl) (by kernel_rfl) (by kernel_rfl) rfl (toE 0 _) ?_
 refine WL.iZ (e := aF1) rfl (fun w => meC _ w) func252 (by kernel_rfl) (by kernel_rfl) (by kernel_rfl) (by kernel_rfl) rfl (coE _) ?_
 refine WL.as rfl rfl (WL.nil (WE.aA (WL.mv rfl rfl (WL.mv rfl rfl (WL.mv rfl rfl ?_)))))
 refine WL.call aH3 rfl (aDu H.aS) ?_
 rintro _ w3 ⟨rfl, hO⟩
 replace H := H.out hO
 refine WL.as rfl rfl (WL.nil (WE.ret ⟨[_], _, .nil _, ⟨rfl, trivial⟩, ?_⟩))
 refine ⟨?_, H.aL⟩
 rfl
theorem S4 {X : Nat → Prop} {w : World} {bt bh bc : Nat} {bits c0 : Int} {T : Tr} {m : List En} {s : Value} {l : List Up} (hX : cU X w) (eT : aM w bc 213 ([.int .i64 c0])) (yE : aM w bt 90 ([.pointer (some ⟨bh, 0, none⟩), T.ptr])) (bT : aH (fun c_ => X c_ ∨ c_ = bc ∨ c_ = bt) (fF bh bc bits) w) (dA : aH (fun c_ => X c_ ∨ c_ = bc ∨ c_ = bt) (cQ bits T) w) (fN : aH (fun c_ => X c_ ∨ c_ = bc ∨ c_ = bt) (jN s l) w) (jO : aH (fun c_ => X c_ ∨ c_ = bc ∨ c_ = bt) (dK l) w) (nE : aH (fun c_ => X c_ ∨ c_ = bc ∨ c_ = bt) (aX) w) (hne : bc ≠ bt) (bR : 0 ≤ bits ∧ bits ≤ 256) (hT : T.er = grow 0 m) (hs : lD m) (sU : KL m) (yS : m.length ≤ 1000) (hlen : l.length ≤ 1000) (JJ : ∀ u ∈ l, u.k.length ≤ 9223372036854775807 ∧ u.v.length ≤ 9223372036854775807) :
  bF prog 21 [.pointer (some ⟨bt, 0, none⟩), s].toArray w fun v w' => ∃ (T' : Tr) (c' : Int), T'.er = grow 0 (if (jM l).2 = 0 then s5 m l else m) ∧ Out (fun c => c = bc ∨ c = bt) w w' ∧ aM w' bc 213 [.int .i64 c'] ∧ aM w' bt 90 [.pointer (some ⟨bh, 0, none⟩), T'.ptr] ∧ aH (fun c => X c ∨ c = bc ∨ c = bt) (cQ bits T') w' ∧ aH (fun c => X c ∨ c = bc ∨ c = bt) (eZ [97, 112, 112, 108, 121] (((jM l).1 : Nat) : Int) (jM l).2 v) w' := by
 refine bF.aI (N := 43) func21 rfl rfl (by simp) ?_
 have H := St.rD (b1 := bc) (b2 := bt) (t1 := 213) (t2 := 90) (l1 := [.int .i64 c0]) (l2 := [.pointer (some ⟨bh, 0, none⟩), T.ptr]) hX eT yE hne
 replace H := H.add (gI nE)
 replace H := H.add (gI jO)
 replace H := H.add (gI fN)
 replace H := H.add (gI dA)
 replace H := H.add (gI bT)
 refine WE.aA (WL.as rfl rfl (WL.nil (WE.seq (WE.aA (WL.mv rfl rfl (WL.pv (PV.iX rfl GA rfl rfl) rfl (WL.nil ?_)))))))
 refine WE.bB rfl rfl ?_
 refine WE.skip (WE.aA (WL.mv rfl rfl ?_))
 refine WL.call aIh rfl (HG (s := s) (l := l) H.aS (by exact (H.bK 2 rfl : aH _ (jN s l) _)) (by exact (H.bK 3 rfl : aH _ (dK l) _)) hlen JJ) ?_
 rintro _ w1 ⟨v1_, v2_, rfl, hO, hE, hC⟩
 have aJE := hE.here.ifv
 have ZI := hE.here.isNil
 replace H := (H.out hO).add (show aH _ (eZ [97, 112, 112, 108, 121] (((jM l).1 : Nat) : Int) (jM l).2 v2_) _ from hE)
 refine WL.mv rfl rfl (WL.pv (PV.extract rfl rfl rfl) rfl (WL.pv (PV.extract rfl rfl rfl) rfl (WL.as rfl rfl (WL.as rfl rfl (WL.nil (WE.seq (WE.aA ?_)))))))
 refine WL.mv rfl rfl (WL.pv (PV.zL rfl (by kernel_rfl) (by assumption)) rfl (WL.nil ?_))
 refine WE.cond rfl (fun q4 => ?_) (fun q4 => ?_)
 ·
  try simp only [bU] at q4
  have hz : ¬ (jM l).2 = 0 := by have h_ : iC v2_ = false := q4; rw [ZI] at h_; simpa using h_
  refine WE.aA (WL.mv rfl rfl (WL.as rfl rfl (WL.nil (WE.ret ⟨[_], _, .nil _, ⟨rfl, trivial⟩, ?_⟩))))
  exact ⟨T, _, by rw [hT, if_neg hz], H.kY, H.o 0 rfl, H.o 1 rfl, H.fQ (by exact (H.bK 2 rfl : aH _ (cQ bits T) _)), H.fQ (by exact (H.bK 0 rfl : aH _ (eZ [97, 112, 112, 108, 121] (((jM l).1 : Nat) : Int) (jM l).2 v2_) _))⟩
 ·
  try simp only [bU] at q4
  have hz : (jM l).2 = 0 := by have h_ : iC v2_ = true := q4; rw [ZI] at h_; simpa using h_
  obtain ⟨cs, hSc, hVc, qH, aHG⟩ := hC hz
  have hgu := (tV hz).ch
  have hxc := hgu.1.perm qH
  have aHn := hgu.2.2.perm qH
  have hlc : cs.length = l.length := by rw [← qH.length_eq, List.length_map]
  have aHS : lE m cs = s5 m l := by rw [aAE, SM qH hgu.2.1 hs sU hgu.1]
  replace H := (H.add hVc).add hSc
  refine WE.skip ?_
  refine WE.bG (.take 0 (.take 1 (.take 2 (.take 3 (.take 4 (.take 5 (.take 6 (.take 7 (.take 8 (.aG 9 (.take 10 (.take 11 (.take 12 (.take 13 (.take 14 .done))))))))))))))) mixed (by kernel_rfl) ?_
  replace H := H.out (Out.drew _)
  refine WP.mv rfl rfl rfl (WP.aC rfl rfl (PV.nilCheck rfl rfl) (WP.aC rfl rfl (PV.fieldAddr rfl xE rfl) (WP.aQ rfl rfl (RV.aZ rfl u3 rfl) (aM.aF (H.o 1 rfl) aJ.hd rfl) (WP.mv rfl rfl rfl (WP.aC rfl rfl (PV.nilCheck rfl rfl) (WP.aC rfl rfl (PV.fieldAddr rfl oG rfl) (WP.aQ rfl rfl (RV.aZ rfl gX rfl) (aM.aF (H.o 1 rfl) (aJ.tl aJ.hd rfl) rfl) ?_)))))))
  refine WP.mv rfl rfl rfl (WP.aG rfl ?_)
  refine WL.call aIg rfl (ND (T := T) (m := m) (l := cs) (s := v1_) (bits := bits) H.aS (H.o 0 rfl) (by exact (H.aK 0 rfl 3 rfl : aH _ (fF bh bc bits) _)) (by exact (H.aK 0 rfl 4 rfl : aH _ (cQ bits T) _)) (by exact (H.aK 0 rfl 0 rfl : aH _ (fW v1_ cs) _)) (by exact (H.aK 0 rfl 1 rfl : aH _ (gH cs) _)) (by exact (H.aK 0 rfl 7 rfl : aH _ (aX) _)) bR hT hs sU hxc aHn aHG.chk (by omega)) ?_
  rintro _ w2 ⟨HV, aJc, rfl, Q5, hO, hB, hR⟩
  replace H := H.c9 0 rfl hO hB hR
  refine WL.nil ⟨(fa (nw 9 7) (fa (nw 9 3) c5)), ?_⟩
  refine WP.mv rfl rfl rfl (WP.aC rfl rfl (PV.extract rfl rfl rfl) (WP.aC rfl rfl (PV.extract rfl rfl rfl) (WP.as rfl rfl rfl (WP.as rfl rfl rfl (WP.done (WE.seq (WE.aA ?_)))))))
  refine WL.mv rfl rfl (WL.pv (PV.kV rfl (by kernel_rfl)) rfl (WL.pv (PV.kV rfl (by kernel_rfl)) rfl ?_))
  refine WL.call aIf rfl (aGE H.aS) ?_
  rintro _ w3 ⟨rfl, hO⟩
  replace H := H.out hO
  refine WL.nil ?_
  refine WE.cO rfl rfl ?_
  refine WE.eH (WL.mv rfl rfl (WL.mv rfl rfl (WL.pv (PV.nilCheck rfl rfl) rfl (WL.pv (PV.fieldAddr rfl oG rfl) rfl ?_))))
  refine WL.kZ H 1 rfl rfl rfl (new := [HV.ptr]) rfl (by exact lG) (bE _ rfl) (Laid.at (Laid.tail Laid.head rfl) rfl) rfl ?_
  intro w4 H
  refine WL.nil (WE.aA (WL.mv rfl rfl ?_))
  refine WL.call aBJ rfl (G7 (op := [97, 112, 112, 108, 121]) (ix := 0) (code := 0) H.aS  ) ?_
  rintro v42 w5 ⟨hO, hR⟩
  replace H := (H.out hO).add hR
  refine WL.as rfl rfl (WL.nil (WE.ret ⟨[_], _, .nil _, ⟨rfl, trivial⟩, ?_⟩))
  exact ⟨HV, _, by rw [Q5, if_pos hz, aHS], H.kY, H.o 0 rfl, H.o 1 rfl, H.fQ (by exact (H.bK 1 rfl : aH _ (cQ bits HV) _)), (H.fQ (H.bK 0 rfl)).imp fun _ h => by rw [MN hz, hz]; exact h⟩
end Go.Sp.Tryz
