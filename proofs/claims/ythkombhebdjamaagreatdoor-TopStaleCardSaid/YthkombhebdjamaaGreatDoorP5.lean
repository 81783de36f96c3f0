/- Part of the proof of this claim: walks through the program's functions and the plain laws that they need, printed by a program of this session. -/
import Derived.Test.YthkombhebdjamaaGreatDoorP4
import Derived.Test.YthkombhebdjamaaGreatDoorP3
import Derived.Test.YthkombhebdjamaaGreatDoorP2
import Derived.Test.YthkombhebdjamaaGreatDoorOpen2
set_option maxRecDepth 100000
set_option maxHeartbeats 1000000
set_option linter.unusedVariables false
set_option linter.unusedSimpArgs false
namespace Go.Sp.Tryz
open Go.Proofs Go.RowKit Go.Sp Go.Sp.TryzT Go.Proofs.Tryz
variable {X : Nat → Prop} {w : World}
theorem St.aB3 {X : Nat → Prop} {w0 w : World} {b1 b2 : Nat} {t1 t2 : TypeId} {l1 l2 CK DV : List Value} {L : List aN} {Ps : List (World → Prop)} {p : World → Prop} (H : St X w0 w [aN.blk b1 t1 CK, aN.blk b2 t2 DV] L Ps) (hp : aH (fun c => YY X [aN.blk b1 t1 l1, aN.blk b2 t2 l2] L c ∨ c = b1 ∨ c = b2) p w) : St X w0 w [aN.blk b1 t1 CK, aN.blk b2 t2 DV] L (p :: Ps) :=
 H.add (hp.mono fun c _ hc => by
  rcases hc with hc | ⟨e, he, hb⟩ | hc
  ·
   exact .inl (.inl hc)
  ·
   rcases List.mem_cons.1 he with rfl | he
   ·
    exact .inr (.inl hb)
   ·
    rw [List.mem_singleton.1 he] at hb; exact .inr (.inr hb)
  ·
   exact .inl (.inr (.inr hc)))
theorem eY.rm {m : List En} {k : List UInt8} {w : World} (h : eY m w) : eY (eX m k) w := fun e he => h e (iO.1 he).1
theorem eY.aDe {m : List En} {k v : List UInt8} {s : Value} {w : World} (h : eY m w) (hs : bI s v w) : eY (gJ m ⟨k, s, v⟩) w := fun e he => by
 rcases nA.1 he with rfl | he
 ·
  exact hs
 ·
  exact h e he.1
theorem eY.dG : ∀ (l : List Up) {m : List En} {w : World}, eY m w → dK l w → eY (s5 m l) w
 | [], _, _, h, _ => h
 | u :: l, m, w, h, hu => eY.dG l (m := SL m u) (by
  unfold SL
  split
  ·
   exact h.rm
  ·
   exact h.aDe (hu u (by simp)).2) fun x hx => hu x (List.mem_cons_of_mem _ hx)
def zJ (m : List En) (k : List UInt8) : Bool := decide (k.length = 32) && iE m k
def yC (m : List En) (k : List UInt8) : List UInt8 := if k.length = 32 then gV m k else []
theorem aF0 {m : List En} {o : o7} (h : o.n = 0) : oJ m o = if bV o.k o.v = 0 then gJ m ⟨o.k, o.sv, o.v⟩ else m := by unfold oJ; rw [if_pos h]
theorem aBQ {m : List En} {o : o7} (h : o.n = 1) : oJ m o = m := by unfold oJ; rw [if_neg (by omega), if_pos h]
theorem W6 {m : List En} {o : o7} (h : o.n = 2) : oJ m o = if bV o.k [] = 0 then eX m o.k else m := by unfold oJ; rw [if_neg (by omega), if_neg (by omega), if_pos h]
theorem aFZ {m : List En} {o : o7} (h : o.n ≠ 0 ∧ o.n ≠ 1 ∧ o.n ≠ 2) : oJ m o = if (jM o.b).2 = 0 then s5 m o.b else m := by unfold oJ; rw [if_neg h.1, if_neg h.2.1, if_neg h.2.2]
theorem RX {m : List En} {o : o7} (h : o.n = 2) (hh : zJ m o.k = true) : oJ m o = eX m o.k := by
 unfold zJ at hh
 simp at hh
 rw [W6 h, gO, if_pos hh.1, if_pos rfl]
theorem RW {m : List En} {o : o7} (h : o.n = 2) (hh : zJ m o.k = false) : oJ m o = m := by
 unfold zJ at hh
 rw [W6 h, gO]
 by_cases hk : o.k.length = 32
 ·
  rw [if_pos hk, if_pos rfl]
  rw [decide_eq_true hk, Bool.true_and] at hh
  exact A3 hh
 ·
  rw [if_neg hk, if_neg (by decide)]
theorem aGK {X : Nat → Prop} {w : World} {bt bh bc : Nat} {bits c0 : Int} {T : Tr} {m : List En} {s2 : Value} {o : o7} {nn : Nat} (hX : cU X w) (eT : aM w bc 213 ([.int .i64 c0])) (yE : aM w bt 90 ([.pointer (some ⟨bh, 0, none⟩), T.ptr])) (bT : aH (fun c_ => X c_ ∨ c_ = bc ∨ c_ = bt) (fF bh bc bits) w) (dA : aH (fun c_ => X c_ ∨ c_ = bc ∨ c_ = bt) (cQ bits T) w) (fN : aH (fun c_ => X c_ ∨ c_ = bc ∨ c_ = bt) (fY s2 m) w) (jO : aH (fun c_ => X c_ ∨ c_ = bc ∨ c_ = bt) (eY m) w) (nE : aH (fun c_ => X c_ ∨ c_ = bc ∨ c_ = bt) (OV o) w) (rJ : aH (fun c_ => X c_ ∨ c_ = bc ∨ c_ = bt) (aX) w) (CM : aH (fun c_ => X c_ ∨ c_ = bc ∨ c_ = bt) (dZ) w) (hne : bc ≠ bt) (bR : 0 ≤ bits ∧ bits ≤ 256) (hT : T.er = grow 0 m) (rI : dY nn m) (ZH : nn ≤ 500) (ZO : o.k.length ≤ 100) (ZB : o.v.length ≤ 70000) (G0 : CH o.b) (hn : o.n = 0) :
  bF prog 17 [.pointer (some ⟨bt, 0, none⟩), s2, .agg (yO o).toArray].toArray w fun v w' => ∃ (T' : Tr) (c' : Int) (s3 : Value), v = .tuple [s3, .bool false].toArray ∧ T'.er = grow 0 (oJ m o) ∧ Out (fun c => c = bc ∨ c = bt) w w' ∧ aM w' bc 213 [.int .i64 c'] ∧ aM w' bt 90 [.pointer (some ⟨bh, 0, none⟩), T'.ptr] ∧ aH (fun c => X c ∨ c = bc ∨ c = bt) (cQ bits T') w' ∧ aH (fun c => X c ∨ c = bc ∨ c = bt) (fY s3 (oJ m o)) w' ∧ aH (fun c => X c ∨ c = bc ∨ c = bt) (eY (oJ m o)) w' := by
 refine bF.aI (N := 132) func17 rfl rfl (by simp) ?_
 have H := St.rD (b1 := bc) (b2 := bt) (t1 := 213) (t2 := 90) (l1 := [.int .i64 c0]) (l2 := [.pointer (some ⟨bh, 0, none⟩), T.ptr]) hX eT yE hne
 replace H := H.add (gI CM)
 replace H := H.add (gI rJ)
 replace H := H.add (gI nE)
 replace H := H.add (gI jO)
 replace H := H.add (gI fN)
 replace H := H.add (gI dA)
 replace H := H.add (gI bT)
 have D3 := o4.of (jO.here)
 have hs := rI.s
 have sU := rI.k
 have yS := rI.l
 have tL : (List.replicate 32 (0 : UInt8)).length = 32 := List.length_replicate
 refine WE.aA ?_
 refine WL.box (l := yO o) H rfl rfl rfl ?_
 intro b5 w1 H
 refine WL.as rfl rfl (WL.as rfl rfl (WL.nil (WE.seq (WE.aA (WL.pv (PV.fieldAddr rfl tQ rfl) rfl (WL.aY rfl oZ rfl rfl (aM.aF (H.l 0 rfl) aJ.hd rfl) (WL.nil ?_)))))))
 refine WE.block (WE.aA (WL.pv (PV.eql rfl rfl rfl) rfl (WL.as rfl rfl (WL.nil ?_))))
 refine WE.cO rfl (by simp [hn]) ?_
 refine WE.aA (WL.pv (PV.fieldAddr rfl lM rfl) rfl (WL.aY rfl eN rfl rfl (aM.aF (H.l 0 rfl) (aJ.tl aJ.hd rfl) rfl) (WL.pv (PV.fieldAddr rfl B3 rfl) rfl (WL.aY rfl eN rfl rfl (aM.aF (H.l 0 rfl) (aJ.tl (aJ.tl aJ.hd rfl) rfl) rfl) ?_))))
 refine WL.call WU rfl (n5 (lb := o.k) (vv := o.v) H.aS (by exact (H.bK 4 rfl : aH _ (OV o) _).imp fun _ h => h.1) (by exact (H.bK 4 rfl : aH _ (OV o) _).imp fun _ h => h.2.1)) ?_
 rintro _ w2 ⟨rfl, hO⟩
 replace H := H.out hO
 refine WL.as rfl rfl (WL.nil (WE.seq (WE.aA (WL.mv rfl rfl (WL.pv (PV.fieldAddr rfl lM rfl) rfl (WL.aY rfl eN rfl rfl (aM.aF (H.l 0 rfl) (aJ.tl aJ.hd rfl) rfl) (WL.pv (PV.fieldAddr rfl B3 rfl) rfl ?_)))))))
 refine WL.aY rfl eN rfl rfl (aM.aF (H.l 0 rfl) (aJ.tl (aJ.tl aJ.hd rfl) rfl) rfl) ?_
 refine WL.call aFf rfl (SY (bt := bt) (bh := bh) (bc := bc) (bits := bits) (T := T) (m := m) (s := o.sk) (sv := o.sv) (lb := o.k) (vv := o.v) H.aS (H.o 0 rfl) (H.o 1 rfl) (by exact (H.l8 0 rfl : aH _ (fF bh bc bits) _)) (by exact (H.l8 1 rfl : aH _ (cQ bits T) _)) (by exact (H.l8 4 rfl : aH _ (OV o) _).imp fun _ h => h.1) (by exact (H.l8 4 rfl : aH _ (OV o) _).imp fun _ h => h.2.1) (by exact (H.l8 5 rfl : aH _ (aX) _)) hne bR hT hs sU (by omega) (by omega) (by omega)) ?_
 rintro aAf w3 ⟨XV, aJJ, ZU, hO, xB, rK, hR, aEs⟩
 have H_ := H.tW hO xB rK hR
 replace H := St.aB3 H_ aEs
 refine WL.mv rfl rfl ?_
 refine WL.call WT rfl (u6 (op := [112, 117, 116]) (ix := 0) (code := bV o.k o.v) (ev := aAf) H.aS (by exact (H.bK 8 rfl : aH _ (dZ) _)) (by exact (H.bK 0 rfl : aH _ (eZ [112, 117, 116] 0 (bV o.k o.v) aAf) _))) ?_
 rintro _ w4 ⟨rfl, hO⟩
 replace H := H.out hO
 refine WL.nil ?_
 refine WE.bB rfl rfl ?_
 refine WE.skip (WE.seq (WE.aA (WL.mv rfl rfl (WL.pv (PV.neq rfl rfl rfl) rfl (WL.nil ?_)))))
 refine WE.cond rfl (fun xA => ?_) (fun xA => ?_)
 ·
  try simp only [bU] at xA
  have hz : ¬ bV o.k o.v = 0 := by exact xA
  have BR : oJ m o = m := by rw [aF0 hn, if_neg hz]
  refine WE.aA (WL.mv rfl rfl (WL.as rfl rfl (WL.as rfl rfl (WL.nil (WE.ret ⟨[_, _], _, .nil _, ⟨rfl, rfl, trivial⟩, ?_⟩)))))
  refine ⟨XV, _, s2, ?_, ?_, H.kY, H.o 0 rfl, H.o 1 rfl, H.fQ (by exact (H.bK 1 rfl : aH _ (cQ bits XV) _)), ?_, ?_⟩
  ·
   rfl
  ·
   rw [ZU, if_neg hz, BR]
  ·
   rw [BR]; exact H.fQ (by exact (H.bK 4 rfl : aH _ (fY s2 m) _))
  ·
   rw [BR]; exact H.fQ (by exact (H.bK 5 rfl : aH _ (eY m) _))
 ·
  try simp only [bU] at xA
  have hz : bV o.k o.v = 0 := by exact xA
  have BR : oJ m o = gJ m ⟨o.k, o.sv, o.v⟩ := by rw [aF0 hn, if_pos hz]
  have ZN := (c8.1 hz).1
  have aIS := (c8.1 hz).2
  refine WE.skip ?_
  refine WE.bG (.take 0 (.take 1 (.take 2 (.take 4 (.take 5 (.aG 3 (.aG 6 (.take 7 (.take 8 .done))))))))) mixed (by kernel_rfl) ?_
  replace H := H.out (Out.drew _)
  refine WP.mv rfl rfl rfl (WP.aC rfl rfl (PV.fieldAddr rfl lM rfl) (WP.aQ rfl rfl (RV.aZ rfl eN rfl) (aM.aF (H.l 0 rfl) (aJ.tl aJ.hd rfl) rfl) (WP.aC rfl rfl (PV.fieldAddr rfl B3 rfl) (WP.aQ rfl rfl (RV.aZ rfl eN rfl) (aM.aF (H.l 0 rfl) (aJ.tl (aJ.tl aJ.hd rfl) rfl) rfl) (WP.aG rfl ?_)))))
  refine WL.call RH rfl (rY (lb := o.k) H.aS (by exact (H.bK 6 rfl : aH _ (OV o) _).imp fun _ h => h.1) ZN) ?_
  rintro _ w5 ⟨rfl, hO⟩
  replace H := H.out hO
  refine WL.nil ⟨(fa (rk hO) (fa (nw 3 2) c5)), ?_⟩
  refine WP.aG rfl ?_
  refine WL.call aEO rfl (aAt (s := s2) (m := m) (q := o.k) (vv := o.v) H.aS (by exact (H.bK 4 rfl : aH _ (fY s2 m) _)) (by exact (H.bK 6 rfl : aH _ (OV o) _).imp fun _ h => h.2.1) sU D3 (by omega) ZN) ?_
  rintro v46 w6 ⟨hO, hR⟩
  replace H := (H.out hO).add (show aH _ (fY v46 (gJ m ⟨o.k, o.sv, o.v⟩)) _ from hR)
  refine WL.nil ⟨(fa (nw 6 5) (fa (nw 6 2) c5)), ?_⟩
  refine WP.as rfl rfl rfl (WP.as rfl rfl rfl (WP.done (WE.ret ⟨[_, _], _, .nil _, ⟨rfl, rfl, trivial⟩, ?_⟩)))
  refine ⟨XV, _, v46, ?_, ?_, H.kY, H.o 0 rfl, H.o 1 rfl, H.fQ (by exact (H.bK 2 rfl : aH _ (cQ bits XV) _)), ?_, ?_⟩
  ·
   rfl
  ·
   rw [ZU, if_pos hz, BR]
  ·
   rw [BR]; exact H.fQ (by exact (H.bK 0 rfl : aH _ (fY v46 (gJ m ⟨o.k, o.sv, o.v⟩)) _))
  ·
   rw [BR]; exact (H.fQ (aH.and (show aH _ (eY m) _ from (by exact (H.bK 6 rfl : aH _ (eY m) _))) (show aH _ (OV o) _ from (by exact (H.bK 7 rfl : aH _ (OV o) _))))).imp fun _ h => eY.aDe h.1 h.2.2.1
theorem aGJ {X : Nat → Prop} {w : World} {bt bh bc : Nat} {bits c0 : Int} {T : Tr} {m : List En} {s2 : Value} {o : o7} {nn : Nat} (hX : cU X w) (eT : aM w bc 213 ([.int .i64 c0])) (yE : aM w bt 90 ([.pointer (some ⟨bh, 0, none⟩), T.ptr])) (bT : aH (fun c_ => X c_ ∨ c_ = bc ∨ c_ = bt) (fF bh bc bits) w) (dA : aH (fun c_ => X c_ ∨ c_ = bc ∨ c_ = bt) (cQ bits T) w) (fN : aH (fun c_ => X c_ ∨ c_ = bc ∨ c_ = bt) (fY s2 m) w) (jO : aH (fun c_ => X c_ ∨ c_ = bc ∨ c_ = bt) (eY m) w) (nE : aH (fun c_ => X c_ ∨ c_ = bc ∨ c_ = bt) (OV o) w) (rJ : aH (fun c_ => X c_ ∨ c_ = bc ∨ c_ = bt) (aX) w) (CM : aH (fun c_ => X c_ ∨ c_ = bc ∨ c_ = bt) (dZ) w) (hne : bc ≠ bt) (bR : 0 ≤ bits ∧ bits ≤ 256) (hT : T.er = grow 0 m) (rI : dY nn m) (ZH : nn ≤ 500) (ZO : o.k.length ≤ 100) (ZB : o.v.length ≤ 70000) (G0 : CH o.b) (hn : o.n = 1) :
  bF prog 17 [.pointer (some ⟨bt, 0, none⟩), s2, .agg (yO o).toArray].toArray w fun v w' => ∃ (T' : Tr) (c' : Int) (s3 : Value), v = .tuple [s3, .bool false].toArray ∧ T'.er = grow 0 (oJ m o) ∧ Out (fun c => c = bc ∨ c = bt) w w' ∧ aM w' bc 213 [.int .i64 c'] ∧ aM w' bt 90 [.pointer (some ⟨bh, 0, none⟩), T'.ptr] ∧ aH (fun c => X c ∨ c = bc ∨ c = bt) (cQ bits T') w' ∧ aH (fun c => X c ∨ c = bc ∨ c = bt) (fY s3 (oJ m o)) w' ∧ aH (fun c => X c ∨ c = bc ∨ c = bt) (eY (oJ m o)) w' := by
 refine bF.aI (N := 132) func17 rfl rfl (by simp) ?_
 have H := St.rD (b1 := bc) (b2 := bt) (t1 := 213) (t2 := 90) (l1 := [.int .i64 c0]) (l2 := [.pointer (some ⟨bh, 0, none⟩), T.ptr]) hX eT yE hne
 replace H := H.add (gI CM)
 replace H := H.add (gI rJ)
 replace H := H.add (gI nE)
 replace H := H.add (gI jO)
 replace H := H.add (gI fN)
 replace H := H.add (gI dA)
 replace H := H.add (gI bT)
 have D3 := o4.of (jO.here)
 have hs := rI.s
 have sU := rI.k
 have yS := rI.l
 have tL : (List.replicate 32 (0 : UInt8)).length = 32 := List.length_replicate
 refine WE.aA ?_
 refine WL.box (l := yO o) H rfl rfl rfl ?_
 intro b5 w1 H
 refine WL.as rfl rfl (WL.as rfl rfl (WL.nil (WE.seq (WE.aA (WL.pv (PV.fieldAddr rfl tQ rfl) rfl (WL.aY rfl oZ rfl rfl (aM.aF (H.l 0 rfl) aJ.hd rfl) (WL.nil ?_)))))))
 refine WE.block (WE.aA (WL.pv (PV.eql rfl rfl rfl) rfl (WL.as rfl rfl (WL.nil ?_))))
 refine WE.bB rfl (by simp [hn]) ?_
 refine WE.seq (WE.aA (WL.pv (PV.eql rfl rfl rfl) rfl (WL.as rfl rfl (WL.nil ?_))))
 refine WE.cO rfl (by simp [hn]) ?_
 refine WE.skip ?_
 refine WE.cO rfl (by simp [hn]) ?_
 refine WE.aA (WL.pv (PV.fieldAddr rfl lM rfl) rfl (WL.aY rfl eN rfl rfl (aM.aF (H.l 0 rfl) (aJ.tl aJ.hd rfl) rfl) ?_))
 refine WL.call WU rfl (n5 (lb := o.k) (vv := []) H.aS (by exact (H.bK 4 rfl : aH _ (OV o) _).imp fun _ h => h.1) (fun w_ _ => bI.nil w_)) ?_
 rintro _ w2 ⟨rfl, hO⟩
 replace H := H.out hO
 refine WL.as rfl rfl (WL.nil (WE.aA (WL.as rfl rfl (WL.nil (WE.aA (WL.as rfl rfl (WL.nil ?_)))))))
 refine WE.cut (α := Value) (rg [(10, 2), (53, 10)]) (fun nH => [(10, nH), (11, .bool (zJ m o.k))]) (fun nH wl => St X w wl [aN.blk bc 213 [.int .i64 c0], aN.blk bt 90 [.pointer (some ⟨bh, 0, none⟩), T.ptr]] [aN.blk b5 56 (yO o)] [bI nH (yC m o.k), fF bh bc bits, cQ bits T, fY s2 m, eY m, OV o, aX, dZ]) ?_ ?_
 ·
  refine WE.aA (WL.mv rfl rfl (WL.pv (PV.eql rfl rfl rfl) rfl (WL.nil ?_)))
  refine WE.cond rfl (fun wZ => ?_) (fun wZ => ?_)
  ·
   try simp only [bU] at wZ
   have GP : bV o.k [] = 0 := by exact wZ
   have oX := (c8.1 GP).1
   have hoh : iE m o.k = zJ m o.k := by unfold zJ; rw [decide_eq_true oX, Bool.true_and]
   have vC : gV m o.k = yC m o.k := by unfold yC; rw [if_pos oX]
   refine WE.eH (WL.mv rfl rfl (WL.pv (PV.fieldAddr rfl lM rfl) rfl (WL.aY rfl eN rfl rfl (aM.aF (H.l 0 rfl) (aJ.tl aJ.hd rfl) rfl) ?_)))
   refine WL.call RH rfl (rY (lb := o.k) H.aS (by exact (H.bK 4 rfl : aH _ (OV o) _).imp fun _ h => h.1) oX) ?_
   rintro _ w3 ⟨rfl, hO⟩
   replace H := H.out hO
   refine WL.call aBM rfl (tF (s := s2) (m := m) (k := o.k) H.aS (by exact (H.bK 2 rfl : aH _ (fY s2 m) _)) sU (by omega) oX) ?_
   rintro _ w4 ⟨rfl, hO⟩
   replace H := H.out hO
   replace H := H.add (show aH _ (bI (gS m o.k) (gV m o.k)) _ from ((by exact (H.bK 3 rfl : aH _ (eY m) _)) : aH _ (eY m) _).imp fun _ h => G3 h _)
   refine WL.mv rfl rfl (WL.pv (PV.extract rfl rfl rfl) rfl (WL.pv (PV.extract rfl rfl rfl) rfl (WL.as rfl rfl (WL.as rfl rfl (WL.nil ?_)))))
   exact ⟨(gS m o.k), (by repeat (first | with_reducible exact bQ.refl _ _ | refine bQ.dG rfl ?_)), ⟨rfl, (by (show Value.bool _ = _; rw [hoh])), trivial⟩, rfl, (show St X w _ _ _ [bI (gS m o.k) (yC m o.k), _, _, _, _, _, _, _] by rw [← vC]; exact H)⟩
  ·
   try simp only [bU] at wZ
   have GP : ¬ bV o.k [] = 0 := by exact wZ
   have oX : ¬ o.k.length = 32 := fun h => GP (by rw [gO, if_pos h])
   have hoh : false = zJ m o.k := by unfold zJ; rw [decide_eq_false oX]; rfl
   have vC : yC m o.k = [] := by unfold yC; rw [if_neg oX]
   refine WE.skip ?_
   exact ⟨(.slice none 0 0), (by repeat (first | with_reducible exact bQ.refl _ _ | refine bQ.dG rfl ?_)), ⟨rfl, (by (show Value.bool _ = _; rw [hoh])), trivial⟩, rfl, H.add (show aH _ (bI (.slice none 0 0) (yC m o.k)) _ from fun w_ _ => by rw [vC]; exact bI.nil w_)⟩
 ·
  intro nH γ w5 hI
  try dsimp only at hI
  replace H := hI
  refine WE.seq (WE.aA (WL.pv (PV.fieldAddr rfl tQ rfl) rfl (WL.aY rfl oZ rfl rfl (aM.aF (H.l 0 rfl) aJ.hd rfl) (WL.pv (PV.eql rfl rfl rfl) rfl (WL.nil ?_)))))
  refine WE.cO rfl (by simp [hn]) ?_
  refine WE.aA (WL.mv rfl rfl (WL.pv (PV.fieldAddr rfl lM rfl) rfl (WL.aY rfl eN rfl rfl (aM.aF (H.l 0 rfl) (aJ.tl aJ.hd rfl) rfl) ?_)))
  refine WL.call aIu rfl (aB7 (bt := bt) (bh := bh) (bits := bits) (T := T) (m := m) (s := o.sk) (lb := o.k) H.aS (H.o 1 rfl) (by exact (H.aK 1 rfl 2 rfl : aH _ (cQ bits T) _)) (by exact (H.aK 1 rfl 5 rfl : aH _ (OV o) _).imp fun _ h => h.1) hT hs sU (by omega) (by omega)) ?_
  rintro _ w6 ⟨aCP, aBP, rfl, hO, G1, EF⟩
  replace H := H.out hO
  replace H := (H.add (show aH _ (bI aCP (yC m o.k)) _ from (G1.mono fun _ _ h_ => .inl h_))).add (show aH _ (eZ [103, 101, 116] 0 (bV o.k []) aBP) _ from (EF.mono fun _ _ h_ => .inl h_))
  refine WL.mv rfl rfl (WL.pv (PV.extract rfl rfl rfl) rfl (WL.pv (PV.extract rfl rfl rfl) rfl (WL.pv (PV.extract rfl rfl rfl) rfl (WL.as rfl rfl (WL.as rfl rfl (WL.as rfl rfl (WL.nil ?_)))))))
  refine WE.aA (WL.mv rfl rfl (WL.mv rfl rfl (WL.mv rfl rfl ?_)))
  refine WL.call WT rfl (u6 (op := [103, 101, 116]) (ix := 0) (code := (bV o.k [])) (ev := aBP) H.aS (by exact (H.bK 9 rfl : aH _ (dZ) _)) (by exact (H.bK 0 rfl : aH _ (eZ [103, 101, 116] 0 ((bV o.k [])) aBP) _))) ?_
  rintro _ w7 ⟨rfl, hO⟩
  replace H := H.out hO
  refine WL.mv rfl rfl (WL.known (t := 78) (c := false) rfl rfl (WL.mv rfl rfl (WL.mv rfl rfl (WL.pv (PV.aDp rfl bo4 rfl rfl) rfl (WL.pv (PV.cZ rfl rfl rfl) rfl (WL.mv rfl rfl ?_))))))
  refine WL.known (t := 83) (c := false) rfl (by simp [zJ]) ?_
  refine WL.mv rfl rfl (WL.mv rfl rfl ?_)
  refine WL.call aEN rfl (S8 (la := yC m o.k) (lb := yC m o.k) H.aS (by exact (H.bK 1 rfl : aH _ (bI aCP (yC m o.k)) _)) (by exact (H.bK 2 rfl : aH _ (bI nH (yC m o.k)) _)) (by have := aBE rI.short o.k; unfold yC; split; omega; simp)) ?_
  rintro _ w8 ⟨rfl, hO⟩
  replace H := H.out hO
  refine WL.pv (PV.not rfl rfl) rfl (WL.pv (PV.cZ rfl rfl rfl) rfl (WL.as rfl rfl (WL.as rfl rfl (WL.nil (WE.ret ⟨[_, _], _, .nil _, ⟨rfl, rfl, trivial⟩, ?_⟩)))))
  refine ⟨T, _, s2, ?_, ?_, H.kY, H.o 0 rfl, H.o 1 rfl, H.fQ (by exact (H.bK 4 rfl : aH _ (cQ bits T) _)), ?_, ?_⟩
  ·
   show Value.tuple [s2, .bool (!decide (yC m o.k = yC m o.k))].toArray = _; simp
  ·
   rw [hT, aBQ hn]
  ·
   rw [aBQ hn]; exact H.fQ (by exact (H.bK 5 rfl : aH _ (fY s2 m) _))
  ·
   rw [aBQ hn]; exact H.fQ (by exact (H.bK 6 rfl : aH _ (eY m) _))
theorem aGI {X : Nat → Prop} {w : World} {bt bh bc : Nat} {bits c0 : Int} {T : Tr} {m : List En} {s2 : Value} {o : o7} {nn : Nat} (hX : cU X w) (eT : aM w bc 213 ([.int .i64 c0])) (yE : aM w bt 90 ([.pointer (some ⟨bh, 0, none⟩), T.ptr])) (bT : aH (fun c_ => X c_ ∨ c_ = bc ∨ c_ = bt) (fF bh bc bits) w) (dA : aH (fun c_ => X c_ ∨ c_ = bc ∨ c_ = bt) (cQ bits T) w) (fN : aH (fun c_ => X c_ ∨ c_ = bc ∨ c_ = bt) (fY s2 m) w) (jO : aH (fun c_ => X c_ ∨ c_ = bc ∨ c_ = bt) (eY m) w) (nE : aH (fun c_ => X c_ ∨ c_ = bc ∨ c_ = bt) (OV o) w) (rJ : aH (fun c_ => X c_ ∨ c_ = bc ∨ c_ = bt) (aX) w) (CM : aH (fun c_ => X c_ ∨ c_ = bc ∨ c_ = bt) (dZ) w) (hne : bc ≠ bt) (bR : 0 ≤ bits ∧ bits ≤ 256) (hT : T.er = grow 0 m) (rI : dY nn m) (ZH : nn ≤ 500) (ZO : o.k.length ≤ 100) (ZB : o.v.length ≤ 70000) (G0 : CH o.b) (hn : o.n = 2) :
  bF prog 17 [.pointer (some ⟨bt, 0, none⟩), s2, .agg (yO o).toArray].toArray w fun v w' => ∃ (T' : Tr) (c' : Int) (s3 : Value), v = .tuple [s3, .bool false].toArray ∧ T'.er = grow 0 (oJ m o) ∧ Out (fun c => c = bc ∨ c = bt) w w' ∧ aM w' bc 213 [.int .i64 c'] ∧ aM w' bt 90 [.pointer (some ⟨bh, 0, none⟩), T'.ptr] ∧ aH (fun c => X c ∨ c = bc ∨ c = bt) (cQ bits T') w' ∧ aH (fun c => X c ∨ c = bc ∨ c = bt) (fY s3 (oJ m o)) w' ∧ aH (fun c => X c ∨ c = bc ∨ c = bt) (eY (oJ m o)) w' := by
 refine bF.aI (N := 132) func17 rfl rfl (by simp) ?_
 have H := St.rD (b1 := bc) (b2 := bt) (t1 := 213) (t2 := 90) (l1 := [.int .i64 c0]) (l2 := [.pointer (some ⟨bh, 0, none⟩), T.ptr]) hX eT yE hne
 replace H := H.add (gI CM)
 replace H := H.add (gI rJ)
 replace H := H.add (gI nE)
 replace H := H.add (gI jO)
 replace H := H.add (gI fN)
 replace H := H.add (gI dA)
 replace H := H.add (gI bT)
 have D3 := o4.of (jO.here)
 have hs := rI.s
 have sU := rI.k
 have yS := rI.l
 have tL : (List.replicate 32 (0 : UInt8)).length = 32 := List.length_replicate
 refine WE.aA ?_
 refine WL.box (l := yO o) H rfl rfl rfl ?_
 intro b5 w1 H
 refine WL.as rfl rfl (WL.as rfl rfl (WL.nil (WE.seq (WE.aA (WL.pv (PV.fieldAddr rfl tQ rfl) rfl (WL.aY rfl oZ rfl rfl (aM.aF (H.l 0 rfl) aJ.hd rfl) (WL.nil ?_)))))))
 refine WE.block (WE.aA (WL.pv (PV.eql rfl rfl rfl) rfl (WL.as rfl rfl (WL.nil ?_))))
 refine WE.bB rfl (by simp [hn]) ?_
 refine WE.seq (WE.aA (WL.pv (PV.eql rfl rfl rfl) rfl (WL.as rfl rfl (WL.nil ?_))))
 refine WE.bB rfl (by simp [hn]) ?_
 refine WE.eH (WL.pv (PV.eql rfl rfl rfl) rfl (WL.as rfl rfl (WL.nil ?_)))
 refine WE.cO rfl (by simp [hn]) ?_
 refine WE.aA (WL.pv (PV.fieldAddr rfl lM rfl) rfl (WL.aY rfl eN rfl rfl (aM.aF (H.l 0 rfl) (aJ.tl aJ.hd rfl) rfl) ?_))
 refine WL.call WU rfl (n5 (lb := o.k) (vv := []) H.aS (by exact (H.bK 4 rfl : aH _ (OV o) _).imp fun _ h => h.1) (fun w_ _ => bI.nil w_)) ?_
 rintro _ w2 ⟨rfl, hO⟩
 replace H := H.out hO
 refine WL.as rfl rfl (WL.nil (WE.aA (WL.as rfl rfl (WL.nil (WE.aA (WL.as rfl rfl (WL.nil ?_)))))))
 refine WE.cut (α := Value) (rg [(10, 2), (53, 10)]) (fun nH => [(10, nH), (11, .bool (zJ m o.k))]) (fun nH wl => St X w wl [aN.blk bc 213 [.int .i64 c0], aN.blk bt 90 [.pointer (some ⟨bh, 0, none⟩), T.ptr]] [aN.blk b5 56 (yO o)] [bI nH (yC m o.k), fF bh bc bits, cQ bits T, fY s2 m, eY m, OV o, aX, dZ]) ?_ ?_
 ·
  refine WE.aA (WL.mv rfl rfl (WL.pv (PV.eql rfl rfl rfl) rfl (WL.nil ?_)))
  refine WE.cond rfl (fun wZ => ?_) (fun wZ => ?_)
  ·
   try simp only [bU] at wZ
   have GP : bV o.k [] = 0 := by exact wZ
   have oX := (c8.1 GP).1
   have hoh : iE m o.k = zJ m o.k := by unfold zJ; rw [decide_eq_true oX, Bool.true_and]
   have vC : gV m o.k = yC m o.k := by unfold yC; rw [if_pos oX]
   refine WE.eH (WL.mv rfl rfl (WL.pv (PV.fieldAddr rfl lM rfl) rfl (WL.aY rfl eN rfl rfl (aM.aF (H.l 0 rfl) (aJ.tl aJ.hd rfl) rfl) ?_)))
   refine WL.call RH rfl (rY (lb := o.k) H.aS (by exact (H.bK 4 rfl : aH _ (OV o) _).imp fun _ h => h.1) oX) ?_
   rintro _ w3 ⟨rfl, hO⟩
   replace H := H.out hO
   refine WL.call aBM rfl (tF (s := s2) (m := m) (k := o.k) H.aS (by exact (H.bK 2 rfl : aH _ (fY s2 m) _)) sU (by omega) oX) ?_
   rintro _ w4 ⟨rfl, hO⟩
   replace H := H.out hO
   replace H := H.add (show aH _ (bI (gS m o.k) (gV m o.k)) _ from ((by exact (H.bK 3 rfl : aH _ (eY m) _)) : aH _ (eY m) _).imp fun _ h => G3 h _)
   refine WL.mv rfl rfl (WL.pv (PV.extract rfl rfl rfl) rfl (WL.pv (PV.extract rfl rfl rfl) rfl (WL.as rfl rfl (WL.as rfl rfl (WL.nil ?_)))))
   exact ⟨(gS m o.k), (by repeat (first | with_reducible exact bQ.refl _ _ | refine bQ.dG rfl ?_)), ⟨rfl, (by (show Value.bool _ = _; rw [hoh])), trivial⟩, rfl, (show St X w _ _ _ [bI (gS m o.k) (yC m o.k), _, _, _, _, _, _, _] by rw [← vC]; exact H)⟩
  ·
   try simp only [bU] at wZ
   have GP : ¬ bV o.k [] = 0 := by exact wZ
   have oX : ¬ o.k.length = 32 := fun h => GP (by rw [gO, if_pos h])
   have hoh : false = zJ m o.k := by unfold zJ; rw [decide_eq_false oX]; rfl
   have vC : yC m o.k = [] := by unfold yC; rw [if_neg oX]
   refine WE.skip ?_
   exact ⟨(.slice none 0 0), (by repeat (first | with_reducible exact bQ.refl _ _ | refine bQ.dG rfl ?_)), ⟨rfl, (by (show Value.bool _ = _; rw [hoh])), trivial⟩, rfl, H.add (show aH _ (bI (.slice none 0 0) (yC m o.k)) _ from fun w_ _ => by rw [vC]; exact bI.nil w_)⟩
 ·
  intro nH γ w5 hI
  try dsimp only at hI
  replace H := hI
  refine WE.seq (WE.aA (WL.pv (PV.fieldAddr rfl tQ rfl) rfl (WL.aY rfl oZ rfl rfl (aM.aF (H.l 0 rfl) aJ.hd rfl) (WL.pv (PV.eql rfl rfl rfl) rfl (WL.nil ?_)))))
  refine WE.bB rfl (by simp [hn]) ?_
  refine WE.skip (WE.aA (WL.mv rfl rfl (WL.pv (PV.fieldAddr rfl lM rfl) rfl (WL.aY rfl eN rfl rfl (aM.aF (H.l 0 rfl) (aJ.tl aJ.hd rfl) rfl) ?_))))
  refine WL.call aIt rfl (aB8 (bt := bt) (bh := bh) (bc := bc) (bits := bits) (T := T) (m := m) (s := o.sk) (lb := o.k) H.aS (H.o 0 rfl) (H.o 1 rfl) (by exact (H.l8 1 rfl : aH _ (fF bh bc bits) _)) (by exact (H.l8 2 rfl : aH _ (cQ bits T) _)) (by exact (H.l8 5 rfl : aH _ (OV o) _).imp fun _ h => h.1) (by exact (H.l8 6 rfl : aH _ (aX) _)) hne bR hT hs sU (by omega) (by omega)) ?_
  rintro _ w6 ⟨XU, aIw, RS, rfl, aD5, hO, xB, rK, hR, aEr⟩
  have H_ := H.tW hO xB rK hR
  replace H := St.aB3 H_ aEr
  refine WL.mv rfl rfl (WL.pv (PV.extract rfl rfl rfl) rfl (WL.pv (PV.extract rfl rfl rfl) rfl (WL.as rfl rfl (WL.as rfl rfl (WL.nil ?_)))))
  refine WE.cut (α := Value) (rg [(1, 1), (96, 6)]) (fun g2_ => [(1, g2_)]) (fun g2_ wl => St X w wl [aN.blk bc 213 [.int .i64 aIw], aN.blk bt 90 [.pointer (some ⟨bh, 0, none⟩), XU.ptr]] [aN.blk b5 56 (yO o)] [fY g2_ (oJ m o), eZ [100, 101, 108, 101, 116, 101] 0 (bV o.k []) RS, cQ bits XU, eY m, dZ]) ?_ ?_
  ·
   refine WE.aA (WL.mv rfl rfl (WL.nil ?_))
   refine WE.cond rfl (fun QR => ?_) (fun QR => ?_)
   ·
    try simp only [bU] at QR
    have hh : zJ m o.k = true := by exact QR
    have BR := RX hn hh
    have oX : o.k.length = 32 := by unfold zJ at hh; simp at hh; exact hh.1
    refine WE.eH (WL.mv rfl rfl (WL.pv (PV.fieldAddr rfl lM rfl) rfl (WL.aY rfl eN rfl rfl (aM.aF (H.l 0 rfl) (aJ.tl aJ.hd rfl) rfl) ?_)))
    refine WL.call RH rfl (rY (lb := o.k) H.aS (by exact (H.bK 7 rfl : aH _ (OV o) _).imp fun _ h => h.1) oX) ?_
    rintro _ w7 ⟨rfl, hO⟩
    replace H := H.out hO
    refine WL.call aBL rfl (xZ (m := m) (q := o.k) H.aS (by exact (H.bK 5 rfl : aH _ (fY s2 m) _)) sU D3 (by omega) oX) ?_
    rintro aAB w8 ⟨hO, hR⟩
    replace H := (H.out hO).add (show aH _ (fY aAB (eX m o.k)) _ from hR)
    refine WL.as rfl rfl (WL.nil ?_)
    exact ⟨aAB, (by repeat (first | with_reducible exact bQ.refl _ _ | refine bQ.dG rfl ?_)), ⟨rfl, trivial⟩, rfl, (show St X w _ _ _ [fY aAB (oJ m o), _, _, _, _] by rw [BR]; exact H.sS [0, 1, 2, 7, 10])⟩
   ·
    try simp only [bU] at QR
    have hh : zJ m o.k = false := by exact QR
    have BR := RW hn hh
    refine WE.skip ?_
    exact ⟨s2, (by repeat (first | with_reducible exact bQ.refl _ _ | refine bQ.dG rfl ?_)), ⟨rfl, trivial⟩, rfl, (show St X w _ _ _ [fY s2 (oJ m o), _, _, _, _] by rw [BR]; exact H.sS [5, 0, 1, 6, 9])⟩
  ·
   intro g2_ γ w9 hI
   try dsimp only at hI
   replace H := hI
   refine WE.aA (WL.mv rfl rfl (WL.mv rfl rfl (WL.mv rfl rfl ?_)))
   refine WL.call WT rfl (u6 (op := [100, 101, 108, 101, 116, 101]) (ix := 0) (code := (bV o.k [])) (ev := RS) H.aS (by exact (H.bK 4 rfl : aH _ (dZ) _)) (by exact (H.bK 1 rfl : aH _ (eZ [100, 101, 108, 101, 116, 101] 0 ((bV o.k [])) RS) _))) ?_
   rintro _ vR ⟨rfl, hO⟩
   replace H := H.out hO
   refine WL.mv rfl rfl (WL.known (t := 106) (c := false) rfl rfl (WL.mv rfl rfl (WL.mv rfl rfl (WL.pv (PV.aDp rfl bo4 rfl rfl) rfl (WL.pv (PV.cZ rfl rfl rfl) rfl (WL.as rfl rfl (WL.as rfl rfl ?_)))))))
   refine WL.nil (WE.ret ⟨[_, _], _, .nil _, ⟨rfl, rfl, trivial⟩, ?_⟩)
   refine ⟨XU, _, g2_, ?_, ?_, H.kY, H.o 0 rfl, H.o 1 rfl, H.fQ (by exact (H.bK 2 rfl : aH _ (cQ bits XU) _)), ?_, ?_⟩
   ·
    show Value.tuple [g2_, .bool ((decide (o.k.length = 32) && iE m o.k) != zJ m o.k)].toArray = _; simp [zJ]
   ·
    rw [aD5, W6 hn]
   ·
    exact H.fQ (by exact (H.bK 0 rfl : aH _ (fY g2_ (oJ m o)) _))
   ·
    rw [W6 hn]; split; exact (H.fQ (by exact (H.bK 3 rfl : aH _ (eY m) _))).imp fun _ h => eY.rm (show eY m _ from h); exact H.fQ (by exact (H.bK 3 rfl : aH _ (eY m) _))
theorem aGH {X : Nat → Prop} {w : World} {bt bh bc : Nat} {bits c0 : Int} {T : Tr} {m : List En} {s2 : Value} {o : o7} {nn : Nat} (hX : cU X w) (eT : aM w bc 213 ([.int .i64 c0])) (yE : aM w bt 90 ([.pointer (some ⟨bh, 0, none⟩), T.ptr])) (bT : aH (fun c_ => X c_ ∨ c_ = bc ∨ c_ = bt) (fF bh bc bits) w) (dA : aH (fun c_ => X c_ ∨ c_ = bc ∨ c_ = bt) (cQ bits T) w) (fN : aH (fun c_ => X c_ ∨ c_ = bc ∨ c_ = bt) (fY s2 m) w) (jO : aH (fun c_ => X c_ ∨ c_ = bc ∨ c_ = bt) (eY m) w) (nE : aH (fun c_ => X c_ ∨ c_ = bc ∨ c_ = bt) (OV o) w) (rJ : aH (fun c_ => X c_ ∨ c_ = bc ∨ c_ = bt) (aX) w) (CM : aH (fun c_ => X c_ ∨ c_ = bc ∨ c_ = bt) (dZ) w) (hne : bc ≠ bt) (bR : 0 ≤ bits ∧ bits ≤ 256) (hT : T.er = grow 0 m) (rI : dY nn m) (ZH : nn ≤ 500) (ZO : o.k.length ≤ 100) (ZB : o.v.length ≤ 70000) (G0 : CH o.b) (hn : o.n ≠ 0 ∧ o.n ≠ 1 ∧ o.n ≠ 2) :
  bF prog 17 [.pointer (some ⟨bt, 0, none⟩), s2, .agg (yO o).toArray].toArray w fun v w' => ∃ (T' : Tr) (c' : Int) (s3 : Value), v = .tuple [s3, .bool false].toArray ∧ T'.er = grow 0 (oJ m o) ∧ Out (fun c => c = bc ∨ c = bt) w w' ∧ aM w' bc 213 [.int .i64 c'] ∧ aM w' bt 90 [.pointer (some ⟨bh, 0, none⟩), T'.ptr] ∧ aH (fun c => X c ∨ c = bc ∨ c = bt) (cQ bits T') w' ∧ aH (fun c => X c ∨ c = bc ∨ c = bt) (fY s3 (oJ m o)) w' ∧ aH (fun c => X c ∨ c = bc ∨ c = bt) (eY (oJ m o)) w' := by
 refine bF.aI (N := 132) func17 rfl rfl (by simp) ?_
 have H := St.rD (b1 := bc) (b2 := bt) (t1 := 213) (t2 := 90) (l1 := [.int .i64 c0]) (l2 := [.pointer (some ⟨bh, 0, none⟩), T.ptr]) hX eT yE hne
 replace H := H.add (gI CM)
 replace H := H.add (gI rJ)
 replace H := H.add (gI nE)
 replace H := H.add (gI jO)
 replace H := H.add (gI fN)
 replace H := H.add (gI dA)
 replace H := H.add (gI bT)
 have D3 := o4.of (jO.here)
 have hs := rI.s
 have sU := rI.k
 have yS := rI.l
 have tL : (List.replicate 32 (0 : UInt8)).length = 32 := List.length_replicate
 refine WE.aA ?_
 refine WL.box (l := yO o) H rfl rfl rfl ?_
 intro b5 w1 H
 refine WL.as rfl rfl (WL.as rfl rfl (WL.nil (WE.seq (WE.aA (WL.pv (PV.fieldAddr rfl tQ rfl) rfl (WL.aY rfl oZ rfl rfl (aM.aF (H.l 0 rfl) aJ.hd rfl) (WL.nil ?_)))))))
 refine WE.block (WE.aA (WL.pv (PV.eql rfl rfl rfl) rfl (WL.as rfl rfl (WL.nil ?_))))
 refine WE.bB rfl (by simp [hn]) ?_
 refine WE.seq (WE.aA (WL.pv (PV.eql rfl rfl rfl) rfl (WL.as rfl rfl (WL.nil ?_))))
 refine WE.bB rfl (by simp [hn]) ?_
 refine WE.eH (WL.pv (PV.eql rfl rfl rfl) rfl (WL.as rfl rfl (WL.nil ?_)))
 refine WE.bB rfl (by simp [hn]) ?_
 refine WE.skip (WE.aA (WL.pv (PV.fieldAddr rfl B2 rfl) rfl (WL.aY rfl XS rfl rfl (aM.aF (H.l 0 rfl) (aJ.tl (aJ.tl (aJ.tl aJ.hd rfl) rfl) rfl) rfl) ?_)))
 refine WL.call aIr rfl (XC (s := o.sb) (l := o.b) H.aS (by exact (H.bK 4 rfl : aH _ (OV o) _).imp fun _ h => h.2.2.1) (by exact (H.bK 4 rfl : aH _ (OV o) _).imp fun _ h => h.2.2.2) (by have := G0.1; omega) (fun u hu => ⟨Nat.le_trans (G0.2 u hu).1 (by decide), Nat.le_trans (G0.2 u hu).2 (by decide)⟩)) ?_
 rintro _ w2 ⟨rfl, hO⟩
 replace H := H.out hO
 refine WL.mv rfl rfl (WL.pv (PV.extract rfl rfl rfl) rfl (WL.pv (PV.extract rfl rfl rfl) rfl (WL.as rfl rfl (WL.as rfl rfl (WL.nil (WE.seq (WE.aA ?_)))))))
 refine WL.mv rfl rfl (WL.pv (PV.fieldAddr rfl B2 rfl) rfl (WL.aY rfl XS rfl rfl (aM.aF (H.l 0 rfl) (aJ.tl (aJ.tl (aJ.tl aJ.hd rfl) rfl) rfl) rfl) ?_))
 refine WL.call aIs rfl (S4 (bt := bt) (bh := bh) (bc := bc) (bits := bits) (T := T) (m := m) (s := o.sb) (l := o.b) H.aS (H.o 0 rfl) (H.o 1 rfl) (by exact (H.l8 0 rfl : aH _ (fF bh bc bits) _)) (by exact (H.l8 1 rfl : aH _ (cQ bits T) _)) (by exact (H.l8 4 rfl : aH _ (OV o) _).imp fun _ h => h.2.2.1) (by exact (H.l8 4 rfl : aH _ (OV o) _).imp fun _ h => h.2.2.2) (by exact (H.l8 5 rfl : aH _ (aX) _)) hne bR hT hs sU (by omega) (by have := G0.1; omega) (fun u hu => ⟨Nat.le_trans (G0.2 u hu).1 (by decide), Nat.le_trans (G0.2 u hu).2 (by decide)⟩)) ?_
 rintro RT w3 ⟨KJ, aI2, Q6, hO, xB, rK, hR, aBC⟩
 have H_ := H.tW hO xB rK hR
 replace H := St.aB3 H_ aBC
 refine WL.mv rfl rfl (WL.mv rfl rfl ?_)
 refine WL.call WT rfl (u6 (op := [97, 112, 112, 108, 121]) (ix := (((jM o.b).1 : Nat) : Int)) (code := (jM o.b).2) (ev := RT) H.aS (by exact (H.bK 8 rfl : aH _ (dZ) _)) (by exact (H.bK 0 rfl : aH _ (eZ [97, 112, 112, 108, 121] (((jM o.b).1 : Nat) : Int) ((jM o.b).2) RT) _))) ?_
 rintro _ w4 ⟨rfl, hO⟩
 replace H := H.out hO
 refine WL.nil ?_
 refine WE.bB rfl rfl ?_
 refine WE.skip (WE.seq (WE.aA (WL.mv rfl rfl (WL.pv (PV.neq rfl rfl rfl) rfl (WL.nil ?_)))))
 refine WE.cond rfl (fun EA => ?_) (fun EA => ?_)
 ·
  try simp only [bU] at EA
  have hz : ¬ (jM o.b).2 = 0 := by exact EA
  have BR : oJ m o = m := by rw [aFZ hn, if_neg hz]
  refine WE.aA (WL.mv rfl rfl (WL.as rfl rfl (WL.as rfl rfl (WL.nil (WE.ret ⟨[_, _], _, .nil _, ⟨rfl, rfl, trivial⟩, ?_⟩)))))
  refine ⟨KJ, _, s2, ?_, ?_, H.kY, H.o 0 rfl, H.o 1 rfl, H.fQ (by exact (H.bK 1 rfl : aH _ (cQ bits KJ) _)), ?_, ?_⟩
  ·
   rfl
  ·
   rw [Q6, if_neg hz, BR]
  ·
   rw [BR]; exact H.fQ (by exact (H.bK 4 rfl : aH _ (fY s2 m) _))
  ·
   rw [BR]; exact H.fQ (by exact (H.bK 5 rfl : aH _ (eY m) _))
 ·
  try simp only [bU] at EA
  have hz : (jM o.b).2 = 0 := by exact EA
  have BR : oJ m o = s5 m o.b := by rw [aFZ hn, if_pos hz]
  have hgu := tV hz
  refine WE.skip (WE.aA (WL.mv rfl rfl (WL.pv (PV.fieldAddr rfl B2 rfl) rfl (WL.aY rfl XS rfl rfl (aM.aF (H.l 0 rfl) (aJ.tl (aJ.tl (aJ.tl aJ.hd rfl) rfl) rfl) rfl) ?_))))
  refine WL.call aIl rfl (XP (s2 := s2) (s := o.sb) (m := m) (l := o.b) H.aS (by exact (H.bK 4 rfl : aH _ (fY s2 m) _)) (by exact (H.bK 6 rfl : aH _ (OV o) _).imp fun _ h => h.2.2.1) (by exact (H.bK 6 rfl : aH _ (OV o) _).imp fun _ h => h.2.2.2) (rI.more (by omega)) D3 hgu (by have := G0.1; omega)) ?_
  rintro v131 w5 ⟨hO, hR⟩
  replace H := (H.out hO).add (show aH _ (fY v131 (s5 m o.b)) _ from hR)
  refine WL.as rfl rfl (WL.as rfl rfl (WL.nil (WE.ret ⟨[_, _], _, .nil _, ⟨rfl, rfl, trivial⟩, ?_⟩)))
  refine ⟨KJ, _, v131, ?_, ?_, H.kY, H.o 0 rfl, H.o 1 rfl, H.fQ (by exact (H.bK 2 rfl : aH _ (cQ bits KJ) _)), ?_, ?_⟩
  ·
   rfl
  ·
   rw [Q6, if_pos hz, BR]
  ·
   rw [BR]; exact H.fQ (by exact (H.bK 0 rfl : aH _ (fY v131 (s5 m o.b)) _))
  ·
   rw [BR]; exact (H.fQ (aH.and (show aH _ (eY m) _ from (by exact (H.bK 6 rfl : aH _ (eY m) _))) (show aH _ (OV o) _ from (by exact (H.bK 7 rfl : aH _ (OV o) _))))).imp fun _ h => eY.dG o.b h.1 h.2.2.2.2
theorem aGG {X : Nat → Prop} {w : World} {bt bh bc : Nat} {bits c0 : Int} {T : Tr} {m : List En} {s2 : Value} {o : o7} {nn : Nat} (hX : cU X w) (eT : aM w bc 213 [.int .i64 c0]) (yE : aM w bt 90 [.pointer (some ⟨bh, 0, none⟩), T.ptr])
  (bT : aH (fun c => X c ∨ c = bc ∨ c = bt) (fF bh bc bits) w) (dA : aH (fun c => X c ∨ c = bc ∨ c = bt) (cQ bits T) w) (fN : aH (fun c => X c ∨ c = bc ∨ c = bt) (fY s2 m) w) (jO : aH (fun c => X c ∨ c = bc ∨ c = bt) (eY m) w) (nE : aH (fun c => X c ∨ c = bc ∨ c = bt) (OV o) w) (rJ : aH (fun c => X c ∨ c = bc ∨ c = bt) aX w) (CM : aH (fun c => X c ∨ c = bc ∨ c = bt) dZ w)
  (hne : bc ≠ bt) (bR : 0 ≤ bits ∧ bits ≤ 256) (hT : T.er = grow 0 m) (rI : dY nn m) (ZH : nn ≤ 500) (ZO : o.k.length ≤ 100) (ZB : o.v.length ≤ 70000) (G0 : CH o.b) :
  bF prog 17 [.pointer (some ⟨bt, 0, none⟩), s2, .agg (yO o).toArray].toArray w (fun v w' => ∃ (T' : Tr) (c' : Int) (s3 : Value), v = .tuple [s3, .bool false].toArray ∧ T'.er = grow 0 (oJ m o) ∧ Out (fun c => c = bc ∨ c = bt) w w' ∧ aM w' bc 213 [.int .i64 c'] ∧ aM w' bt 90 [.pointer (some ⟨bh, 0, none⟩), T'.ptr] ∧ aH (fun c => X c ∨ c = bc ∨ c = bt) (cQ bits T') w' ∧ aH (fun c => X c ∨ c = bc ∨ c = bt) (fY s3 (oJ m o)) w' ∧ aH (fun c => X c ∨ c = bc ∨ c = bt) (eY (oJ m o)) w') := by
 by_cases h0 : o.n = 0
 ·
  exact aGK hX eT yE bT dA fN jO nE rJ CM hne bR hT rI ZH ZO ZB G0 h0
 ·
  by_cases h1 : o.n = 1
  ·
   exact aGJ hX eT yE bT dA fN jO nE rJ CM hne bR hT rI ZH ZO ZB G0 h1
  ·
   by_cases h2 : o.n = 2
   ·
    exact aGI hX eT yE bT dA fN jO nE rJ CM hne bR hT rI ZH ZO ZB G0 h2
   ·
    exact aGH hX eT yE bT dA fN jO nE rJ CM hne bR hT rI ZH ZO ZB G0 ⟨h0, h1, h2⟩
def GR (bits : Int) (T : Tr) (m : List En) (bh bc : Nat) (s2 : Value) (w : World) : Prop := fF bh bc bits w ∧ cQ bits T w ∧ fY s2 m w ∧ eY m w
section
variable {X : Nat → Prop} {w0 w w' : World} {O L : List aN} {Ps : List (World → Prop)} {p : World → Prop}
theorem _root_.Go.Sp.St.aAl (H : St X w0 w O L (p :: Ps)) {q r s : World → Prop} (hp : ∀ w, p w → q w ∧ r w ∧ s w) : St X w0 w O L (q :: r :: s :: Ps) :=
 have h := H.bK 0 rfl
 ((((H.drop (IA := Ps) fun _ h => List.mem_cons_of_mem _ h).add (p := s) (h.imp fun _ h => (hp _ h).2.2)).add (p := r) (h.imp fun _ h => (hp _ h).2.1)).add (p := q) (h.imp fun _ h => (hp _ h).1))
theorem _root_.Go.Sp.St.aGi (H : St X w0 w O L (p :: Ps)) {q r s t : World → Prop} (hp : ∀ w, p w → q w ∧ r w ∧ s w ∧ t w) : St X w0 w O L (q :: r :: s :: t :: Ps) :=
 have h := H.bK 0 rfl
 (((((H.drop (IA := Ps) fun _ h => List.mem_cons_of_mem _ h).add (p := t) (h.imp fun _ h => (hp _ h).2.2.2)).add (p := s) (h.imp fun _ h => (hp _ h).2.2.1)).add (p := r) (h.imp fun _ h => (hp _ h).2.1)).add (p := q) (h.imp fun _ h => (hp _ h).1))
theorem _root_.Go.Sp.St.aAY (H : St X w0 w O L Ps) (i j : Nat) {b b2 : Nat} {t t2 : TypeId} {l l2 : List Value} (hi : L[i]? = some (aN.blk b t l)) (hj : L[j]? = some (aN.blk b2 t2 l2)) (hij : i ≠ j) : aH (fun c => Nil c ∨ c = b) (fun w => cX w ⟨b2, 0, none⟩ l2) w :=
 (aH.FO (H.lI i j hi hj hij)).imp fun _ h => aM.rd h
theorem _root_.Go.Sp.St.sJ (H : St X w0 w O L Ps) (i : Nat) {b : Nat} {t : TypeId} {l : List Value} (hi : L[i]? = some (aN.blk b t l)) (n : Nat) (hp : Ps[n]? = some p) : aH (fun c => Nil c ∨ c = b) p w := (H.fM i hi n hp).wk
theorem _root_.Go.Sp.St.pG (H : St X w0 w O L Ps) (j : Nat) {b2 : Nat} {t2 : TypeId} {l2 : List Value} (hj : L[j]? = some (aN.blk b2 t2 l2)) : aH Nil (fun w => cX w ⟨b2, 0, none⟩ l2) w := (H.U0 j hj).imp fun _ h => aM.rd h
end
theorem dY.pm {n : Nat} {m : List En} (h : dY n m) : Pm 0 m := h.s.pm h.k
theorem FI.map {l : List o7} (h : FI l) : dY 240 (runM l) := by
 have h1 := dY.run h l.length (Nat.le_refl _)
 rw [List.take_length] at h1
 have := h.1
 exact h1.more (by omega)
theorem RC {m : List En} (h : o4 m) (k : List UInt8) : (gS m k).oneCell' = true := by
 unfold gS
 cases hg : getM m k with
 | none => rfl
 | some e => exact h e (vF hg).1
theorem XB {X : Nat → Prop} {w : World} {s : Value} {m : List En} {k : List UInt8} (hX : cU X w) (bT : aH X (fY s m) w) (dA : aH X (eY m) w) (pT : KL m) (fV : o4 m) (hlen : m.length ≤ 1000000) (hk : k.length = 32) :
  bF prog 15 [s, .agg (kc k).toArray].toArray w fun v w' => ∃ sk, v = .agg [sk, gS m k, .bool (iE m k)].toArray ∧ sk.oneCell' = true ∧ Out Nil w w' ∧ aH X (bI sk k) w' := by
 refine bF.aI (N := 19) func15 rfl rfl (by simp) ?_
 have H := ((St.begin hX).add (cE dA)).add (cE bT)
 have hg1 := RC fV k
 refine WE.aA ?_
 refine WL.box (l := kc k) H rfl rfl rfl ?_
 intro b3 w1 H
 refine WL.alloc H rfl KU rfl ?_
 intro b4 w2 H
 refine WL.nil (WE.aA (WL.mv rfl rfl ?_))
 refine WL.bC rfl cV rfl rfl (aM.aF (H.l 1 rfl) (aJ.all _) rfl) (cH cM (by simp only [aR, aU, aB, aD]; omega)) ?_
 refine WL.call aBM rfl (tF (s := s) (m := m) (k := k) H.aS (by exact (H.bK 0 rfl : aH _ (fY s m) _)) pT hlen hk) ?_
 rintro _ w3 ⟨rfl, hO⟩
 replace H := H.out hO
 refine WL.mv rfl rfl (WL.pv (PV.extract rfl rfl rfl) rfl (WL.pv (PV.extract rfl rfl rfl) rfl (WL.as rfl rfl (WL.as rfl rfl (WL.nil (WE.aA ?_))))))
 refine WL.bL (l0 := []) H rfl j0 (by decide) (dH _ _) Fl.nil rfl ?_
 intro b13 w4 H
 replace H := H.IY (n := 0) (sz := 1) (i := 0) rfl rfl (by decide)
 refine WL.pv (PV.fO rfl gM (by rw [gY]; rfl) rfl) rfl ?_
 refine WL.append (m := k.length) H 0 j0 (by decide) rfl rfl rfl (bI.bZ (H.l 2 rfl) hk : bI _ k _) (bJ _) (by omega) (by decide) rfl ?_
 intro v15 w5 H
 have VY := iN (H.l 0 rfl)
 replace H := H.conv (L' := [aN.iA w.heap.size v15 5 1 k.length (kc k), aN.blk b4 48 [.slice none 0 0, .slice none 0 0, .bool false], aN.blk b3 24 (kc k)]) (by rw [Nat.zero_add]; rfl)
 refine WL.mv rfl rfl (WL.mv rfl rfl ?_)
 refine WL.pv (PV.dD rfl U8 KU (Fl.cons rfl (cells_one VY) (by simp only [aR, aU, aB, aD]) Laid.head (Fl.cons rfl (cells_one hg1) (by simp only [aR, aU, aB, aD]) (Laid.tail Laid.head rfl) (Fl.cons rfl (rfl) (by simp only [aR, aU, aB, aD]) (Laid.tail (Laid.tail Laid.head rfl) rfl) Fl.nil)))) rfl ?_
 refine WL.aT H 1 rfl rfl rfl (new := [v15, gS m k, .bool (iE m k)]) rfl (by exact K6) (fun v hv => by simp at hv; rcases hv with rfl | rfl | rfl; exact VY; exact hg1; rfl) (Laid.at (Laid.all (by simp only [aR, aU, aB, aD])) rfl) rfl ?_
 intro w6 H
 refine WL.nil (WE.ret ⟨[_], _, .nil _, ⟨⟨_, rfl, aW XT (aM.aF (H.l 1 rfl) (aJ.all _) rfl) (by exact K6)⟩, trivial⟩, ?_⟩)
 replace H := H.freeze (i := 0) rfl
 exact ⟨v15, rfl, VY, H.aL, (H.gQ (H.bK 0 rfl)).imp fun _ h => bI.eM h⟩
abbrev Z_ : List UInt8 := List.replicate 32 0
abbrev Tz (a : Nat) (s : Value) : Tr := .leaf a Z_ [7] s
def Ez (sv : Value) : En := ⟨Z_, sv, [7]⟩
theorem aGF (sv : Value) : Pm 0 [Ez sv] := Pm.zero (fun e he => by rw [List.mem_singleton.1 he]; rfl) (List.pairwise_singleton _ _)
theorem IE {a1 : Nat} {s1 : Value} : uU (pK (Tz a1 s1) Z_) (Tr.dp Z_ 0 (Tz a1 s1)) (Tr.fin (Tz a1 s1) Z_).key ((Tr.fin (Tz a1 s1) Z_).vd 256) Z_ (mS 256 [7]) true := ⟨fun _ => ⟨rfl, rfl, rfl⟩, fun h => by cases h⟩
theorem aCo {a1 : Nat} {s1 : Value} (hp : iG (pK (Tz a1 s1) Z_) (Tr.dp Z_ 0 (Tz a1 s1)) (Tr.fin (Tz a1 s1) Z_).key ((Tr.fin (Tz a1 s1) Z_).vd 256) (lJ (Tz a1 s1) Z_ (Tr.dp Z_ 0 (Tz a1 s1))) (gA 256 (Tz a1 s1) Z_ (Tr.dp Z_ 0 (Tz a1 s1)))) : (e8 (pK (Tz a1 s1) Z_) (Tr.dp Z_ 0 (Tz a1 s1)) (Tr.fin (Tz a1 s1) Z_).key ((Tr.fin (Tz a1 s1) Z_).vd 256) (lJ (Tz a1 s1) Z_ (Tr.dp Z_ 0 (Tz a1 s1))) (gA 256 (Tz a1 s1) Z_ (Tr.dp Z_ 0 (Tz a1 s1)))).length = 100 := (ES hp).trans rfl
theorem A2 {X : Nat → Prop} {w : World}  (hX : cU X w) (bT : aH X (aX) w) (dA : aH X (dZ) w) :
  bF prog 8 [].toArray w fun v w' => v = .bool true ∧ Out Nil w w' := by
 refine bF.aI (N := 53) func8 rfl rfl (by decide +revert) ?_
 have H := ((St.begin hX).add (cE dA)).add (cE bT)
 refine WE.aA (WL.as rfl rfl (WL.nil (WE.aA ?_)))
 refine WL.call aER rfl (SZ (i := 256) H.aS  (by decide)) ?_
 rintro _ w1 ⟨xQ, lQ, rE, rfl, hO, QG, QF, ZJ, xB, rK, hR⟩
 replace H := H.F9 hO (aN.blk xQ 90 [.pointer (some ⟨lQ, 0, none⟩), .pointer none]) (aN.blk rE 213 [.int .i64 0]) xB rK (fun c hc => by cases hc; exact QG) (fun c hc => by cases hc; exact QF) (tX ZJ) hR
 replace H := H.add (show aH _ (cQ 256 .nil) _ from fun _ _ => trivial)
 refine WL.mv rfl rfl (WL.pv (PV.extract rfl rfl rfl) rfl (WL.pv (PV.extract rfl rfl rfl) rfl (WL.as rfl rfl (WL.as rfl rfl (WL.nil (WE.seq (WE.aA ?_)))))))
 refine WL.mv rfl rfl (WL.pv (PV.iX rfl GA rfl rfl) rfl (WL.mv rfl rfl (WL.known (t := 12) (c := false) rfl rfl (WL.mv rfl rfl (WL.pv (PV.neq rfl rfl rfl) rfl (WL.pv (PV.cZ rfl rfl rfl) rfl (WL.mv rfl rfl ?_)))))))
 refine WL.known (t := 16) (c := false) rfl rfl (WL.mv rfl rfl ?_)
 refine WL.makeSlice (n := 32) H rfl j0 rfl (by decide) (by decide) rfl ?_
 intro SG w3 H
 replace H := H.freeze (i := 0) rfl
 replace H := H.add (show aH _ (bI (.slice (some ⟨SG, 0, none⟩) 32 32) Z_) _ from (H.bK 0 rfl).imp fun _ h => bI.bZ h rfl)
 refine WL.bL (l0 := [.int .u8 (0)]) H rfl j0 (by decide) (dH _ _) (Fl.cons rfl rfl (by simp only [aR, aU, aB, aD]) Laid.head Fl.nil) rfl ?_
 intro b19 w6 H
 replace H := H.freeze (i := 0) rfl
 replace H := H.add ((H.bK 0 rfl).imp fun _ h => bI.bZ (l := [7]) h rfl)
 refine WL.call aFf rfl (SY (bt := xQ) (bh := lQ) (bc := rE) (bits := 256) (T := .nil) (m := []) (lb := Z_) (vv := [7]) H.aS (H.l 1 rfl) (H.l 0 rfl) (by exact (H.jQ 1 0 rfl rfl 5 rfl : aH _ (fF lQ rE 256) _)) (by exact (H.jQ 1 0 rfl rfl 4 rfl : aH _ (cQ 256 .nil) _)) (by exact (H.jQ 1 0 rfl rfl 2 rfl : aH _ (bI (.slice (some ⟨SG, 0, none⟩) 32 32) Z_) _)) (by exact (H.jQ 1 0 rfl rfl 0 rfl : aH _ (bI (.slice (some ⟨b19, 0, none⟩) 1 1) [7]) _)) (by exact (H.jQ 1 0 rfl rfl 6 rfl : aH _ (aX) _)) (Ne.symm ZJ) (by decide) (eG 0).symm List.Pairwise.nil (fun _ h => by cases h) (by simp) (by simp) (by simp)) ?_
 rintro aJI w7 ⟨T1, c1, V9, hO, xB, rK, hR, hE⟩
 have hz0 : bV Z_ [7] = 0 := c8.2 ⟨rfl, by decide⟩
 obtain rfl := eZ.none hE hz0
 have FU : T1.er = .leaf Z_ [7] := V9.trans (by rw [if_pos hz0]; exact dI 0 _)
 obtain ⟨a1, s1, rfl⟩ := Tr.u9 FU
 replace H := H.xN 1 0 rfl rfl (by decide) hO xB rK hR
 have hok : iG (pK (Tz a1 s1) Z_) (Tr.dp Z_ 0 (Tz a1 s1)) (Tr.fin (Tz a1 s1) Z_).key ((Tr.fin (Tz a1 s1) Z_).vd 256) (lJ (Tz a1 s1) Z_ (Tr.dp Z_ 0 (Tz a1 s1))) (gA 256 (Tz a1 s1) Z_ (Tr.dp Z_ 0 (Tz a1 s1))) := DG (m := [Ez .nilIface]) (dI 0 (Ez .nilIface)).symm (aGF _) trivial rfl
 have aIZ := aCo hok
 have hroot : eP 256 Z_ (fI 256 (Tr.dp Z_ 0 (Tz a1 s1)) (lJ (Tz a1 s1) Z_ (Tr.dp Z_ 0 (Tz a1 s1))) (gA 256 (Tz a1 s1) Z_ (Tr.dp Z_ 0 (Tz a1 s1)))) (dP (cN (dX (pK (Tz a1 s1) Z_) (Tr.fin (Tz a1 s1) Z_).key ((Tr.fin (Tz a1 s1) Z_).vd 256))) 256) (Tr.dp Z_ 0 (Tz a1 s1)) = ((Tz a1 s1).er.kN 256) := wH (Nat.zero_le _)
 have QO := fR 256 (Tz a1 s1).er
 refine WL.pv (PV.zL rfl (by kernel_rfl) (by exact yF.nil)) rfl ?_
 refine WL.pv (PV.cZ rfl rfl rfl) rfl (WL.nil ?_)
 refine WE.bB rfl rfl ?_
 refine WE.skip (WE.aA (WL.mv rfl rfl ?_))
 refine WL.call aBO rfl (CG (X := Nil) (bt := xQ) (bh := lQ) (bc := rE) (bits := 256) (T := (Tz a1 s1)) (fun _ h => h.elim) (H.l 1 rfl) (H.aAY 1 0 rfl rfl (by decide)) (by exact (H.sJ 1 rfl 6 rfl : aH _ (fF lQ rE 256) _)) (by exact (H.sJ 1 rfl 0 rfl : aH _ (cQ 256 (Tz a1 s1)) _)) (by exact (H.sJ 1 rfl 7 rfl : aH _ (aX) _)) (by decide)) ?_
 rintro _ w8 ⟨m24, rfl, hO, hB⟩
 replace H := H.called 1 rfl hO hB
 refine WL.alloc H rfl mQ rfl ?_
 intro b3 w9 H
 refine WL.aT H 0 rfl rfl rfl (new := kc ((Tz a1 s1).er.kN 256)) rfl (by exact dJ) (bJ _) (Laid.at (Laid.all (by simp only [aR, aU, aB, aD])) rfl) rfl ?_
 intro vR H
 replace H := H.freeze (i := 0) rfl
 replace H := H.add (show aH _ (bI (.slice (some ⟨b3, 0, none⟩) 32 32) ((Tz a1 s1).er.kN 256)) _ from (H.bK 0 rfl).imp fun _ h => bI.bZ h QO)
 refine WL.nil (WE.aA (WL.mv rfl rfl ?_))
 refine WL.call B7 rfl (lC (X := Nil) (bt := xQ) (bh := lQ) (T := (Tz a1 s1)) (fun _ h => h.elim) (H.pG 0 rfl)) ?_
 rintro _ y8 ⟨rfl, hO⟩
 replace H := H.out hO
 refine WL.mv rfl rfl ?_
 refine WL.call aFS rfl (KK (X := Nil) (bt := xQ) (bh := lQ) (T := (Tz a1 s1)) (fun _ h => h.elim) (H.pG 0 rfl)) ?_
 rintro _ IQ ⟨rfl, hO⟩
 replace H := H.out hO
 refine WL.pv (PV.mM rfl gM gY rM Fl.nil) rfl ?_
 refine WL.call fb9 rfl (KM (bh := lQ) (bc := rE) (bits := 256) (T := (Tz a1 s1)) (k := Z_) H.aS (H.l 1 rfl) (by exact (H.fM 1 rfl 8 rfl : aH _ (fF lQ rE 256) _)) (by exact (H.fM 1 rfl 2 rfl : aH _ (cQ 256 (Tz a1 s1)) _)) (by exact (H.fM 1 rfl 9 rfl : aH _ (aX) _)) (by decide) rfl trivial) ?_
 rintro _ FP ⟨m31, aC3, rfl, hO, hB, hR⟩
 replace H := H.mC 1 rfl hO hB hR
 refine WL.call aFL rfl (FJ (kd := pK (Tz a1 s1) Z_) (dp := Tr.dp Z_ 0 (Tz a1 s1)) (lk := (Tr.fin (Tz a1 s1) Z_).key) (lv := (Tr.fin (Tz a1 s1) Z_).vd 256) (B := lJ (Tz a1 s1) Z_ (Tr.dp Z_ 0 (Tz a1 s1))) (sb := gA 256 (Tz a1 s1) Z_ (Tr.dp Z_ 0 (Tz a1 s1))) (sl := aC3) H.aS (by exact (H.bK 0 rfl : aH _ (eQ aC3 _) _)) hok) ?_
 rintro _ K2 ⟨YX, rfl, hO, hR⟩
 replace H := (H.out hO).add hR
 refine WL.mv rfl rfl (WL.pv (PV.extract rfl rfl rfl) rfl (WL.pv (PV.extract rfl rfl rfl) rfl (WL.as rfl rfl (WL.as rfl rfl (WL.nil ?_)))))
 refine WE.bG (.take 0 (.take 1 (.take 2 (.take 3 (.take 4 (.take 5 (.take 6 (.take 7 (.take 8 (.take 10 (.take 14 (.DI 9 (.iW 11 (.aG 12 (.take 13 (.aG 15 (.take 16 (.take 17 (.take 18 .done)))))) 12 (.aG 11 (.take 13 (.aG 15 (.take 16 (.take 17 (.take 18 .done))))))) 11 (.iW 9 (.aG 12 (.take 13 (.aG 15 (.take 16 (.take 17 (.take 18 .done)))))) 12 (.take 13 (.aG 9 (.aG 15 (.take 16 (.take 17 (.take 18 .done))))))) 12 (.iW 9 (.aG 11 (.take 13 (.aG 15 (.take 16 (.take 17 (.take 18 .done)))))) 11 (.take 13 (.aG 9 (.aG 15 (.take 16 (.take 17 (.take 18 .done))))))))))))))))))) mixed (by kernel_rfl) ?_
 replace H := H.out (Out.drew _)
 refine WP.mv rfl rfl rfl (WP.aC rfl rfl (PV.eql rfl rfl rfl) (WP.mv rfl rfl rfl ?_))
 refine WP.known (t := 37) (c := true) rfl rfl ?_
 refine WP.mv rfl rfl rfl ?_
 refine WP.aC rfl rfl (PV.dO (by exact (H.p 0 rfl : (bI YX (e8 (pK (Tz a1 s1) Z_) (Tr.dp Z_ 0 (Tz a1 s1)) (Tr.fin (Tz a1 s1) Z_).key ((Tr.fin (Tz a1 s1) Z_).vd 256) (lJ (Tz a1 s1) Z_ (Tr.dp Z_ 0 (Tz a1 s1))) (gA 256 (Tz a1 s1) Z_ (Tr.dp Z_ 0 (Tz a1 s1))))) _)) eW rfl) ?_
 refine WP.aC rfl rfl (PV.eql rfl rfl rfl) (WP.aC rfl rfl (PV.dB rfl rfl rfl) (WP.mv rfl rfl rfl ?_))
 refine WP.known (t := 42) (c := true) rfl rfl ?_
 refine WP.mv rfl rfl rfl ?_
 refine WP.aC rfl rfl (PV.fO rfl oN (by rw [gY]; rfl) rfl) ?_
 refine WP.mv rfl rfl rfl ?_
 refine WP.join (α := Nat × Nat) (.take 13 (.aG 15 (.take 16 (.take 17 (.take 18 .done))))) [44, 46, 47] (fun g_ => [(44, .pointer (some ⟨lQ, 0, none⟩)), (46, (.slice (some ⟨g_.1, 0, none⟩) 32 32)), (47, (.slice (some ⟨g_.2, 0, none⟩) 1 1))]) (fun g_ wl => St X w wl [] [aN.blk xQ 90 [.pointer (some ⟨lQ, 0, none⟩), (Tz a1 s1).ptr], aN.blk rE 213 [.int .i64 m31]] [bI (.slice (some ⟨g_.1, 0, none⟩) 32 32) Z_, bI (.slice (some ⟨g_.2, 0, none⟩) 1 1) [7], bI YX (e8 (pK (Tz a1 s1) Z_) (Tr.dp Z_ 0 (Tz a1 s1)) (Tr.fin (Tz a1 s1) Z_).key ((Tr.fin (Tz a1 s1) Z_).vd 256) (lJ (Tz a1 s1) Z_ (Tr.dp Z_ 0 (Tz a1 s1))) (gA 256 (Tz a1 s1) Z_ (Tr.dp Z_ 0 (Tz a1 s1)))), bI (.slice (some ⟨b3, 0, none⟩) 32 32) ((Tz a1 s1).er.kN 256), fF lQ rE 256, aX, dZ]) ?_ ?_
 ·
  intro jn_
  refine WP.DI rfl rfl rfl ?_ ?_ ?_ 
  ·
   refine WL.call B7 rfl (lC (X := Nil) (bt := xQ) (bh := lQ) (T := (Tz a1 s1)) (fun _ h => h.elim) (H.pG 0 rfl)) ?_
   rintro _ NY ⟨rfl, hO⟩
   replace H := H.out hO
   refine WL.nil ⟨c5, ?_⟩
   refine WP.iW rfl rfl ?_ ?_ 
   ·
    refine WL.makeSlice (n := 32) H rfl j0 rfl (by decide) (by decide) rfl ?_
    intro AL TU H
    replace H := H.freeze (i := 0) rfl
    replace H := H.add (show aH _ (bI (.slice (some ⟨AL, 0, none⟩) 32 32) Z_) _ from (H.bK 0 rfl).imp fun _ h => bI.bZ h rfl)
    refine WL.nil ⟨c5, ?_⟩
    refine WP.aG rfl ?_
    refine WL.bL (l0 := [.int .u8 (0)]) H rfl j0 (by decide) (dH _ _) (Fl.cons rfl rfl (by simp only [aR, aU, aB, aD]) Laid.head Fl.nil) rfl ?_
    intro HK w20 H
    replace H := H.freeze (i := 0) rfl
    replace H := H.add ((H.bK 0 rfl).imp fun _ h => bI.bZ (l := [7]) h rfl)
    refine WL.nil ⟨c5, ?_⟩
    exact jn_ _ _ ⟨(AL, HK), (by repeat (first | with_reducible exact bQ.refl _ _ | refine bQ.dG rfl ?_)), ⟨rfl, rfl, rfl, trivial⟩, (by exact H.sS [2, 0, 4, 6, 14, 15, 16])⟩
   ·
    refine WL.bL (l0 := [.int .u8 (0)]) H rfl j0 (by decide) (dH _ _) (Fl.cons rfl rfl (by simp only [aR, aU, aB, aD]) Laid.head Fl.nil) rfl ?_
    intro HK w21 H
    replace H := H.freeze (i := 0) rfl
    replace H := H.add ((H.bK 0 rfl).imp fun _ h => bI.bZ (l := [7]) h rfl)
    refine WL.nil ⟨c5, ?_⟩
    refine WP.aG rfl ?_
    refine WL.makeSlice (n := 32) H rfl j0 rfl (by decide) (by decide) rfl ?_
    intro AL w23 H
    replace H := H.freeze (i := 0) rfl
    replace H := H.add (show aH _ (bI (.slice (some ⟨AL, 0, none⟩) 32 32) Z_) _ from (H.bK 0 rfl).imp fun _ h => bI.bZ h rfl)
    refine WL.nil ⟨c5, ?_⟩
    exact jn_ _ _ ⟨(AL, HK), (by repeat (first | with_reducible exact bQ.refl _ _ | refine bQ.dG rfl ?_)), ⟨rfl, rfl, rfl, trivial⟩, (by exact H.sS [0, 2, 4, 6, 14, 15, 16])⟩
  ·
   refine WL.makeSlice (n := 32) H rfl j0 rfl (by decide) (by decide) rfl ?_
   intro AL w27 H
   replace H := H.freeze (i := 0) rfl
   replace H := H.add (show aH _ (bI (.slice (some ⟨AL, 0, none⟩) 32 32) Z_) _ from (H.bK 0 rfl).imp fun _ h => bI.bZ h rfl)
   refine WL.nil ⟨c5, ?_⟩
   refine WP.iW rfl rfl ?_ ?_ 
   ·
    refine WL.call B7 rfl (lC (X := Nil) (bt := xQ) (bh := lQ) (T := (Tz a1 s1)) (fun _ h => h.elim) (H.pG 0 rfl)) ?_
    rintro _ w30 ⟨rfl, hO⟩
    replace H := H.out hO
    refine WL.nil ⟨c5, ?_⟩
    refine WP.aG rfl ?_
    refine WL.bL (l0 := [.int .u8 (0)]) H rfl j0 (by decide) (dH _ _) (Fl.cons rfl rfl (by simp only [aR, aU, aB, aD]) Laid.head Fl.nil) rfl ?_
    intro HK w31 H
    replace H := H.freeze (i := 0) rfl
    replace H := H.add ((H.bK 0 rfl).imp fun _ h => bI.bZ (l := [7]) h rfl)
    refine WL.nil ⟨c5, ?_⟩
    exact jn_ _ _ ⟨(AL, HK), (by repeat (first | with_reducible exact bQ.refl _ _ | refine bQ.dG rfl ?_)), ⟨rfl, rfl, rfl, trivial⟩, (by exact H.sS [2, 0, 4, 6, 14, 15, 16])⟩
   ·
    refine WL.bL (l0 := [.int .u8 (0)]) H rfl j0 (by decide) (dH _ _) (Fl.cons rfl rfl (by simp only [aR, aU, aB, aD]) Laid.head Fl.nil) rfl ?_
    intro HK w32 H
    replace H := H.freeze (i := 0) rfl
    replace H := H.add ((H.bK 0 rfl).imp fun _ h => bI.bZ (l := [7]) h rfl)
    refine WL.nil ⟨c5, ?_⟩
    refine WP.aC rfl rfl (PV.dD rfl U8 KU (Fl.cons rfl rfl (by simp only [aR, aU, aB, aD]) Laid.head (Fl.cons rfl rfl (by simp only [aR, aU, aB, aD]) (Laid.tail Laid.head rfl) (Fl.cons rfl rfl (by simp only [aR, aU, aB, aD]) (Laid.tail (Laid.tail Laid.head rfl) rfl) Fl.nil)))) ?_
    refine WP.aG rfl ?_
    refine WL.call B7 rfl (lC (X := Nil) (bt := xQ) (bh := lQ) (T := (Tz a1 s1)) (fun _ h => h.elim) (H.pG 0 rfl)) ?_
    rintro _ w33 ⟨rfl, hO⟩
    replace H := H.out hO
    refine WL.nil ⟨c5, ?_⟩
    refine WP.aG rfl ?_
    refine WL.call WX rfl (sO (bh := lQ) (bc := rE) (bits := 256) (kd := pK (Tz a1 s1) Z_) (dp := Tr.dp Z_ 0 (Tz a1 s1)) (lk := (Tr.fin (Tz a1 s1) Z_).key) (lv := (Tr.fin (Tz a1 s1) Z_).vd 256) (B := lJ (Tz a1 s1) Z_ (Tr.dp Z_ 0 (Tz a1 s1))) (sb := gA 256 (Tz a1 s1) Z_ (Tr.dp Z_ 0 (Tz a1 s1))) (k := Z_) (vv := [7]) (rb := ((Tz a1 s1).er.kN 256)) (sr := (.slice (some ⟨b3, 0, none⟩) 32 32)) (sk := (.slice (some ⟨AL, 0, none⟩) 32 32)) (sv := (.slice (some ⟨HK, 0, none⟩) 1 1)) (se := YX) (pr := true) H.aS (H.l 1 rfl) (by exact (H.fM 1 rfl 14 rfl : aH _ (fF lQ rE 256) _)) (by exact (H.fM 1 rfl 6 rfl : aH _ (bI (.slice (some ⟨b3, 0, none⟩) 32 32) ((Tz a1 s1).er.kN 256)) _)) (by exact (H.fM 1 rfl 2 rfl : aH _ (bI (.slice (some ⟨AL, 0, none⟩) 32 32) Z_) _)) (by exact (H.fM 1 rfl 0 rfl : aH _ (bI (.slice (some ⟨HK, 0, none⟩) 1 1) [7]) _)) (by exact (H.fM 1 rfl 4 rfl : aH _ (bI YX (e8 (pK (Tz a1 s1) Z_) (Tr.dp Z_ 0 (Tz a1 s1)) (Tr.fin (Tz a1 s1) Z_).key ((Tr.fin (Tz a1 s1) Z_).vd 256) (lJ (Tz a1 s1) Z_ (Tr.dp Z_ 0 (Tz a1 s1))) (gA 256 (Tz a1 s1) Z_ (Tr.dp Z_ 0 (Tz a1 s1))))) _)) (by exact (H.fM 1 rfl 15 rfl : aH _ (aX) _)) (by exact (H.fM 1 rfl 16 rfl : aH _ (dZ) _)) (by decide) hok rfl QO (by decide) IE) ?_
    rintro _ w34 ⟨m50, D0, hO, hB⟩
    rw [if_pos hroot] at D0
    subst D0
    replace H := H.called 1 rfl hO hB
    refine WL.nil ⟨c5, ?_⟩
    refine WP.aC rfl rfl (PV.eql rfl rfl rfl) (WP.aC rfl rfl (PV.dB rfl rfl rfl) (WP.as rfl rfl rfl (WP.done (WE.ret ⟨[_], _, .nil _, ⟨rfl, trivial⟩, ?_⟩))))
    refine ⟨?_, H.aL⟩
    rfl
  ·
   refine WL.bL (l0 := [.int .u8 (0)]) H rfl j0 (by decide) (dH _ _) (Fl.cons rfl rfl (by simp only [aR, aU, aB, aD]) Laid.head Fl.nil) rfl ?_
   intro HK w35 H
   replace H := H.freeze (i := 0) rfl
   replace H := H.add ((H.bK 0 rfl).imp fun _ h => bI.bZ (l := [7]) h rfl)
   refine WL.nil ⟨c5, ?_⟩
   refine WP.iW rfl rfl ?_ ?_ 
   ·
    refine WL.call B7 rfl (lC (X := Nil) (bt := xQ) (bh := lQ) (T := (Tz a1 s1)) (fun _ h => h.elim) (H.pG 0 rfl)) ?_
    rintro _ w36 ⟨rfl, hO⟩
    replace H := H.out hO
    refine WL.nil ⟨c5, ?_⟩
    refine WP.aG rfl ?_
    refine WL.makeSlice (n := 32) H rfl j0 rfl (by decide) (by decide) rfl ?_
    intro AL w38 H
    replace H := H.freeze (i := 0) rfl
    replace H := H.add (show aH _ (bI (.slice (some ⟨AL, 0, none⟩) 32 32) Z_) _ from (H.bK 0 rfl).imp fun _ h => bI.bZ h rfl)
    refine WL.nil ⟨c5, ?_⟩
    exact jn_ _ _ ⟨(AL, HK), (by repeat (first | with_reducible exact bQ.refl _ _ | refine bQ.dG rfl ?_)), ⟨rfl, rfl, rfl, trivial⟩, (by exact H.sS [0, 2, 4, 6, 14, 15, 16])⟩
   ·
    refine WL.makeSlice (n := 32) H rfl j0 rfl (by decide) (by decide) rfl ?_
    intro AL w42 H
    replace H := H.freeze (i := 0) rfl
    replace H := H.add (show aH _ (bI (.slice (some ⟨AL, 0, none⟩) 32 32) Z_) _ from (H.bK 0 rfl).imp fun _ h => bI.bZ h rfl)
    refine WL.nil ⟨c5, ?_⟩
    refine WP.aC rfl rfl (PV.dD rfl U8 KU (Fl.cons rfl rfl (by simp only [aR, aU, aB, aD]) Laid.head (Fl.cons rfl rfl (by simp only [aR, aU, aB, aD]) (Laid.tail Laid.head rfl) (Fl.cons rfl rfl (by simp only [aR, aU, aB, aD]) (Laid.tail (Laid.tail Laid.head rfl) rfl) Fl.nil)))) ?_
    refine WP.aG rfl ?_
    refine WL.call B7 rfl (lC (X := Nil) (bt := xQ) (bh := lQ) (T := (Tz a1 s1)) (fun _ h => h.elim) (H.pG 0 rfl)) ?_
    rintro _ w45 ⟨rfl, hO⟩
    replace H := H.out hO
    refine WL.nil ⟨c5, ?_⟩
    refine WP.aG rfl ?_
    refine WL.call WX rfl (sO (bh := lQ) (bc := rE) (bits := 256) (kd := pK (Tz a1 s1) Z_) (dp := Tr.dp Z_ 0 (Tz a1 s1)) (lk := (Tr.fin (Tz a1 s1) Z_).key) (lv := (Tr.fin (Tz a1 s1) Z_).vd 256) (B := lJ (Tz a1 s1) Z_ (Tr.dp Z_ 0 (Tz a1 s1))) (sb := gA 256 (Tz a1 s1) Z_ (Tr.dp Z_ 0 (Tz a1 s1))) (k := Z_) (vv := [7]) (rb := ((Tz a1 s1).er.kN 256)) (sr := (.slice (some ⟨b3, 0, none⟩) 32 32)) (sk := (.slice (some ⟨AL, 0, none⟩) 32 32)) (sv := (.slice (some ⟨HK, 0, none⟩) 1 1)) (se := YX) (pr := true) H.aS (H.l 1 rfl) (by exact (H.fM 1 rfl 14 rfl : aH _ (fF lQ rE 256) _)) (by exact (H.fM 1 rfl 6 rfl : aH _ (bI (.slice (some ⟨b3, 0, none⟩) 32 32) ((Tz a1 s1).er.kN 256)) _)) (by exact (H.fM 1 rfl 0 rfl : aH _ (bI (.slice (some ⟨AL, 0, none⟩) 32 32) Z_) _)) (by exact (H.fM 1 rfl 2 rfl : aH _ (bI (.slice (some ⟨HK, 0, none⟩) 1 1) [7]) _)) (by exact (H.fM 1 rfl 4 rfl : aH _ (bI YX (e8 (pK (Tz a1 s1) Z_) (Tr.dp Z_ 0 (Tz a1 s1)) (Tr.fin (Tz a1 s1) Z_).key ((Tr.fin (Tz a1 s1) Z_).vd 256) (lJ (Tz a1 s1) Z_ (Tr.dp Z_ 0 (Tz a1 s1))) (gA 256 (Tz a1 s1) Z_ (Tr.dp Z_ 0 (Tz a1 s1))))) _)) (by exact (H.fM 1 rfl 15 rfl : aH _ (aX) _)) (by exact (H.fM 1 rfl 16 rfl : aH _ (dZ) _)) (by decide) hok rfl QO (by decide) IE) ?_
    rintro _ w46 ⟨m50, D0, hO, hB⟩
    rw [if_pos hroot] at D0
    subst D0
    replace H := H.called 1 rfl hO hB
    refine WL.nil ⟨c5, ?_⟩
    refine WP.aC rfl rfl (PV.eql rfl rfl rfl) (WP.aC rfl rfl (PV.dB rfl rfl rfl) (WP.as rfl rfl rfl (WP.done (WE.ret ⟨[_], _, .nil _, ⟨rfl, trivial⟩, ?_⟩))))
    refine ⟨?_, H.aL⟩
    rfl
 ·
  intro ⟨AL, HK⟩ γ_ w47 hI
  try dsimp only at hI
  replace H := hI
  refine WP.aC rfl rfl (PV.dD rfl U8 KU (Fl.cons rfl rfl (by simp only [aR, aU, aB, aD]) Laid.head (Fl.cons rfl rfl (by simp only [aR, aU, aB, aD]) (Laid.tail Laid.head rfl) (Fl.cons rfl rfl (by simp only [aR, aU, aB, aD]) (Laid.tail (Laid.tail Laid.head rfl) rfl) Fl.nil)))) ?_
  refine WP.aG rfl ?_
  refine WL.call WX rfl (sO (bh := lQ) (bc := rE) (bits := 256) (kd := pK (Tz a1 s1) Z_) (dp := Tr.dp Z_ 0 (Tz a1 s1)) (lk := (Tr.fin (Tz a1 s1) Z_).key) (lv := (Tr.fin (Tz a1 s1) Z_).vd 256) (B := lJ (Tz a1 s1) Z_ (Tr.dp Z_ 0 (Tz a1 s1))) (sb := gA 256 (Tz a1 s1) Z_ (Tr.dp Z_ 0 (Tz a1 s1))) (k := Z_) (vv := [7]) (rb := ((Tz a1 s1).er.kN 256)) (sr := (.slice (some ⟨b3, 0, none⟩) 32 32)) (sk := (.slice (some ⟨AL, 0, none⟩) 32 32)) (sv := (.slice (some ⟨HK, 0, none⟩) 1 1)) (se := YX) (pr := true) H.aS (H.l 1 rfl) (by exact (H.fM 1 rfl 4 rfl : aH _ (fF lQ rE 256) _)) (by exact (H.fM 1 rfl 3 rfl : aH _ (bI (.slice (some ⟨b3, 0, none⟩) 32 32) ((Tz a1 s1).er.kN 256)) _)) (by exact (H.fM 1 rfl 0 rfl : aH _ (bI (.slice (some ⟨AL, 0, none⟩) 32 32) Z_) _)) (by exact (H.fM 1 rfl 1 rfl : aH _ (bI (.slice (some ⟨HK, 0, none⟩) 1 1) [7]) _)) (by exact (H.fM 1 rfl 2 rfl : aH _ (bI YX (e8 (pK (Tz a1 s1) Z_) (Tr.dp Z_ 0 (Tz a1 s1)) (Tr.fin (Tz a1 s1) Z_).key ((Tr.fin (Tz a1 s1) Z_).vd 256) (lJ (Tz a1 s1) Z_ (Tr.dp Z_ 0 (Tz a1 s1))) (gA 256 (Tz a1 s1) Z_ (Tr.dp Z_ 0 (Tz a1 s1))))) _)) (by exact (H.fM 1 rfl 5 rfl : aH _ (aX) _)) (by exact (H.fM 1 rfl 6 rfl : aH _ (dZ) _)) (by decide) hok rfl QO (by decide) IE) ?_
  rintro _ w48 ⟨m50, D0, hO, hB⟩
  rw [if_pos hroot] at D0
  subst D0
  replace H := H.called 1 rfl hO hB
  refine WL.nil ⟨c5, ?_⟩
  refine WP.aC rfl rfl (PV.eql rfl rfl rfl) (WP.aC rfl rfl (PV.dB rfl rfl rfl) (WP.as rfl rfl rfl (WP.done (WE.ret ⟨[_], _, .nil _, ⟨rfl, trivial⟩, ?_⟩))))
  refine ⟨?_, H.aL⟩
  rfl
theorem WC {X : Nat → Prop} {w : World} {i : Int} {s : Value} {l : List o7} (hX : cU X w) (bT : aH X (uE s l) w) (dA : aH X (iY l) w) (fN : aH X (aX) w) (jO : aH X (dZ) w) (hlen : l.length ≤ 9223372036854775807) (hq : ∀ o ∈ l, o.k.length ≤ 9223372036854775807 ∧ o.v.length ≤ 9223372036854775807 ∧ o.b.length ≤ 9223372036854775807 ∧ ∀ u ∈ o.b, u.k.length ≤ 9223372036854775807 ∧ u.v.length ≤ 9223372036854775807) :
  bF prog 7 [.int .i64 i, s].toArray w fun v w' => ∃ (b : Bool) (tp s2 : Value), v = .tuple [tp, s2, .bool b].toArray ∧ Out Nil w w' ∧ (b = true → (0 ≤ i ∧ i ≤ 256) ∧ FI l ∧ ∃ (bt bh bc : Nat) (T : Tr) (c' : Int), tp = .pointer (some ⟨bt, 0, none⟩) ∧ T.er = grow 0 (runM l) ∧ w.heap.size ≤ bt ∧ w.heap.size ≤ bc ∧ bt ≠ bc ∧ aM w' bt 90 [.pointer (some ⟨bh, 0, none⟩), T.ptr] ∧ aM w' bc 213 [.int .i64 c'] ∧ aH (fun c => X c ∨ c = bt ∨ c = bc) (GR i T (runM l) bh bc s2) w') := by
 refine bF.aI (N := 52) func7 rfl rfl (by simp) ?_
 have H := ((((St.begin hX).add (cE jO)).add (cE fN)).add (cE dA)).add (cE bT)
 refine WE.aA (WL.as rfl rfl (WL.as rfl rfl (WL.as rfl rfl (WL.nil (WE.seq (WE.aA (WL.mv rfl rfl ?_)))))))
 refine WL.call aIq rfl (X1 (i := i) H.aS  ) ?_
 rintro _ w1 ⟨rfl, hO⟩
 replace H := H.out hO
 refine WL.pv (PV.not rfl rfl) rfl (WL.mv rfl rfl ?_)
 refine WL.split (t := 15) rfl (fun sF => ?_) (fun sF => ?_)
 ·
  refine WL.known (t := 14) (c := true) rfl sF ?_
  try simp only [bU] at sF
  refine WL.off rfl (WL.off rfl (WL.off rfl (WL.pv (PV.dB rfl rfl rfl) rfl (WL.nil (WE.kG rfl (WE.aA (WL.as rfl rfl ?_)))))))
  refine WL.as rfl rfl (WL.as rfl rfl (WL.nil (WE.ret ⟨[_, _, _], _, .nil _, ⟨rfl, rfl, rfl, trivial⟩, ?_⟩)))
  exact ⟨false, _, _, rfl, H.aL, fun h => by cases h⟩
 ·
  refine WL.known (t := 14) (c := false) rfl sF ?_
  try simp only [bU] at sF
  have bR : 0 ≤ i ∧ i ≤ 256 := by exact sF
  refine WL.mv rfl rfl ?_
  refine WL.call aFp rfl (DT (s := s) (l := l) H.aS (by exact (H.bK 0 rfl : aH _ (uE s l) _)) (by exact (H.bK 1 rfl : aH _ (iY l) _)) hlen hq) ?_
  rintro _ w2 ⟨n17, rfl, aHZ, hO⟩
  replace H := H.out hO
  refine WL.pv (PV.eql rfl rfl rfl) rfl (WL.pv (PV.cZ rfl rfl rfl) rfl (WL.nil ?_))
  refine WE.cond rfl (fun jL => ?_) (fun jL => ?_)
  ·
   try simp only [bU] at jL
   refine WE.aA (WL.as rfl rfl (WL.as rfl rfl (WL.as rfl rfl (WL.nil (WE.ret ⟨[_, _, _], _, .nil _, ⟨rfl, rfl, rfl, trivial⟩, ?_⟩)))))
   exact ⟨false, _, _, rfl, H.aL, fun h => by cases h⟩
  ·
   try simp only [bU] at jL
   have oY : FI l := aHZ (by exact jL)
   refine WE.skip (WE.aA (WL.mv rfl rfl ?_))
   refine WL.call aER rfl (SZ (i := i) H.aS  bR) ?_
   rintro _ w3 ⟨E1, uQ, xU, rfl, hO, QG, QF, GV, xB, rK, hR⟩
   replace H := H.F9 hO (aN.blk E1 90 [.pointer (some ⟨uQ, 0, none⟩), .pointer none]) (aN.blk xU 213 [.int .i64 0]) xB rK (fun c hc => by cases hc; exact QG) (fun c hc => by cases hc; exact QF) (tX GV) hR
   refine WL.mv rfl rfl (WL.pv (PV.extract rfl rfl rfl) rfl (WL.pv (PV.extract rfl rfl rfl) rfl (WL.as rfl rfl (WL.as rfl rfl (WL.nil (WE.seq (WE.aA ?_)))))))
   refine WL.mv rfl rfl (WL.pv (PV.iX rfl GA rfl rfl) rfl (WL.mv rfl rfl (WL.known (t := 27) (c := false) rfl rfl (WL.mv rfl rfl (WL.pv (PV.neq rfl rfl rfl) rfl (WL.pv (PV.cZ rfl rfl rfl) rfl (WL.mv rfl rfl ?_)))))))
   refine WL.known (t := 31) (c := false) rfl rfl (WL.mv rfl rfl ?_)
   refine WL.call B7 rfl (lC (X := Nil) (bt := E1) (bh := uQ) (T := .nil) (fun _ h => h.elim) (H.pG 0 rfl)) ?_
   rintro _ w4 ⟨rfl, hO⟩
   replace H := H.out hO
   refine WL.pv (PV.iX rfl aDf rfl rfl) rfl (WL.pv (PV.cZ rfl rfl rfl) rfl (WL.nil ?_))
   refine WE.bB rfl rfl ?_
   refine WE.skip (WE.aA (WL.as rfl rfl (WL.nil (WE.seq (WE.aA (WL.mv rfl rfl ?_))))))
   refine WL.pv (PV.dO (by exact (H.p 1 rfl : (uE s l) _)) AZ rfl) rfl ?_
   refine WL.mv rfl rfl (WL.nil (WE.block ?_))
   replace H := H.add (show aH _ (eY (runM (l.take 0))) _ from fun _ _ e he => by rw [List.take_zero] at he; cases he)
   replace H := H.add (show aH _ (fY (.slice none 0 0) (runM (l.take 0))) _ from fun w_ _ => by rw [List.take_zero]; exact cR.nil w_ 33)
   replace H := H.add (show aH _ (cQ i .nil) _ from fun _ _ => trivial)
   refine WE.loop (α := Nat × Value × Tr × Int) (rg [(9, 1), (11, 1), (38, 12)]) (fun p => [(38, .int .i64 (p.1 : Int)), (9, p.2.1)]) (fun p wl => (p.1 ≤ l.length ∧ p.2.2.1.er = grow 0 (runM (l.take p.1))) ∧ St X w wl [] [aN.blk E1 90 [.pointer (some ⟨uQ, 0, none⟩), p.2.2.1.ptr], aN.blk xU 213 [.int .i64 p.2.2.2]] [fF uQ xU i, cQ i p.2.2.1, fY p.2.1 (runM (l.take p.1)), eY (runM (l.take p.1)), uE s l, iY l, aX, dZ]) (fun p => l.length - p.1) (0, .slice none 0 0, .nil, 0) ⟨rfl, rfl, trivial⟩ ⟨⟨Nat.zero_le _, (by dsimp only; rw [List.take_zero]; exact (eG 0).symm)⟩, H.sS [3, 0, 1, 2, 4, 5, 6, 7]⟩ ?_
   intro ⟨j, s2, T, c⟩ γ0 w5 hI
   try dsimp only at hI
   obtain ⟨⟨hj, hT⟩, H⟩ := hI
   try dsimp only at hj hT
   refine WE.aA (WL.pv (PV.lss rfl rfl rfl) rfl (WL.nil (WE.seq ?_)))
   refine WE.cond rfl (fun aBw => ?_) (fun aBw => ?_)
   ·
    try simp only [bU] at aBw
    have hlt : j < l.length := by omega
    have GU := oY.2 _ (List.getElem_mem hlt)
    have rI := dY.run oY j (by omega)
    have aBl := oY.1
    have zR := zA hlt
    refine WE.skip (WE.seq (WE.block (WE.aA ?_)))
    refine WL.pv (PV.eO rfl (by exact (H.p 4 rfl : (uE s l) _)) AZ vW rfl rfl (by omega) (by omega)) rfl ?_
    refine WL.bC rfl SP rfl rfl ((uE.rd (by exact (H.p 4 rfl : (uE s l) _)) j hlt)) (by exact vW) ?_
    refine WL.alloc H rfl aAy rfl ?_
    intro XN w6 H
    refine WL.aT H 0 rfl rfl rfl (new := yO l[j]) rfl (by exact vW) (BE (by exact (H.p 5 rfl : iY l _) _ (List.getElem_mem hlt))) (Laid.at (Laid.all rfl) rfl) rfl ?_
    intro w7 H
    refine WL.nil (WE.eH (WL.mv rfl rfl (WL.mv rfl rfl ?_)))
    refine WL.bC rfl SP rfl rfl (aM.aF (H.l 0 rfl) (aJ.all _) rfl) (by exact vW) ?_
    refine WL.call aFi rfl (aGG (bt := E1) (bh := uQ) (bc := xU) (bits := i) (T := T) (m := (runM (l.take j))) (s2 := s2) (o := l[j]) (nn := 20 * j) H.aS (H.l 2 rfl) (H.l 1 rfl) (by exact (H.jQ 2 1 rfl rfl 0 rfl : aH _ (fF uQ xU i) _)) (by exact (H.jQ 2 1 rfl rfl 1 rfl : aH _ (cQ i T) _)) (by exact (H.jQ 2 1 rfl rfl 2 rfl : aH _ (fY s2 (runM (l.take j))) _)) (by exact (H.jQ 2 1 rfl rfl 3 rfl : aH _ (eY (runM (l.take j))) _)) (by exact (H.jQ 2 1 rfl rfl 5 rfl : aH _ (iY l) _).imp fun _ h => h _ (List.getElem_mem hlt)) (by exact (H.jQ 2 1 rfl rfl 6 rfl : aH _ (aX) _)) (by exact (H.jQ 2 1 rfl rfl 7 rfl : aH _ (dZ) _)) (Ne.symm GV) bR hT rI (by omega) GU.1 GU.2.1 GU.2.2) ?_
    rintro _ w8 ⟨T46, c46, s46, rfl, aEn, hO, xB, rK, G1, EF, Q7⟩
    rw [← zR] at aEn EF Q7
    replace H := H.xN 2 1 rfl rfl (by decide) hO xB rK (aH.aB0 G1 EF Q7)
    replace H := H.aAl (q := cQ i T46) (r := fY s46 (runM (l.take (j + 1)))) (s := eY (runM (l.take (j + 1)))) (fun _ h => h)
    replace H := H.forget 0
    refine WL.mv rfl rfl (WL.pv (PV.extract rfl rfl rfl) rfl (WL.pv (PV.extract rfl rfl rfl) rfl (WL.as rfl rfl (WL.nil (WE.eH (WL.pv (PV.eq (v' := .int .i64 ((j + 1 : Nat) : Int)) (PV.bY rfl rfl rfl (by omega) (by omega)) rfl) rfl (WL.mv rfl rfl ?_)))))))
    refine WL.nil ?_
    exact ⟨(j + 1, s46, T46, c46), (by repeat (first | with_reducible exact bQ.refl _ _ | refine bQ.dG rfl ?_ | refine bQ.cC rfl ?_ | refine bQ.cB rfl ?_)), ⟨rfl, rfl, trivial⟩, rfl, ⟨⟨by dsimp only; omega, aEn⟩, H.sS [3, 0, 1, 2, 7, 8, 9, 10]⟩, (by dsimp only; omega)⟩
   ·
    try simp only [bU] at aBw
    have hje : l.take j = l := List.take_of_length_le (by omega)
    refine WE.exit (WE.aA (WL.mv rfl rfl (WL.mv rfl rfl (WL.as rfl rfl (WL.as rfl rfl (WL.as rfl rfl (WL.nil ?_)))))))
    refine WE.ret ⟨[_, _, _], _, .nil _, ⟨rfl, rfl, rfl, trivial⟩, ?_⟩
    rw [hje] at hT H
    have hgr := ((H.bK 0 rfl).and ((H.bK 1 rfl).and ((H.bK 2 rfl).and (H.bK 3 rfl))))
    replace H := H.add (show aH _ (GR i T (runM l) uQ xU s2) _ from hgr)
    exact ⟨true, _, s2, rfl, H.aL, fun _ => ⟨bR, oY, E1, uQ, xU, T, c, rfl, hT, H.jU _ (List.mem_of_getElem? (i := 0) rfl) _ rfl, H.jU _ (List.mem_of_getElem? (i := 1) rfl) _ rfl, GV, H.l 0 rfl, H.l 1 rfl, H.ZZ 0 rfl⟩⟩
theorem aEB {n : Nat} {m : List En} (h : dY n m) (k : List UInt8) : (gV m k).length ≤ 65535 := by
 unfold gV
 cases hg : getM m k with
 | none => simp
 | some e => exact h.v e (vF hg).1
def qV (m : List En) (l : List o7) : List En := l.foldl oJ m
theorem zB {l : List o7} {m : List En} {j : Nat} (h : j < l.length) : qV m (l.take (j + 1)) = oJ (qV m (l.take j)) l[j] := by
 unfold qV
 rw [List.take_succ_eq_append_getElem h, List.foldl_append]; rfl
theorem dY.qV {l : List o7} {n : Nat} {m : List En} (hm : dY n m) (hf : FI l) : ∀ j, j ≤ l.length → dY (n + 20 * j) (qV m (l.take j))
 | 0, _ => hm
 | j + 1, h => by
  rw [zB (by omega)]
  have h1 := (dY.qV hm hf j (by omega)).do (hf.2 l[j] (List.getElem_mem (by omega))).2.2
  exact h1.more (by omega)
theorem HW {X : Nat → Prop} {w : World} {i : Int} {s s3 : Value} {l l2 : List o7} {k : List UInt8} (hX : cU X w) (bT : aH X (uE s l) w) (dA : aH X (iY l) w) (fN : aH X (uE s3 l2) w) (jO : aH X (iY l2) w) (nE : aH X (aX) w) (rJ : aH X (dZ) w) (hlen : l.length ≤ 9223372036854775807) (hq : ∀ o ∈ l, o.k.length ≤ 9223372036854775807 ∧ o.v.length ≤ 9223372036854775807 ∧ o.b.length ≤ 9223372036854775807 ∧ ∀ u ∈ o.b, u.k.length ≤ 9223372036854775807 ∧ u.v.length ≤ 9223372036854775807) (aDK : l2.length ≤ 9223372036854775807) (LX : ∀ o ∈ l2, o.k.length ≤ 9223372036854775807 ∧ o.v.length ≤ 9223372036854775807 ∧ o.b.length ≤ 9223372036854775807 ∧ ∀ u ∈ o.b, u.k.length ≤ 9223372036854775807 ∧ u.v.length ≤ 9223372036854775807) (hk : k.length = 32) :
  bF prog 4 [.int .i64 i, s, .agg ([s3] ++ kc k).toArray].toArray w fun v w' => v = .bool true ∧ Out Nil w w' := by
 refine bF.aI (N := 95) func4 rfl rfl (by simp) ?_
 have H := ((((((St.begin hX).add (cE rJ)).add (cE nE)).add (cE jO)).add (cE fN)).add (cE dA)).add (cE bT)
 have hs3 : s3.oneCell' = true := cR.fH (fN.here)
 refine WE.aA ?_
 refine WL.box (l := [s3] ++ kc k) H rfl (rfl) rfl ?_
 intro b5 w1 H
 refine WL.as rfl rfl (WL.nil (WE.aA (WL.mv rfl rfl (WL.mv rfl rfl ?_))))
 refine WL.call fb7 rfl (WC (i := i) (s := s) (l := l) H.aS (by exact (H.bK 0 rfl : aH _ (uE s l) _)) (by exact (H.bK 1 rfl : aH _ (iY l) _)) (by exact (H.bK 4 rfl : aH _ (aX) _)) (by exact (H.bK 5 rfl : aH _ (dZ) _)) hlen hq) ?_
 rintro _ w2 ⟨bg, tp, s2, rfl, hO, hG⟩
 have H0_ := H
 have aHX := hO
 replace H := H.out hO
 refine WL.mv rfl rfl (WL.pv (PV.extract rfl rfl rfl) rfl (WL.pv (PV.extract rfl rfl rfl) rfl (WL.pv (PV.extract rfl rfl rfl) rfl (WL.as rfl rfl (WL.as rfl rfl (WL.as rfl rfl (WL.nil ?_)))))))
 refine WE.seq (WE.aA (WL.mv rfl rfl (WL.pv (PV.not rfl rfl) rfl (WL.mv rfl rfl ?_))))
 refine WL.split (t := 27) rfl (fun L6 => ?_) (fun L6 => ?_)
 ·
  refine WL.known (t := 26) (c := true) rfl L6 ?_
  try simp only [bU] at L6
  refine WL.off rfl (WL.off rfl (WL.off rfl (WL.off rfl (WL.pv (PV.dB rfl rfl rfl) rfl (WL.nil (WE.kG rfl (WE.aA ?_)))))))
  refine WL.call fb8 rfl (A2 H.aS (by exact (H.bK 4 rfl : aH _ (aX) _)) (by exact (H.bK 5 rfl : aH _ (dZ) _))) ?_
  rintro _ w3 ⟨rfl, hO⟩
  replace H := H.out hO
  refine WL.as rfl rfl (WL.nil (WE.ret ⟨[_], _, .nil _, ⟨rfl, trivial⟩, ?_⟩))
  refine ⟨?_, H.aL⟩
  rfl
 ·
  refine WL.known (t := 26) (c := false) rfl L6 ?_
  try simp only [bU] at L6
  have hbg : bg = true := by exact L6
  obtain ⟨bR, oY, bt, bh, bc, T, c0, rfl, hT, QG, QF, hne, xB, rK, hGR⟩ := hG hbg
  replace H := H0_.F9 aHX (aN.blk bt 90 [.pointer (some ⟨bh, 0, none⟩), T.ptr]) (aN.blk bc 213 [.int .i64 c0]) xB rK (fun c hc => by cases hc; exact QG) (fun c hc => by cases hc; exact QF) (tX hne) hGR
  replace H := H.aGi (q := fF bh bc i) (r := cQ i T) (s := fY s2 (runM l)) (t := eY (runM l)) (fun _ h => h)
  have rI := oY.map
  have qG := rI.pm
  have hfit : T.er.fit 0 := by rw [hT]; exact xC qG
  have fV : o4 (runM l) := o4.of (H.p 3 rfl : eY (runM l) _)
  have yS := rI.l
  have aJs := fR i T.er
  have hvk : ∀ k, (gV (runM l) k).length ≤ 65535 := aEB rI
  refine WL.pv (PV.fieldAddr rfl RF rfl) rfl (WL.aY rfl aGo rfl rfl (aM.aF (H.l 2 rfl) (aJ.l (aJ.all _)) rfl) ?_)
  refine WL.call aFp rfl (DT (s := s3) (l := l2) H.aS (by exact (H.bK 6 rfl : aH _ (uE s3 l2) _)) (by exact (H.bK 7 rfl : aH _ (iY l2) _)) aDK LX) ?_
  rintro _ w4 ⟨n30, rfl, aHY, hO⟩
  replace H := H.out hO
  refine WL.pv (PV.eql rfl rfl rfl) rfl (WL.pv (PV.cZ rfl rfl rfl) rfl (WL.nil ?_))
  refine WE.cond rfl (fun yV => ?_) (fun yV => ?_)
  ·
   try simp only [bU] at yV
   refine WE.aA ?_
   refine WL.call fb8 rfl (A2 H.aS (by exact (H.bK 8 rfl : aH _ (aX) _)) (by exact (H.bK 9 rfl : aH _ (dZ) _))) ?_
   rintro _ w5 ⟨rfl, hO⟩
   replace H := H.out hO
   refine WL.as rfl rfl (WL.nil (WE.ret ⟨[_], _, .nil _, ⟨rfl, trivial⟩, ?_⟩))
   refine ⟨?_, H.aL⟩
   rfl
  ·
   try simp only [bU] at yV
   have QM : FI l2 := aHY (by exact yV)
   have yT : T.dp k 0 ≤ 256 := by have h_ := Tr.tT (k := k) _ 0 T rfl hfit (by omega); omega
   have hfk := cQ.gF (show cQ i (T.fin k) _ from (H.p 1 rfl : cQ i T _).iF _)
   have hok : iG (pK T k) (Tr.dp k 0 T) (Tr.fin T k).key ((Tr.fin T k).vd i) (lJ T k (Tr.dp k 0 T)) (gA i T k (Tr.dp k 0 T)) := DG hT qG hfit hfk
   have hroot : eP i k (fI i (Tr.dp k 0 T) (lJ T k (Tr.dp k 0 T)) (gA i T k (Tr.dp k 0 T))) (dP (cN (dX (pK T k) (Tr.fin T k).key ((Tr.fin T k).vd i))) i) (Tr.dp k 0 T) = (T.er.kN i) := wH yT
   have tK := LH (bits := i) (k := k) hT qG yT
   have aBl := QM.1
   refine WE.skip (WE.aA (WL.mv rfl rfl (WL.pv (PV.fieldAddr rfl RE rfl) rfl ?_)))
   refine WL.bC rfl cV rfl rfl (aM.aF (H.l 2 rfl) (aJ.r (aJ.all _) rfl) rfl) (cH cM (by simp only [aR, aU, aB, Tr.aP, bD, aV, aD]; omega)) ?_
   refine WL.call aIv rfl (XB (s := s2) (m := (runM l)) (k := k) H.aS (by exact (H.bK 2 rfl : aH _ (fY s2 (runM l)) _)) (by exact (H.bK 3 rfl : aH _ (eY (runM l)) _)) rI.k fV (by omega) hk) ?_
   rintro _ w6 ⟨OB, rfl, aBD, hO, hR⟩
   replace H := (H.out hO).add hR
   replace H := H.add (show aH _ (bI (gS (runM l) k) (gV (runM l) k)) _ from ((by exact (H.bK 4 rfl : aH _ (eY (runM l)) _)) : aH _ (eY (runM l)) _).imp fun _ h => G3 h k)
   refine WL.alloc H rfl KU rfl ?_
   intro sW w7 H
   refine WL.aT H 0 rfl rfl rfl (new := [OB, gS (runM l) k, .bool (iE (runM l) k)]) rfl (by exact K6) (fun v hv => by simp at hv; rcases hv with rfl | rfl | rfl; exact aBD; exact RC fV k; rfl) (Laid.at (Laid.all (by simp only [aR, aU, aB, Tr.aP, bD, aV, aD])) rfl) rfl ?_
   intro w8 H
   refine WL.nil ?_
   refine WE.bG (.take 0 (.take 2 (.take 4 (.take 5 (.aG 1 (.aG 3 (.aG 6 (.aG 7 (.take 8 (.take 9 (.take 10 (.take 11 (.take 12 .done))))))))))))) mixed (by kernel_rfl) ?_
   replace H := H.out (Out.drew _)
   refine WP.mv rfl rfl rfl (WP.mv rfl rfl rfl (WP.aC rfl rfl (PV.fieldAddr rfl RE rfl) ?_))
   refine WP.dF rfl rfl rfl cV rfl (aM.aF (H.l 3 rfl) (aJ.r (aJ.all _) rfl) rfl) (cH cM (by simp only [aR, aU, aB, Tr.aP, bD, aV, aD]; omega)) ?_
   refine WP.aG rfl ?_
   refine WL.call B7 rfl (by exact lC (X := Nil) (bt := bt) (bh := bh) (T := T) (fun _ h => h.elim) (H.pG 1 rfl)) ?_
   rintro _ w9 ⟨rfl, hO⟩
   replace H := H.out hO
   refine WL.nil ⟨(fa (rk hO) c5), ?_⟩
   refine WP.aG rfl ?_
   refine WL.call aFS rfl (by exact KK (X := Nil) (bt := bt) (bh := bh) (T := T) (fun _ h => h.elim) (H.pG 1 rfl)) ?_
   rintro _ vR ⟨rfl, hO⟩
   replace H := H.out hO
   refine WL.nil ⟨(fa (rk hO) c5), ?_⟩
   refine WP.aG rfl ?_
   refine WL.call fb9 rfl (KM (bh := bh) (bc := bc) (bits := i) (T := T) (k := k) H.aS (H.l 2 rfl) (by exact (H.fM 2 rfl 2 rfl : aH _ (fF bh bc i) _)) (by exact (H.fM 2 rfl 3 rfl : aH _ (cQ i T) _)) (by exact (H.fM 2 rfl 10 rfl : aH _ (aX) _)) bR hk hfit) ?_
   rintro _ y8 ⟨m45, aC2, rfl, hO, hB, hR⟩
   have aJr := cR.fH hR.here
   replace H := H.mC 2 rfl hO hB hR
   refine WL.nil ⟨(fa (nw 6 5) c5), ?_⟩
   refine WP.aG rfl ?_
   refine WL.call aFL rfl (FJ (kd := pK T k) (dp := Tr.dp k 0 T) (lk := (Tr.fin T k).key) (lv := (Tr.fin T k).vd i) (B := lJ T k (Tr.dp k 0 T)) (sb := gA i T k (Tr.dp k 0 T)) (sl := aC2) H.aS (by exact (H.bK 0 rfl : aH _ (eQ aC2 (gA i T k (Tr.dp k 0 T))) _)) hok) ?_
   rintro _ IQ ⟨s46, rfl, hO, hR⟩
   replace H := (H.out hO).add hR
   refine WL.nil ⟨(fa (nw 7 5) c5), ?_⟩
   refine WP.mv rfl rfl rfl (WP.aC rfl rfl (PV.extract rfl rfl rfl) (WP.aC rfl rfl (PV.extract rfl rfl rfl) (WP.as rfl rfl rfl (WP.as rfl rfl rfl (WP.done (WE.aA (WL.mv rfl rfl ?_)))))))
   refine WL.call aBO rfl (by exact CG (X := Nil) (bt := bt) (bh := bh) (bc := bc) (bits := i) (T := T) (fun _ h => h.elim) (H.l 2 rfl) (H.aAY 2 1 rfl rfl (by decide)) (by exact (H.sJ 2 rfl 4 rfl : aH _ (fF bh bc i) _)) (by exact (H.sJ 2 rfl 5 rfl : aH _ (cQ i T) _)) (by exact (H.sJ 2 rfl 12 rfl : aH _ (aX) _)) bR) ?_
   rintro _ FP ⟨m50, rfl, hO, hB⟩
   replace H := H.called 2 rfl hO hB
   refine WL.alloc H rfl mQ rfl ?_
   intro b13 K2 H
   refine WL.aT H 0 rfl rfl rfl (new := kc (T.er.kN i)) rfl (cH dJ (by simp only [aR, aU, aB, Tr.aP, bD, aV, aD])) (bJ _) (Laid.at (Laid.all (by simp only [aR, aU, aB, Tr.aP, bD, aV, aD])) rfl) rfl ?_
   intro NY H
   refine WL.nil (WE.seq (WE.aA (WL.pv (PV.fieldAddr rfl RF rfl) rfl (WL.aY rfl aGo rfl rfl (aM.aF (H.l 4 rfl) (aJ.l (aJ.all _)) rfl) ?_))))
   refine WL.pv (PV.dO (by exact (H.p 10 rfl : (uE s3 l2) _)) AZ rfl) rfl ?_
   refine WL.mv rfl rfl (WL.nil (WE.block ?_))
   refine WE.loop (α := Nat × Value × Tr × Int) (rg [(8, 1), (15, 1), (54, 12)]) (fun p => [(54, .int .i64 (p.1 : Int)), (8, p.2.1)]) (fun p wl => (p.1 ≤ l2.length ∧ p.2.2.1.er = grow 0 (qV (runM l) (l2.take p.1))) ∧ St X w wl [] [aN.blk b13 30 (kc (T.er.kN i)), aN.blk sW 48 [OB, gS (runM l) k, .bool (iE (runM l) k)], aN.blk bt 90 [.pointer (some ⟨bh, 0, none⟩), p.2.2.1.ptr], aN.blk bc 213 [.int .i64 p.2.2.2], aN.blk b5 52 ([s3] ++ kc k)] [fF bh bc i, cQ i p.2.2.1, fY p.2.1 (qV (runM l) (l2.take p.1)), eY (qV (runM l) (l2.take p.1)), uE s3 l2, iY l2, aX, dZ, bI s46 (e8 (pK T k) (Tr.dp k 0 T) (Tr.fin T k).key ((Tr.fin T k).vd i) (lJ T k (Tr.dp k 0 T)) (gA i T k (Tr.dp k 0 T))), bI OB k, bI (gS (runM l) k) (gV (runM l) k)]) (fun p => l2.length - p.1) (0, s2, T, m50) ⟨rfl, rfl, trivial⟩ ⟨⟨Nat.zero_le _, hT⟩, H.sS [4, 5, 6, 7, 10, 11, 12, 13, 0, 3, 2]⟩ ?_
   intro ⟨j, s4, U, c⟩ γ0 TV hI
   try dsimp only at hI
   obtain ⟨⟨hj, hU⟩, H⟩ := hI
   try dsimp only at hj hU
   refine WE.aA (WL.pv (PV.lss rfl rfl rfl) rfl (WL.nil (WE.seq ?_)))
   refine WE.cond rfl (fun aBu => ?_) (fun aBu => ?_)
   ·
    try simp only [bU] at aBu
    have hlt : j < l2.length := by omega
    have GU := QM.2 _ (List.getElem_mem hlt)
    have hmj := dY.qV rI QM j (by omega)
    have zR := zB (m := runM l) hlt
    refine WE.skip (WE.seq (WE.block (WE.aA ?_)))
    refine WL.pv (PV.eO rfl (by exact (H.p 4 rfl : (uE s3 l2) _)) AZ vW rfl rfl (by omega) (by omega)) rfl ?_
    refine WL.bC rfl SP rfl rfl ((uE.rd (by exact (H.p 4 rfl : (uE s3 l2) _)) j hlt)) (by exact vW) ?_
    refine WL.alloc H rfl aAy rfl ?_
    intro b15 TU H
    refine WL.aT H 0 rfl rfl rfl (new := yO l2[j]) rfl (by exact vW) (BE (by exact (H.p 5 rfl : iY l2 _) _ (List.getElem_mem hlt))) (Laid.at (Laid.all rfl) rfl) rfl ?_
    intro TT H
    refine WL.nil (WE.eH (WL.mv rfl rfl (WL.mv rfl rfl ?_)))
    refine WL.bC rfl SP rfl rfl (aM.aF (H.l 0 rfl) (aJ.all _) rfl) (by exact vW) ?_
    refine WL.call aFi rfl (aGG (bt := bt) (bh := bh) (bc := bc) (bits := i) (T := U) (m := (qV (runM l) (l2.take j))) (s2 := s4) (o := l2[j]) (nn := 240 + 20 * j) H.aS (H.l 4 rfl) (H.l 3 rfl) (by exact (H.jQ 4 3 rfl rfl 0 rfl : aH _ (fF bh bc i) _)) (by exact (H.jQ 4 3 rfl rfl 1 rfl : aH _ (cQ i U) _)) (by exact (H.jQ 4 3 rfl rfl 2 rfl : aH _ (fY s4 (qV (runM l) (l2.take j))) _)) (by exact (H.jQ 4 3 rfl rfl 3 rfl : aH _ (eY (qV (runM l) (l2.take j))) _)) (by exact (H.jQ 4 3 rfl rfl 5 rfl : aH _ (iY l2) _).imp fun _ h => h _ (List.getElem_mem hlt)) (by exact (H.jQ 4 3 rfl rfl 6 rfl : aH _ (aX) _)) (by exact (H.jQ 4 3 rfl rfl 7 rfl : aH _ (dZ) _)) (Ne.symm hne) bR hU hmj (by omega) GU.1 GU.2.1 GU.2.2) ?_
    rintro _ YQ ⟨T62, c62, s62, rfl, aEl, hO, xB, rK, G1, EF, Q7⟩
    rw [← zR] at aEl EF Q7
    replace H := H.xN 4 3 rfl rfl (by decide) hO xB rK (aH.aB0 G1 EF Q7)
    replace H := H.aAl (q := cQ i T62) (r := fY s62 (qV (runM l) (l2.take (j + 1)))) (s := eY (qV (runM l) (l2.take (j + 1)))) (fun _ h => h)
    replace H := H.forget 0
    refine WL.mv rfl rfl (WL.pv (PV.extract rfl rfl rfl) rfl (WL.pv (PV.extract rfl rfl rfl) rfl (WL.as rfl rfl (WL.nil (WE.eH (WL.pv (PV.eq (v' := .int .i64 ((j + 1 : Nat) : Int)) (PV.bY rfl rfl rfl (by omega) (by omega)) rfl) rfl (WL.mv rfl rfl ?_)))))))
    refine WL.nil ?_
    exact ⟨(j + 1, s62, T62, c62), (by repeat (first | with_reducible exact bQ.refl _ _ | refine bQ.dG rfl ?_ | refine bQ.cC rfl ?_ | refine bQ.cB rfl ?_)), ⟨rfl, rfl, trivial⟩, rfl, ⟨⟨by dsimp only; omega, aEl⟩, H.sS [3, 0, 1, 2, 7, 8, 9, 10, 11, 12, 13]⟩, (by dsimp only; omega)⟩
   ·
    try simp only [bU] at aBu
    have hje : l2.take j = l2 := List.take_of_length_le (by omega)
    have ZD := fR i U.er
    refine WE.exit (WE.aA (WL.mv rfl rfl ?_))
    refine WL.call aBO rfl (by exact CG (X := Nil) (bt := bt) (bh := bh) (bc := bc) (bits := i) (T := U) (fun _ h => h.elim) (H.l 3 rfl) (H.aAY 3 2 rfl rfl (by decide)) (by exact (H.sJ 3 rfl 0 rfl : aH _ (fF bh bc i) _)) (by exact (H.sJ 3 rfl 1 rfl : aH _ (cQ i U) _)) (by exact (H.sJ 3 rfl 6 rfl : aH _ (aX) _)) bR) ?_
    rintro _ w20 ⟨m67, rfl, hO, hB⟩
    replace H := H.called 3 rfl hO hB
    refine WL.alloc H rfl mQ rfl ?_
    intro b16 w21 H
    refine WL.aT H 0 rfl rfl rfl (new := kc (U.er.kN i)) rfl (cH dJ (by simp only [aR, aU, aB, Tr.aP, bD, aV, aD])) (bJ _) (Laid.at (Laid.all (by simp only [aR, aU, aB, Tr.aP, bD, aV, aD])) rfl) rfl ?_
    intro w22 H
    replace H := H.freeze (i := 0) rfl
    replace H := H.add (show aH _ (bI (.slice (some ⟨b16, 0, none⟩) 32 32) (U.er.kN i)) _ from (H.bK 0 rfl).imp fun _ h => bI.bZ h ZD)
    refine WL.nil ?_
    refine WE.bG (.take 0 (.take 2 (.take 3 (.take 4 (.aG 1 (.aG 5 (.take 6 .done))))))) mixed (by kernel_rfl) ?_
    replace H := H.out (Out.drew _)
    refine WP.mv rfl rfl rfl ?_
    refine WP.aC rfl rfl (PV.fO rfl oN (by rw [gY]; rfl) rfl) ?_
    refine WP.dF rfl rfl rfl XT rfl (aM.aF (H.l 1 rfl) (aJ.all _) rfl) (by exact K6) ?_
    refine WP.mv rfl rfl rfl (WP.aG rfl ?_)
    refine WL.call B7 rfl (by exact lC (X := Nil) (bt := bt) (bh := bh) (T := U) (fun _ h => h.elim) (H.pG 2 rfl)) ?_
    rintro _ w23 ⟨rfl, hO⟩
    replace H := H.out hO
    refine WL.nil ⟨(fa (rk hO) c5), ?_⟩
    refine WP.aG rfl ?_
    refine WL.call WX rfl (sO (bh := bh) (bc := bc) (bits := i) (kd := pK T k) (dp := Tr.dp k 0 T) (lk := (Tr.fin T k).key) (lv := (Tr.fin T k).vd i) (B := lJ T k (Tr.dp k 0 T)) (sb := gA i T k (Tr.dp k 0 T)) (k := k) (vv := gV (runM l) k) (rb := (U.er.kN i)) (sr := (.slice (some ⟨b16, 0, none⟩) 32 32)) (sk := OB) (sv := gS (runM l) k) (se := s46) (pr := iE (runM l) k) H.aS (H.l 3 rfl) (by exact (H.fM 3 rfl 2 rfl : aH _ (fF bh bc i) _)) (by exact (H.fM 3 rfl 0 rfl : aH _ (bI (.slice (some ⟨b16, 0, none⟩) 32 32) (U.er.kN i)) _)) (by exact (H.fM 3 rfl 11 rfl : aH _ (bI OB k) _)) (by exact (H.fM 3 rfl 12 rfl : aH _ (bI (gS (runM l) k) (gV (runM l) k)) _)) (by exact (H.fM 3 rfl 10 rfl : aH _ (bI s46 (e8 (pK T k) (Tr.dp k 0 T) (Tr.fin T k).key ((Tr.fin T k).vd i) (lJ T k (Tr.dp k 0 T)) (gA i T k (Tr.dp k 0 T)))) _)) (by exact (H.fM 3 rfl 8 rfl : aH _ (aX) _)) (by exact (H.fM 3 rfl 9 rfl : aH _ (dZ) _)) bR hok hk ZD (hvk k) tK) ?_
    rintro _ w24 ⟨m73, rfl, hO, hB⟩
    replace H := H.called 3 rfl hO hB
    refine WL.nil ⟨(fa (nw 5 3) c5), ?_⟩
    refine WP.as rfl rfl rfl (WP.done (WE.seq (WE.aA ?_)))
    refine WL.bC rfl gT rfl rfl (aM.aF (H.p 1 rfl) (aJ.all _) rfl) (cH dJ (by simp only [aR, aU, aB, Tr.aP, bD, aV, aD])) ?_
    refine WL.bC rfl gT rfl rfl (aM.aF (H.l 0 rfl) (aJ.all _) rfl) (cH dJ (by simp only [aR, aU, aB, Tr.aP, bD, aV, aD])) ?_
    refine WL.pv (PV.B8 rfl oN oW gY (by kernel_rfl) rfl rfl (by assumption) (by assumption)) rfl (WL.nil ?_)
    refine WE.cond rfl (fun QS => ?_) (fun QS => ?_)
    ·
     try simp only [bU] at QS
     have hdd : (U.er.kN i) = (T.er.kN i) := by exact QS
     have QP : (if eP i k (fI i (Tr.dp k 0 T) (lJ T k (Tr.dp k 0 T)) (gA i T k (Tr.dp k 0 T))) (dP (cN (dX (pK T k) (Tr.fin T k).key ((Tr.fin T k).vd i))) i) (Tr.dp k 0 T) = (U.er.kN i) then (0 : Int) else 13) = 0 := if_pos (hroot.trans hdd.symm)
     refine WE.aA ?_
     refine WL.call fb8 rfl (A2 H.aS (by exact (H.bK 8 rfl : aH _ (aX) _)) (by exact (H.bK 9 rfl : aH _ (dZ) _))) ?_
     rintro _ w25 ⟨rfl, hO⟩
     replace H := H.out hO
     refine WL.mv rfl rfl (WL.known (t := 78) (c := true) rfl rfl (WL.mv rfl rfl (WL.pv (PV.eql rfl rfl rfl) rfl (WL.pv (PV.dB rfl rfl rfl) rfl (WL.mv rfl rfl (WL.known (t := 82) (c := true) rfl rfl (WL.mv rfl rfl ?_)))))))
     refine WL.pv (PV.eql rfl rfl rfl) rfl (WL.pv (PV.dB rfl rfl rfl) rfl (WL.as rfl rfl (WL.nil (WE.ret ⟨[_], _, .nil _, ⟨rfl, trivial⟩, ?_⟩))))
     refine ⟨?_, H.aL⟩
     show Value.bool _ = Value.bool true
     congr 1
     (rw [QP]; rfl)
    ·
     try simp only [bU] at QS
     have hdd : ¬ (U.er.kN i) = (T.er.kN i) := by exact QS
     have QP : (if eP i k (fI i (Tr.dp k 0 T) (lJ T k (Tr.dp k 0 T)) (gA i T k (Tr.dp k 0 T))) (dP (cN (dX (pK T k) (Tr.fin T k).key ((Tr.fin T k).vd i))) i) (Tr.dp k 0 T) = (U.er.kN i) then (0 : Int) else 13) = 13 := if_neg (fun h => hdd (h.symm.trans hroot))
     refine WE.skip (WE.aA ?_)
     refine WL.call fb8 rfl (A2 H.aS (by exact (H.bK 8 rfl : aH _ (aX) _)) (by exact (H.bK 9 rfl : aH _ (dZ) _))) ?_
     rintro _ w26 ⟨rfl, hO⟩
     replace H := H.out hO
     refine WL.mv rfl rfl (WL.known (t := 87) (c := true) rfl rfl (WL.mv rfl rfl (WL.pv (PV.eql rfl rfl rfl) rfl (WL.pv (PV.dB rfl rfl rfl) rfl (WL.mv rfl rfl (WL.known (t := 91) (c := true) rfl rfl (WL.mv rfl rfl ?_)))))))
     refine WL.pv (PV.eql rfl rfl rfl) rfl (WL.pv (PV.dB rfl rfl rfl) rfl (WL.as rfl rfl (WL.nil (WE.ret ⟨[_], _, .nil _, ⟨rfl, trivial⟩, ?_⟩))))
     refine ⟨?_, H.aL⟩
     show Value.bool _ = Value.bool true
     congr 1
     (rw [QP]; rfl)
open Go.ChangeShapes Go.WideShapes Go.ChangeAt
def UQ (u : Up) : Prop := u.k.length ≤ 9223372036854775807 ∧ u.v.length ≤ 9223372036854775807
def OQ (o : o7) : Prop := o.k.length ≤ 9223372036854775807 ∧ o.v.length ≤ 9223372036854775807 ∧ o.b.length ≤ 9223372036854775807 ∧ ∀ u ∈ o.b, u.k.length ≤ 9223372036854775807 ∧ u.v.length ≤ 9223372036854775807
theorem aAC {H : Type} {enc : TypeId × Value → H} {W : World} {base : Nat} {sp : Nat → Bool} {held : Bool} : jB enc prog W base sp held 102 3 (fun cs => ∃ u : Up, cs = N3 u ∧ (UQ u ∧ aH Nil (bI u.sk u.k) W ∧ aH Nil (bI u.sv u.v) W)) :=
 (jB.aG3 (t0 := 41) (t1 := 41) (t2 := 4) (by kernel_rfl) (jB.bytes eW oW (by kernel_rfl) (by kernel_rfl)) (jB.bytes eW oW (by kernel_rfl) (by kernel_rfl)) (jB.bool (by kernel_rfl) (by kernel_rfl)) (by kernel_rfl)).mono fun cs ⟨a, b, d, e, ⟨sk, k, e1, h1, h2⟩, ⟨sv, v, e2, h3, h4⟩, x, e3⟩ => ⟨⟨sk, k, sv, v, x⟩, by rw [e, e1, e2, e3, List.append_assoc]; rfl, ⟨h1, h3⟩, h2, h4⟩
theorem PG {H : Type} {enc : TypeId × Value → H} {W : World} {base : Nat} {sp : Nat → Bool} {held : Bool} : jB enc prog W base sp held 56 4 (fun cs => ∃ o : o7, cs = yO o ∧ (OQ o ∧ aH Nil (OV o) W)) :=
 (jB.aG2 (t0 := 3) (t1 := 41) (t2 := 41) (t3 := 54) (by kernel_rfl) (jB.int (t := 3) yD (by kernel_rfl)) (jB.bytes eW oW (by kernel_rfl) (by kernel_rfl)) (jB.bytes eW oW (by kernel_rfl) (by kernel_rfl)) (jB.slices nV (by decide) aAC (by kernel_rfl)) (by kernel_rfl)).mono
  fun cs ⟨a, b, c, d, e, ⟨z, e0, _⟩, ⟨sk, k, e1, h1, h2⟩, ⟨sv, v, e2, h3, h4⟩, sb, l, e3, h5, h6, h7⟩ => ⟨⟨z, sk, k, sv, v, sb, l⟩, by rw [e, e0, e1, e2, e3, List.append_assoc, List.append_assoc]; rfl, ⟨h1, h3, h5, fun u hu => (h6 u hu).1⟩,
   fun w' hw => ⟨h2 w' hw, h4 w' hw, h7 w' hw, fun u hu => ⟨(h6 u hu).2.1 w' hw, (h6 u hu).2.2 w' hw⟩⟩⟩
theorem PD {H : Type} {enc : TypeId × Value → H} {W : World} {r : Reach} {base b0 : Nat} {sp : Nat → Bool} {held : Bool} {t : TypeId} {v : Value} {d : DataW H} {ps : List MemPlace} (ht : cT prog t = some 56) (hval : Value.okWide prog W r b0 t v) (hd : DataW.Trod enc prog W base sp held t v d ps) :
  ∃ l : List o7, l.length ≤ 9223372036854775807 ∧ (∀ o ∈ l, OQ o) ∧ aH Nil (uE v l) W ∧ aH Nil (iY l) W := by
 obtain ⟨l, h1, h2, h3⟩ := DN (C := yO) ht (by decide) PG hval hd
 exact ⟨l, h1, fun o ho => (h2 o ho).1, h3, fun w' hw o ho => (h2 o ho).2 w' hw⟩
theorem BD {H : Type} {enc : TypeId × Value → H} {W : World} {r : Reach} {base b0 : Nat} {sp : Nat → Bool} {held : Bool} {t ts : TypeId} {v : Value} {d : DataW H} {ps : List MemPlace} (hts : cT prog ts = some 56) (hc1 : (prog).cellsOf ts = 1) (ht : K4 prog t = some [(0, ts), (1, 24)]) (hc : (prog).cellsOf t = 1 + 32) (hag : cW prog t = some true) (hval : Value.okWide prog W r b0 t v) (hd : DataW.Trod enc prog W base sp held t v d ps) :
  ∃ (s : Value) (l : List o7) (k : List UInt8), v = .agg ([s] ++ kc k).toArray ∧ k.length = 32 ∧ l.length ≤ 9223372036854775807 ∧ (∀ o ∈ l, OQ o) ∧ aH Nil (uE s l) W ∧ aH Nil (iY l) W := by
 obtain ⟨cs, h1, a, b, rfl, ⟨s, l, rfl, h2, h3, h4⟩, k, rfl, h5⟩ := PE hag (jB.aG4 ht (jB.slices hts (by decide) PG hc1) VN hc) hval hd
 exact ⟨s, l, k, h1, h5, h2, fun o ho => (h3 o ho).1, h4, fun w' hw o ho => (h3 o ho).2 w' hw⟩
end Go.Sp.Tryz
