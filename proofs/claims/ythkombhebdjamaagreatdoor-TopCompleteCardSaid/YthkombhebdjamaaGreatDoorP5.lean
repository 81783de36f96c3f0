/- Part of the proof of this claim: walks through the program's functions and the plain laws that they need, printed by a program of this session. -/
import Derived.Test.YthkombhebdjamaaGreatDoorP4
import Derived.Test.YthkombhebdjamaaGreatDoorP3
import Derived.Test.YthkombhebdjamaaGreatDoorP2
import Derived.Test.YthkombhebdjamaaGreatDoorOpen2
set_option maxRecDepth 100000
set_option maxHeartbeats 1000000
set_option linter.unusedVariables false
set_option linter.unusedSimpArgs false
namespace Go.Sp.Tryz
open Go.Proofs Go.RowKit Go.Sp Go.Sp.TryzT
variable {X : Nat → Prop} {w : World}
theorem St.aBP {X : Nat → Prop} {w0 w : World} {b1 b2 : Nat} {t1 t2 : TypeId} {l1 l2 CE DO : List Value} {L : List aO} {Ps : List (World → Prop)} {p : World → Prop} (H : St X w0 w [aO.blk b1 t1 CE, aO.blk b2 t2 DO] L Ps) (hp : aH (fun c => YY X [aO.blk b1 t1 l1, aO.blk b2 t2 l2] L c ∨ c = b1 ∨ c = b2) p w) : St X w0 w [aO.blk b1 t1 CE, aO.blk b2 t2 DO] L (p :: Ps) :=
 H.add (hp.mono fun c _ hc => by
  rcases hc with hc | ⟨e, he, hb⟩ | hc
  ·
   exact .inl (.inl hc)
  ·
   rcases List.mem_cons.1 he with rfl | he
   ·
    exact .inr (.inl hb)
   ·
    rw [List.mem_singleton.1 he] at hb; exact .inr (.inr hb)
  ·
   exact .inl (.inr (.inr hc)))
theorem fB.rm {m : List En} {k : List UInt8} {w : World} (h : fB m w) : fB (eY m k) w := fun e he => h e (iO.1 he).1
theorem fB.aC1 {m : List En} {k v : List UInt8} {s : Value} {w : World} (h : fB m w) (hs : bI s v w) : fB (gL m ⟨k, s, v⟩) w := fun e he => by
 rcases mZ.1 he with rfl | he
 ·
  exact hs
 ·
  exact h e he.1
theorem fB.dB : ∀ (l : List Up) {m : List En} {w : World}, fB m w → dJ l w → fB (s5 m l) w
 | [], _, _, h, _ => h
 | u :: l, m, w, h, hu => fB.dB l (m := SA m u) (by
  unfold SA
  split
  ·
   exact h.rm
  ·
   exact h.aC1 (hu u (by simp)).2) fun x hx => hu x (List.mem_cons_of_mem _ hx)
def zJ (m : List En) (k : List UInt8) : Bool := decide (k.length = 32) && iQ m k
def yC (m : List En) (k : List UInt8) : List UInt8 := if k.length = 32 then gV m k else []
theorem aFM {m : List En} {o : qU} (h : o.n = 0) : oX m o = if bV o.k o.v = 0 then gL m ⟨o.k, o.sv, o.v⟩ else m := by unfold oX; rw [if_pos h]
theorem aBB {m : List En} {o : qU} (h : o.n = 1) : oX m o = m := by unfold oX; rw [if_neg (by omega), if_pos h]
theorem WQ {m : List En} {o : qU} (h : o.n = 2) : oX m o = if bV o.k [] = 0 then eY m o.k else m := by unfold oX; rw [if_neg (by omega), if_neg (by omega), if_pos h]
theorem aFL {m : List En} {o : qU} (h : o.n ≠ 0 ∧ o.n ≠ 1 ∧ o.n ≠ 2) : oX m o = if (jK o.b).2 = 0 then s5 m o.b else m := by unfold oX; rw [if_neg h.1, if_neg h.2.1, if_neg h.2.2]
theorem RL {m : List En} {o : qU} (h : o.n = 2) (hh : zJ m o.k = true) : oX m o = eY m o.k := by
 unfold zJ at hh
 simp at hh
 rw [WQ h, gR, if_pos hh.1, if_pos rfl]
theorem RK {m : List En} {o : qU} (h : o.n = 2) (hh : zJ m o.k = false) : oX m o = m := by
 unfold zJ at hh
 rw [WQ h, gR]
 by_cases hk : o.k.length = 32
 ·
  rw [if_pos hk, if_pos rfl]
  rw [decide_eq_true hk, Bool.true_and] at hh
  exact A1 hh
 ·
  rw [if_neg hk, if_neg (by decide)]
theorem aGw {X : Nat → Prop} {w : World} {bt bh bc : Nat} {bits c0 : Int} {T : Tr} {m : List En} {s2 : Value} {o : qU} {nn : Nat} (hX : cW X w) (eR : aK w bc 213 ([.int .i64 c0])) (yE : aK w bt 90 ([.pointer (some ⟨bh, 0, none⟩), T.ptr])) (bU : aH (fun c_ => X c_ ∨ c_ = bc ∨ c_ = bt) (fJ bh bc bits) w) (dA : aH (fun c_ => X c_ ∨ c_ = bc ∨ c_ = bt) (cQ bits T) w) (fO : aH (fun c_ => X c_ ∨ c_ = bc ∨ c_ = bt) (gE s2 m) w) (jM : aH (fun c_ => X c_ ∨ c_ = bc ∨ c_ = bt) (fB m) w) (oC : aH (fun c_ => X c_ ∨ c_ = bc ∨ c_ = bt) (OV o) w) (sU : aH (fun c_ => X c_ ∨ c_ = bc ∨ c_ = bt) (aW) w) (CH : aH (fun c_ => X c_ ∨ c_ = bc ∨ c_ = bt) (eE) w) (hne : bc ≠ bt) (bS : 0 ≤ bits ∧ bits ≤ 256) (hT : T.er = grow 0 m) (sD : eT nn m) (Y4 : nn ≤ 500) (ZB : o.k.length ≤ 100) (YZ : o.v.length ≤ 70000) (GQ : CA o.b) (hn : o.n = 0) :
  bD Tryz.prog 17 [.pointer (some ⟨bt, 0, none⟩), s2, .agg (zI o).toArray].toArray w fun v w' => ∃ (T' : Tr) (c' : Int) (s3 : Value), v = .tuple [s3, .bool false].toArray ∧ T'.er = grow 0 (oX m o) ∧ Out (fun c => c = bc ∨ c = bt) w w' ∧ aK w' bc 213 [.int .i64 c'] ∧ aK w' bt 90 [.pointer (some ⟨bh, 0, none⟩), T'.ptr] ∧ aH (fun c => X c ∨ c = bc ∨ c = bt) (cQ bits T') w' ∧ aH (fun c => X c ∨ c = bc ∨ c = bt) (gE s3 (oX m o)) w' ∧ aH (fun c => X c ∨ c = bc ∨ c = bt) (fB (oX m o)) w' := by
 refine bD.aI (N := 132) Tryz.func17 rfl rfl (by simp) ?_
 have H := St.rH (b1 := bc) (b2 := bt) (t1 := 213) (t2 := 90) (l1 := [.int .i64 c0]) (l2 := [.pointer (some ⟨bh, 0, none⟩), T.ptr]) hX eR yE hne
 replace H := H.add (gK CH)
 replace H := H.add (gK sU)
 replace H := H.add (gK oC)
 replace H := H.add (gK jM)
 replace H := H.add (gK fO)
 replace H := H.add (gK dA)
 replace H := H.add (gK bU)
 have DV := o4.of (jM.here)
 have hs := sD.s
 have sS := sD.k
 have yQ := sD.l
 have tM : (List.replicate 32 (0 : UInt8)).length = 32 := List.length_replicate
 refine WE.aA ?_
 refine WL.box (l := zI o) H rfl (by rfl) rfl ?_
 intro b5 w1 H
 refine WL.as rfl rfl (WL.as rfl rfl (WL.nil (WE.seq (WE.aA (WL.pv (PV.fieldAddr rfl tT rfl) rfl ?_)))))
 refine WL.aZ rfl oZ rfl rfl (by exact aK.aF (H.l 0 rfl) aJ.hd (by rfl)) ?_
 refine WL.nil (WE.block (WE.aA (WL.pv (PV.eql rfl rfl rfl) rfl (WL.as rfl rfl (WL.nil ?_)))))
 refine WE.cO rfl (by simp [hn]) ?_
 refine WE.aA (WL.pv (PV.fieldAddr rfl lI rfl) rfl ?_)
 refine WL.aZ rfl eL rfl rfl (by exact aK.aF (H.l 0 rfl) (aJ.tl aJ.hd rfl) (by rfl)) ?_
 refine WL.pv (PV.fieldAddr rfl BZ rfl) rfl ?_
 refine WL.aZ rfl eL rfl rfl (by exact aK.aF (H.l 0 rfl) (aJ.tl (aJ.tl aJ.hd rfl) rfl) (by rfl)) ?_
 refine WL.call WH rfl (nZ (lb := o.k) (vv := o.v) H.aS (by exact (H.bN 4 rfl : aH _ (OV o) _).imp fun _ h => h.1) (by exact (H.bN 4 rfl : aH _ (OV o) _).imp fun _ h => h.2.1)) ?_
 rintro _ w2 ⟨rfl, hO⟩
 replace H := H.out hO
 refine WL.as rfl rfl (WL.nil (WE.seq (WE.aA (WL.mv rfl rfl (WL.pv (PV.fieldAddr rfl lI rfl) rfl ?_)))))
 refine WL.aZ rfl eL rfl rfl (by exact aK.aF (H.l 0 rfl) (aJ.tl aJ.hd rfl) (by rfl)) ?_
 refine WL.pv (PV.fieldAddr rfl BZ rfl) rfl ?_
 refine WL.aZ rfl eL rfl rfl (by exact aK.aF (H.l 0 rfl) (aJ.tl (aJ.tl aJ.hd rfl) rfl) (by rfl)) ?_
 refine WL.call aE3 rfl (SK (bt := bt) (bh := bh) (bc := bc) (bits := bits) (T := T) (m := m) (s := o.sk) (sv := o.sv) (lb := o.k) (vv := o.v) H.aS (H.o 0 rfl) (H.o 1 rfl) (by exact (H.l8 0 rfl : aH _ (fJ bh bc bits) _)) (by exact (H.l8 1 rfl : aH _ (cQ bits T) _)) (by exact (H.l8 4 rfl : aH _ (OV o) _).imp fun _ h => h.1) (by exact (H.l8 4 rfl : aH _ (OV o) _).imp fun _ h => h.2.1) (by exact (H.l8 5 rfl : aH _ (aW) _)) hne bS hT hs sS (by omega) (by omega) (by omega)) ?_
 rintro Z3 w3 ⟨XJ, aJv, ZH, hO, yU, sW, hR, aEg⟩
 have H_ := H.tX hO yU sW hR
 replace H := St.aBP H_ aEg
 refine WL.mv rfl rfl ?_
 refine WL.call WG rfl (u7 (op := [112, 117, 116]) (ix := 0) (code := bV o.k o.v) (ev := Z3) H.aS (by exact (H.bN 8 rfl : aH _ (eE) _)) (by exact (H.bN 0 rfl : aH _ (e8 [112, 117, 116] 0 (bV o.k o.v) Z3) _))) ?_
 rintro _ w4 ⟨rfl, hO⟩
 replace H := H.out hO
 refine WL.nil ?_
 refine WE.bB rfl rfl ?_
 refine WE.skip (WE.seq (WE.aA (WL.mv rfl rfl (WL.pv (PV.neq rfl rfl rfl) rfl (WL.nil ?_)))))
 refine WE.cond rfl (fun xC => ?_) (fun xC => ?_)
 ·
  try simp only [bW] at xC
  have hz : ¬ bV o.k o.v = 0 := by exact xC
  have BN : oX m o = m := by rw [aFM hn, if_neg hz]
  refine WE.aA (WL.mv rfl rfl (WL.as rfl rfl (WL.as rfl rfl (WL.nil (WE.ret ⟨[_, _], _, .nil _, ⟨rfl, rfl, trivial⟩, ?_⟩)))))
  refine ⟨XJ, _, s2, ?_, ?_, H.kU, H.o 0 rfl, H.o 1 rfl, H.fR (by exact (H.bN 1 rfl : aH _ (cQ bits XJ) _)), ?_, ?_⟩
  ·
   rfl
  ·
   rw [ZH, if_neg hz, BN]
  ·
   rw [BN]; exact H.fR (by exact (H.bN 4 rfl : aH _ (gE s2 m) _))
  ·
   rw [BN]; exact H.fR (by exact (H.bN 5 rfl : aH _ (fB m) _))
 ·
  try simp only [bW] at xC
  have hz : bV o.k o.v = 0 := by exact xC
  have BN : oX m o = gL m ⟨o.k, o.sv, o.v⟩ := by rw [aFM hn, if_pos hz]
  have ZA := (c8.1 hz).1
  have aIF := (c8.1 hz).2
  refine WE.skip ?_
  refine WE.bF (.take 0 (.take 1 (.take 2 (.take 4 (.take 5 (.aG 3 (.aG 6 (.take 7 (.take 8 .done))))))))) mixed (by kernel_rfl) ?_
  replace H := H.out (Out.drew _)
  refine WP.mv rfl rfl rfl (WP.aC rfl rfl (PV.fieldAddr rfl lI rfl) ?_)
  refine WP.aQ rfl rfl (RV.aY rfl eL rfl) (by exact aK.aF (H.l 0 rfl) (aJ.tl aJ.hd rfl) (by rfl)) ?_
  refine WP.aC rfl rfl (PV.fieldAddr rfl BZ rfl) ?_
  refine WP.aQ rfl rfl (RV.aY rfl eL rfl) (by exact aK.aF (H.l 0 rfl) (aJ.tl (aJ.tl aJ.hd rfl) rfl) (by rfl)) ?_
  refine WP.aG rfl ?_
  refine WL.call Q6 rfl (r4 (lb := o.k) H.aS (by exact (H.bN 6 rfl : aH _ (OV o) _).imp fun _ h => h.1) ZA) ?_
  rintro _ w5 ⟨rfl, hO⟩
  replace H := H.out hO
  refine WL.nil ⟨(fa (fun _ _ => (by exact aK.aF (H.l 0 rfl) (aJ.tl (aJ.tl aJ.hd rfl) rfl) (by rfl))) (fa (nw 3 2 (by decide +kernel)) cV)), ?_⟩
  refine WP.aG rfl ?_
  refine WL.call aEC rfl (aAi (s := s2) (m := m) (q := o.k) (vv := o.v) H.aS (by exact (H.bN 4 rfl : aH _ (gE s2 m) _)) (by exact (H.bN 6 rfl : aH _ (OV o) _).imp fun _ h => h.2.1) sS DV (by omega) ZA) ?_
  rintro v46 w6 ⟨hO, hR⟩
  replace H := (H.out hO).add (show aH _ (gE v46 (gL m ⟨o.k, o.sv, o.v⟩)) _ from hR)
  refine WL.nil ⟨(fa (nw 6 5 (by decide +kernel)) (fa (nw 6 2 (by decide +kernel)) cV)), ?_⟩
  refine WP.as rfl rfl rfl (WP.as rfl rfl rfl (WP.done (WE.ret ⟨[_, _], _, .nil _, ⟨rfl, rfl, trivial⟩, ?_⟩)))
  refine ⟨XJ, _, v46, ?_, ?_, H.kU, H.o 0 rfl, H.o 1 rfl, H.fR (by exact (H.bN 2 rfl : aH _ (cQ bits XJ) _)), ?_, ?_⟩
  ·
   rfl
  ·
   rw [ZH, if_pos hz, BN]
  ·
   rw [BN]; exact H.fR (by exact (H.bN 0 rfl : aH _ (gE v46 (gL m ⟨o.k, o.sv, o.v⟩)) _))
  ·
   rw [BN]; exact (H.fR (aH.and (show aH _ (fB m) _ from (by exact (H.bN 6 rfl : aH _ (fB m) _))) (show aH _ (OV o) _ from (by exact (H.bN 7 rfl : aH _ (OV o) _))))).imp fun _ h => fB.aC1 h.1 h.2.2.1
theorem aGv {X : Nat → Prop} {w : World} {bt bh bc : Nat} {bits c0 : Int} {T : Tr} {m : List En} {s2 : Value} {o : qU} {nn : Nat} (hX : cW X w) (eR : aK w bc 213 ([.int .i64 c0])) (yE : aK w bt 90 ([.pointer (some ⟨bh, 0, none⟩), T.ptr])) (bU : aH (fun c_ => X c_ ∨ c_ = bc ∨ c_ = bt) (fJ bh bc bits) w) (dA : aH (fun c_ => X c_ ∨ c_ = bc ∨ c_ = bt) (cQ bits T) w) (fO : aH (fun c_ => X c_ ∨ c_ = bc ∨ c_ = bt) (gE s2 m) w) (jM : aH (fun c_ => X c_ ∨ c_ = bc ∨ c_ = bt) (fB m) w) (oC : aH (fun c_ => X c_ ∨ c_ = bc ∨ c_ = bt) (OV o) w) (sU : aH (fun c_ => X c_ ∨ c_ = bc ∨ c_ = bt) (aW) w) (CH : aH (fun c_ => X c_ ∨ c_ = bc ∨ c_ = bt) (eE) w) (hne : bc ≠ bt) (bS : 0 ≤ bits ∧ bits ≤ 256) (hT : T.er = grow 0 m) (sD : eT nn m) (Y4 : nn ≤ 500) (ZB : o.k.length ≤ 100) (YZ : o.v.length ≤ 70000) (GQ : CA o.b) (hn : o.n = 1) :
  bD Tryz.prog 17 [.pointer (some ⟨bt, 0, none⟩), s2, .agg (zI o).toArray].toArray w fun v w' => ∃ (T' : Tr) (c' : Int) (s3 : Value), v = .tuple [s3, .bool false].toArray ∧ T'.er = grow 0 (oX m o) ∧ Out (fun c => c = bc ∨ c = bt) w w' ∧ aK w' bc 213 [.int .i64 c'] ∧ aK w' bt 90 [.pointer (some ⟨bh, 0, none⟩), T'.ptr] ∧ aH (fun c => X c ∨ c = bc ∨ c = bt) (cQ bits T') w' ∧ aH (fun c => X c ∨ c = bc ∨ c = bt) (gE s3 (oX m o)) w' ∧ aH (fun c => X c ∨ c = bc ∨ c = bt) (fB (oX m o)) w' := by
 refine bD.aI (N := 132) Tryz.func17 rfl rfl (by simp) ?_
 have H := St.rH (b1 := bc) (b2 := bt) (t1 := 213) (t2 := 90) (l1 := [.int .i64 c0]) (l2 := [.pointer (some ⟨bh, 0, none⟩), T.ptr]) hX eR yE hne
 replace H := H.add (gK CH)
 replace H := H.add (gK sU)
 replace H := H.add (gK oC)
 replace H := H.add (gK jM)
 replace H := H.add (gK fO)
 replace H := H.add (gK dA)
 replace H := H.add (gK bU)
 have DV := o4.of (jM.here)
 have hs := sD.s
 have sS := sD.k
 have yQ := sD.l
 have tM : (List.replicate 32 (0 : UInt8)).length = 32 := List.length_replicate
 refine WE.aA ?_
 refine WL.box (l := zI o) H rfl (by rfl) rfl ?_
 intro b5 w1 H
 refine WL.as rfl rfl (WL.as rfl rfl (WL.nil (WE.seq (WE.aA (WL.pv (PV.fieldAddr rfl tT rfl) rfl ?_)))))
 refine WL.aZ rfl oZ rfl rfl (by exact aK.aF (H.l 0 rfl) aJ.hd (by rfl)) ?_
 refine WL.nil (WE.block (WE.aA (WL.pv (PV.eql rfl rfl rfl) rfl (WL.as rfl rfl (WL.nil ?_)))))
 refine WE.bB rfl (by simp [hn]) ?_
 refine WE.seq (WE.aA (WL.pv (PV.eql rfl rfl rfl) rfl (WL.as rfl rfl (WL.nil ?_))))
 refine WE.cO rfl (by simp [hn]) ?_
 refine WE.skip ?_
 refine WE.cO rfl (by simp [hn]) ?_
 refine WE.aA (WL.pv (PV.fieldAddr rfl lI rfl) rfl ?_)
 refine WL.aZ rfl eL rfl rfl (by exact aK.aF (H.l 0 rfl) (aJ.tl aJ.hd rfl) (by rfl)) ?_
 refine WL.call WH rfl (nZ (lb := o.k) (vv := []) H.aS (by exact (H.bN 4 rfl : aH _ (OV o) _).imp fun _ h => h.1) (fun w_ _ => bI.nil w_)) ?_
 rintro _ w2 ⟨rfl, hO⟩
 replace H := H.out hO
 refine WL.as rfl rfl (WL.nil (WE.aA (WL.as rfl rfl (WL.nil (WE.aA (WL.as rfl rfl (WL.nil ?_)))))))
 refine WE.cut (α := Value) [10, 11, 53, 54, 55, 56, 57, 58, 59, 60, 61, 62] (fun nF => [(10, nF), (11, .bool (zJ m o.k))]) (fun nF wl => St X w wl [aO.blk bc 213 [.int .i64 c0], aO.blk bt 90 [.pointer (some ⟨bh, 0, none⟩), T.ptr]] [aO.blk b5 56 (zI o)] [bI nF (yC m o.k), fJ bh bc bits, cQ bits T, gE s2 m, fB m, OV o, aW, eE]) ?_ ?_
 ·
  refine WE.aA (WL.mv rfl rfl (WL.pv (PV.eql rfl rfl rfl) rfl (WL.nil ?_)))
  refine WE.cond rfl (fun xB => ?_) (fun xB => ?_)
  ·
   try simp only [bW] at xB
   have GI : bV o.k [] = 0 := by exact xB
   have oV := (c8.1 GI).1
   have hoh : iQ m o.k = zJ m o.k := by unfold zJ; rw [decide_eq_true oV, Bool.true_and]
   have vD : gV m o.k = yC m o.k := by unfold yC; rw [if_pos oV]
   refine WE.eM (WL.mv rfl rfl (WL.pv (PV.fieldAddr rfl lI rfl) rfl ?_))
   refine WL.aZ rfl eL rfl rfl (by exact aK.aF (H.l 0 rfl) (aJ.tl aJ.hd rfl) (by rfl)) ?_
   refine WL.call Q6 rfl (r4 (lb := o.k) H.aS (by exact (H.bN 4 rfl : aH _ (OV o) _).imp fun _ h => h.1) oV) ?_
   rintro _ w3 ⟨rfl, hO⟩
   replace H := H.out hO
   refine WL.call aBy rfl (tF (s := s2) (m := m) (k := o.k) H.aS (by exact (H.bN 2 rfl : aH _ (gE s2 m) _)) sS (by omega) oV) ?_
   rintro _ w4 ⟨rfl, hO⟩
   replace H := H.out hO
   replace H := H.add (show aH _ (bI (gS m o.k) (gV m o.k)) _ from ((by exact (H.bN 3 rfl : aH _ (fB m) _)) : aH _ (fB m) _).imp fun _ h => GU h _)
   refine WL.mv rfl rfl (WL.pv (PV.extract rfl rfl rfl) rfl (WL.pv (PV.extract rfl rfl rfl) rfl (WL.as rfl rfl (WL.as rfl rfl (WL.nil ?_)))))
   exact ⟨(gS m o.k), (by repeat (first | with_reducible exact bQ.refl _ _ | refine bQ.dB rfl ?_)), ⟨rfl, (by (show Value.bool _ = _; rw [hoh])), trivial⟩, rfl, (show St X w _ _ _ [bI (gS m o.k) (yC m o.k), _, _, _, _, _, _, _] by rw [← vD]; exact H)⟩
  ·
   try simp only [bW] at xB
   have GI : ¬ bV o.k [] = 0 := by exact xB
   have oV : ¬ o.k.length = 32 := fun h => GI (by rw [gR, if_pos h])
   have hoh : false = zJ m o.k := by unfold zJ; rw [decide_eq_false oV]; rfl
   have vD : yC m o.k = [] := by unfold yC; rw [if_neg oV]
   refine WE.skip ?_
   exact ⟨(.slice none 0 0), (by repeat (first | with_reducible exact bQ.refl _ _ | refine bQ.dB rfl ?_)), ⟨rfl, (by (show Value.bool _ = _; rw [hoh])), trivial⟩, rfl, H.add (show aH _ (bI (.slice none 0 0) (yC m o.k)) _ from fun w_ _ => by rw [vD]; exact bI.nil w_)⟩
 ·
  intro nF γ w5 hI
  try dsimp only at hI
  replace H := hI
  refine WE.seq (WE.aA (WL.pv (PV.fieldAddr rfl tT rfl) rfl ?_))
  refine WL.aZ rfl oZ rfl rfl (by exact aK.aF (H.l 0 rfl) aJ.hd (by rfl)) ?_
  refine WL.pv (PV.eql rfl rfl rfl) rfl (WL.nil ?_)
  refine WE.cO rfl (by simp [hn]) ?_
  refine WE.aA (WL.mv rfl rfl (WL.pv (PV.fieldAddr rfl lI rfl) rfl ?_))
  refine WL.aZ rfl eL rfl rfl (by exact aK.aF (H.l 0 rfl) (aJ.tl aJ.hd rfl) (by rfl)) ?_
  refine WL.call aIf rfl (aBT (bt := bt) (bh := bh) (bits := bits) (T := T) (m := m) (s := o.sk) (lb := o.k) H.aS (H.o 1 rfl) (by exact (H.aL 1 rfl 2 rfl : aH _ (cQ bits T) _)) (by exact (H.aL 1 rfl 5 rfl : aH _ (OV o) _).imp fun _ h => h.1) hT hs sS (by omega) (by omega)) ?_
  rintro _ w6 ⟨aCC, aBA, rfl, hO, LW, JH⟩
  replace H := H.out hO
  replace H := (H.add (show aH _ (bI aCC (yC m o.k)) _ from (LW.mono fun _ _ h_ => .inl h_))).add (show aH _ (e8 [103, 101, 116] 0 (bV o.k []) aBA) _ from (JH.mono fun _ _ h_ => .inl h_))
  refine WL.mv rfl rfl (WL.pv (PV.extract rfl rfl rfl) rfl (WL.pv (PV.extract rfl rfl rfl) rfl (WL.pv (PV.extract rfl rfl rfl) rfl (WL.as rfl rfl (WL.as rfl rfl (WL.as rfl rfl (WL.nil ?_)))))))
  refine WE.aA (WL.mv rfl rfl (WL.mv rfl rfl (WL.mv rfl rfl ?_)))
  refine WL.call WG rfl (u7 (op := [103, 101, 116]) (ix := 0) (code := (bV o.k [])) (ev := aBA) H.aS (by exact (H.bN 9 rfl : aH _ (eE) _)) (by exact (H.bN 0 rfl : aH _ (e8 [103, 101, 116] 0 ((bV o.k [])) aBA) _))) ?_
  rintro _ w7 ⟨rfl, hO⟩
  replace H := H.out hO
  refine WL.mv rfl rfl ?_
  refine WL.known (t := 78) (c := false) rfl (by rfl) ?_
  refine WL.mv rfl rfl (WL.mv rfl rfl (WL.pv (PV.aDd rfl bo4 rfl rfl) rfl (WL.pv (PV.c5 rfl rfl rfl) rfl (WL.mv rfl rfl ?_))))
  refine WL.known (t := 83) (c := false) rfl (by (simp [zJ]; done)) ?_
  refine WL.mv rfl rfl (WL.mv rfl rfl ?_)
  refine WL.call aEB rfl (SQ (la := yC m o.k) (lb := yC m o.k) H.aS (by exact (H.bN 1 rfl : aH _ (bI aCC (yC m o.k)) _)) (by exact (H.bN 2 rfl : aH _ (bI nF (yC m o.k)) _)) (by have := aBp sD.short o.k; unfold yC; split; omega; simp)) ?_
  rintro _ w8 ⟨rfl, hO⟩
  replace H := H.out hO
  refine WL.pv (PV.not rfl rfl) rfl (WL.pv (PV.c5 rfl rfl rfl) rfl (WL.as rfl rfl (WL.as rfl rfl (WL.nil (WE.ret ⟨[_, _], _, .nil _, ⟨rfl, rfl, trivial⟩, ?_⟩)))))
  refine ⟨T, _, s2, ?_, ?_, H.kU, H.o 0 rfl, H.o 1 rfl, H.fR (by exact (H.bN 4 rfl : aH _ (cQ bits T) _)), ?_, ?_⟩
  ·
   show Value.tuple [s2, .bool (!decide (yC m o.k = yC m o.k))].toArray = _; simp
  ·
   rw [hT, aBB hn]
  ·
   rw [aBB hn]; exact H.fR (by exact (H.bN 5 rfl : aH _ (gE s2 m) _))
  ·
   rw [aBB hn]; exact H.fR (by exact (H.bN 6 rfl : aH _ (fB m) _))
theorem aGu {X : Nat → Prop} {w : World} {bt bh bc : Nat} {bits c0 : Int} {T : Tr} {m : List En} {s2 : Value} {o : qU} {nn : Nat} (hX : cW X w) (eR : aK w bc 213 ([.int .i64 c0])) (yE : aK w bt 90 ([.pointer (some ⟨bh, 0, none⟩), T.ptr])) (bU : aH (fun c_ => X c_ ∨ c_ = bc ∨ c_ = bt) (fJ bh bc bits) w) (dA : aH (fun c_ => X c_ ∨ c_ = bc ∨ c_ = bt) (cQ bits T) w) (fO : aH (fun c_ => X c_ ∨ c_ = bc ∨ c_ = bt) (gE s2 m) w) (jM : aH (fun c_ => X c_ ∨ c_ = bc ∨ c_ = bt) (fB m) w) (oC : aH (fun c_ => X c_ ∨ c_ = bc ∨ c_ = bt) (OV o) w) (sU : aH (fun c_ => X c_ ∨ c_ = bc ∨ c_ = bt) (aW) w) (CH : aH (fun c_ => X c_ ∨ c_ = bc ∨ c_ = bt) (eE) w) (hne : bc ≠ bt) (bS : 0 ≤ bits ∧ bits ≤ 256) (hT : T.er = grow 0 m) (sD : eT nn m) (Y4 : nn ≤ 500) (ZB : o.k.length ≤ 100) (YZ : o.v.length ≤ 70000) (GQ : CA o.b) (hn : o.n = 2) :
  bD Tryz.prog 17 [.pointer (some ⟨bt, 0, none⟩), s2, .agg (zI o).toArray].toArray w fun v w' => ∃ (T' : Tr) (c' : Int) (s3 : Value), v = .tuple [s3, .bool false].toArray ∧ T'.er = grow 0 (oX m o) ∧ Out (fun c => c = bc ∨ c = bt) w w' ∧ aK w' bc 213 [.int .i64 c'] ∧ aK w' bt 90 [.pointer (some ⟨bh, 0, none⟩), T'.ptr] ∧ aH (fun c => X c ∨ c = bc ∨ c = bt) (cQ bits T') w' ∧ aH (fun c => X c ∨ c = bc ∨ c = bt) (gE s3 (oX m o)) w' ∧ aH (fun c => X c ∨ c = bc ∨ c = bt) (fB (oX m o)) w' := by
 refine bD.aI (N := 132) Tryz.func17 rfl rfl (by simp) ?_
 have H := St.rH (b1 := bc) (b2 := bt) (t1 := 213) (t2 := 90) (l1 := [.int .i64 c0]) (l2 := [.pointer (some ⟨bh, 0, none⟩), T.ptr]) hX eR yE hne
 replace H := H.add (gK CH)
 replace H := H.add (gK sU)
 replace H := H.add (gK oC)
 replace H := H.add (gK jM)
 replace H := H.add (gK fO)
 replace H := H.add (gK dA)
 replace H := H.add (gK bU)
 have DV := o4.of (jM.here)
 have hs := sD.s
 have sS := sD.k
 have yQ := sD.l
 have tM : (List.replicate 32 (0 : UInt8)).length = 32 := List.length_replicate
 refine WE.aA ?_
 refine WL.box (l := zI o) H rfl (by rfl) rfl ?_
 intro b5 w1 H
 refine WL.as rfl rfl (WL.as rfl rfl (WL.nil (WE.seq (WE.aA (WL.pv (PV.fieldAddr rfl tT rfl) rfl ?_)))))
 refine WL.aZ rfl oZ rfl rfl (by exact aK.aF (H.l 0 rfl) aJ.hd (by rfl)) ?_
 refine WL.nil (WE.block (WE.aA (WL.pv (PV.eql rfl rfl rfl) rfl (WL.as rfl rfl (WL.nil ?_)))))
 refine WE.bB rfl (by simp [hn]) ?_
 refine WE.seq (WE.aA (WL.pv (PV.eql rfl rfl rfl) rfl (WL.as rfl rfl (WL.nil ?_))))
 refine WE.bB rfl (by simp [hn]) ?_
 refine WE.eM (WL.pv (PV.eql rfl rfl rfl) rfl (WL.as rfl rfl (WL.nil ?_)))
 refine WE.cO rfl (by simp [hn]) ?_
 refine WE.aA (WL.pv (PV.fieldAddr rfl lI rfl) rfl ?_)
 refine WL.aZ rfl eL rfl rfl (by exact aK.aF (H.l 0 rfl) (aJ.tl aJ.hd rfl) (by rfl)) ?_
 refine WL.call WH rfl (nZ (lb := o.k) (vv := []) H.aS (by exact (H.bN 4 rfl : aH _ (OV o) _).imp fun _ h => h.1) (fun w_ _ => bI.nil w_)) ?_
 rintro _ w2 ⟨rfl, hO⟩
 replace H := H.out hO
 refine WL.as rfl rfl (WL.nil (WE.aA (WL.as rfl rfl (WL.nil (WE.aA (WL.as rfl rfl (WL.nil ?_)))))))
 refine WE.cut (α := Value) [10, 11, 53, 54, 55, 56, 57, 58, 59, 60, 61, 62] (fun nF => [(10, nF), (11, .bool (zJ m o.k))]) (fun nF wl => St X w wl [aO.blk bc 213 [.int .i64 c0], aO.blk bt 90 [.pointer (some ⟨bh, 0, none⟩), T.ptr]] [aO.blk b5 56 (zI o)] [bI nF (yC m o.k), fJ bh bc bits, cQ bits T, gE s2 m, fB m, OV o, aW, eE]) ?_ ?_
 ·
  refine WE.aA (WL.mv rfl rfl (WL.pv (PV.eql rfl rfl rfl) rfl (WL.nil ?_)))
  refine WE.cond rfl (fun xB => ?_) (fun xB => ?_)
  ·
   try simp only [bW] at xB
   have GI : bV o.k [] = 0 := by exact xB
   have oV := (c8.1 GI).1
   have hoh : iQ m o.k = zJ m o.k := by unfold zJ; rw [decide_eq_true oV, Bool.true_and]
   have vD : gV m o.k = yC m o.k := by unfold yC; rw [if_pos oV]
   refine WE.eM (WL.mv rfl rfl (WL.pv (PV.fieldAddr rfl lI rfl) rfl ?_))
   refine WL.aZ rfl eL rfl rfl (by exact aK.aF (H.l 0 rfl) (aJ.tl aJ.hd rfl) (by rfl)) ?_
   refine WL.call Q6 rfl (r4 (lb := o.k) H.aS (by exact (H.bN 4 rfl : aH _ (OV o) _).imp fun _ h => h.1) oV) ?_
   rintro _ w3 ⟨rfl, hO⟩
   replace H := H.out hO
   refine WL.call aBy rfl (tF (s := s2) (m := m) (k := o.k) H.aS (by exact (H.bN 2 rfl : aH _ (gE s2 m) _)) sS (by omega) oV) ?_
   rintro _ w4 ⟨rfl, hO⟩
   replace H := H.out hO
   replace H := H.add (show aH _ (bI (gS m o.k) (gV m o.k)) _ from ((by exact (H.bN 3 rfl : aH _ (fB m) _)) : aH _ (fB m) _).imp fun _ h => GU h _)
   refine WL.mv rfl rfl (WL.pv (PV.extract rfl rfl rfl) rfl (WL.pv (PV.extract rfl rfl rfl) rfl (WL.as rfl rfl (WL.as rfl rfl (WL.nil ?_)))))
   exact ⟨(gS m o.k), (by repeat (first | with_reducible exact bQ.refl _ _ | refine bQ.dB rfl ?_)), ⟨rfl, (by (show Value.bool _ = _; rw [hoh])), trivial⟩, rfl, (show St X w _ _ _ [bI (gS m o.k) (yC m o.k), _, _, _, _, _, _, _] by rw [← vD]; exact H)⟩
  ·
   try simp only [bW] at xB
   have GI : ¬ bV o.k [] = 0 := by exact xB
   have oV : ¬ o.k.length = 32 := fun h => GI (by rw [gR, if_pos h])
   have hoh : false = zJ m o.k := by unfold zJ; rw [decide_eq_false oV]; rfl
   have vD : yC m o.k = [] := by unfold yC; rw [if_neg oV]
   refine WE.skip ?_
   exact ⟨(.slice none 0 0), (by repeat (first | with_reducible exact bQ.refl _ _ | refine bQ.dB rfl ?_)), ⟨rfl, (by (show Value.bool _ = _; rw [hoh])), trivial⟩, rfl, H.add (show aH _ (bI (.slice none 0 0) (yC m o.k)) _ from fun w_ _ => by rw [vD]; exact bI.nil w_)⟩
 ·
  intro nF γ w5 hI
  try dsimp only at hI
  replace H := hI
  refine WE.seq (WE.aA (WL.pv (PV.fieldAddr rfl tT rfl) rfl ?_))
  refine WL.aZ rfl oZ rfl rfl (by exact aK.aF (H.l 0 rfl) aJ.hd (by rfl)) ?_
  refine WL.pv (PV.eql rfl rfl rfl) rfl (WL.nil ?_)
  refine WE.bB rfl (by simp [hn]) ?_
  refine WE.skip (WE.aA (WL.mv rfl rfl (WL.pv (PV.fieldAddr rfl lI rfl) rfl ?_)))
  refine WL.aZ rfl eL rfl rfl (by exact aK.aF (H.l 0 rfl) (aJ.tl aJ.hd rfl) (by rfl)) ?_
  refine WL.call aIe rfl (aBU (bt := bt) (bh := bh) (bc := bc) (bits := bits) (T := T) (m := m) (s := o.sk) (lb := o.k) H.aS (H.o 0 rfl) (H.o 1 rfl) (by exact (H.l8 1 rfl : aH _ (fJ bh bc bits) _)) (by exact (H.l8 2 rfl : aH _ (cQ bits T) _)) (by exact (H.l8 5 rfl : aH _ (OV o) _).imp fun _ h => h.1) (by exact (H.l8 6 rfl : aH _ (aW) _)) hne bS hT hs sS (by omega) (by omega)) ?_
  rintro _ w6 ⟨XI, aIj, RH, rfl, aDU, hO, yU, sW, hR, aEf⟩
  have H_ := H.tX hO yU sW hR
  replace H := St.aBP H_ aEf
  refine WL.mv rfl rfl (WL.pv (PV.extract rfl rfl rfl) rfl (WL.pv (PV.extract rfl rfl rfl) rfl (WL.as rfl rfl (WL.as rfl rfl (WL.nil ?_)))))
  refine WE.cut (α := Value) [1, 96, 97, 98, 99, 100, 101] (fun g2_ => [(1, g2_)]) (fun g2_ wl => St X w wl [aO.blk bc 213 [.int .i64 aIj], aO.blk bt 90 [.pointer (some ⟨bh, 0, none⟩), XI.ptr]] [aO.blk b5 56 (zI o)] [gE g2_ (oX m o), e8 [100, 101, 108, 101, 116, 101] 0 (bV o.k []) RH, cQ bits XI, fB m, eE]) ?_ ?_
  ·
   refine WE.aA (WL.mv rfl rfl (WL.nil ?_))
   refine WE.cond rfl (fun QK => ?_) (fun QK => ?_)
   ·
    try simp only [bW] at QK
    have hh : zJ m o.k = true := by exact QK
    have BN := RL hn hh
    have oV : o.k.length = 32 := by unfold zJ at hh; simp at hh; exact hh.1
    refine WE.eM (WL.mv rfl rfl (WL.pv (PV.fieldAddr rfl lI rfl) rfl ?_))
    refine WL.aZ rfl eL rfl rfl (by exact aK.aF (H.l 0 rfl) (aJ.tl aJ.hd rfl) (by rfl)) ?_
    refine WL.call Q6 rfl (r4 (lb := o.k) H.aS (by exact (H.bN 7 rfl : aH _ (OV o) _).imp fun _ h => h.1) oV) ?_
    rintro _ w7 ⟨rfl, hO⟩
    replace H := H.out hO
    refine WL.call aBx rfl (xZ (m := m) (q := o.k) H.aS (by exact (H.bN 5 rfl : aH _ (gE s2 m) _)) sS DV (by omega) oV) ?_
    rintro aAp w8 ⟨hO, hR⟩
    replace H := (H.out hO).add (show aH _ (gE aAp (eY m o.k)) _ from hR)
    refine WL.as rfl rfl (WL.nil ?_)
    exact ⟨aAp, (by repeat (first | with_reducible exact bQ.refl _ _ | refine bQ.dB rfl ?_)), ⟨rfl, trivial⟩, rfl, (show St X w _ _ _ [gE aAp (oX m o), _, _, _, _] by rw [BN]; exact H.rM [0, 1, 2, 7, 10])⟩
   ·
    try simp only [bW] at QK
    have hh : zJ m o.k = false := by exact QK
    have BN := RK hn hh
    refine WE.skip ?_
    exact ⟨s2, (by repeat (first | with_reducible exact bQ.refl _ _ | refine bQ.dB rfl ?_)), ⟨rfl, trivial⟩, rfl, (show St X w _ _ _ [gE s2 (oX m o), _, _, _, _] by rw [BN]; exact H.rM [5, 0, 1, 6, 9])⟩
  ·
   intro g2_ γ w9 hI
   try dsimp only at hI
   replace H := hI
   refine WE.aA (WL.mv rfl rfl (WL.mv rfl rfl (WL.mv rfl rfl ?_)))
   refine WL.call WG rfl (u7 (op := [100, 101, 108, 101, 116, 101]) (ix := 0) (code := (bV o.k [])) (ev := RH) H.aS (by exact (H.bN 4 rfl : aH _ (eE) _)) (by exact (H.bN 1 rfl : aH _ (e8 [100, 101, 108, 101, 116, 101] 0 ((bV o.k [])) RH) _))) ?_
   rintro _ vT ⟨rfl, hO⟩
   replace H := H.out hO
   refine WL.mv rfl rfl ?_
   refine WL.known (t := 106) (c := false) rfl (by rfl) ?_
   refine WL.mv rfl rfl (WL.mv rfl rfl (WL.pv (PV.aDd rfl bo4 rfl rfl) rfl (WL.pv (PV.c5 rfl rfl rfl) rfl (WL.as rfl rfl (WL.as rfl rfl (WL.nil (WE.ret ?_)))))))
   refine ⟨[_, _], _, .nil _, ⟨rfl, rfl, trivial⟩, ?_⟩
   refine ⟨XI, _, g2_, ?_, ?_, H.kU, H.o 0 rfl, H.o 1 rfl, H.fR (by exact (H.bN 2 rfl : aH _ (cQ bits XI) _)), ?_, ?_⟩
   ·
    show Value.tuple [g2_, .bool ((decide (o.k.length = 32) && iQ m o.k) != zJ m o.k)].toArray = _; simp [zJ]
   ·
    rw [aDU, WQ hn]
   ·
    exact H.fR (by exact (H.bN 0 rfl : aH _ (gE g2_ (oX m o)) _))
   ·
    rw [WQ hn]; split; exact (H.fR (by exact (H.bN 3 rfl : aH _ (fB m) _))).imp fun _ h => fB.rm (show fB m _ from h); exact H.fR (by exact (H.bN 3 rfl : aH _ (fB m) _))
theorem aGt {X : Nat → Prop} {w : World} {bt bh bc : Nat} {bits c0 : Int} {T : Tr} {m : List En} {s2 : Value} {o : qU} {nn : Nat} (hX : cW X w) (eR : aK w bc 213 ([.int .i64 c0])) (yE : aK w bt 90 ([.pointer (some ⟨bh, 0, none⟩), T.ptr])) (bU : aH (fun c_ => X c_ ∨ c_ = bc ∨ c_ = bt) (fJ bh bc bits) w) (dA : aH (fun c_ => X c_ ∨ c_ = bc ∨ c_ = bt) (cQ bits T) w) (fO : aH (fun c_ => X c_ ∨ c_ = bc ∨ c_ = bt) (gE s2 m) w) (jM : aH (fun c_ => X c_ ∨ c_ = bc ∨ c_ = bt) (fB m) w) (oC : aH (fun c_ => X c_ ∨ c_ = bc ∨ c_ = bt) (OV o) w) (sU : aH (fun c_ => X c_ ∨ c_ = bc ∨ c_ = bt) (aW) w) (CH : aH (fun c_ => X c_ ∨ c_ = bc ∨ c_ = bt) (eE) w) (hne : bc ≠ bt) (bS : 0 ≤ bits ∧ bits ≤ 256) (hT : T.er = grow 0 m) (sD : eT nn m) (Y4 : nn ≤ 500) (ZB : o.k.length ≤ 100) (YZ : o.v.length ≤ 70000) (GQ : CA o.b) (hn : o.n ≠ 0 ∧ o.n ≠ 1 ∧ o.n ≠ 2) :
  bD Tryz.prog 17 [.pointer (some ⟨bt, 0, none⟩), s2, .agg (zI o).toArray].toArray w fun v w' => ∃ (T' : Tr) (c' : Int) (s3 : Value), v = .tuple [s3, .bool false].toArray ∧ T'.er = grow 0 (oX m o) ∧ Out (fun c => c = bc ∨ c = bt) w w' ∧ aK w' bc 213 [.int .i64 c'] ∧ aK w' bt 90 [.pointer (some ⟨bh, 0, none⟩), T'.ptr] ∧ aH (fun c => X c ∨ c = bc ∨ c = bt) (cQ bits T') w' ∧ aH (fun c => X c ∨ c = bc ∨ c = bt) (gE s3 (oX m o)) w' ∧ aH (fun c => X c ∨ c = bc ∨ c = bt) (fB (oX m o)) w' := by
 refine bD.aI (N := 132) Tryz.func17 rfl rfl (by simp) ?_
 have H := St.rH (b1 := bc) (b2 := bt) (t1 := 213) (t2 := 90) (l1 := [.int .i64 c0]) (l2 := [.pointer (some ⟨bh, 0, none⟩), T.ptr]) hX eR yE hne
 replace H := H.add (gK CH)
 replace H := H.add (gK sU)
 replace H := H.add (gK oC)
 replace H := H.add (gK jM)
 replace H := H.add (gK fO)
 replace H := H.add (gK dA)
 replace H := H.add (gK bU)
 have DV := o4.of (jM.here)
 have hs := sD.s
 have sS := sD.k
 have yQ := sD.l
 have tM : (List.replicate 32 (0 : UInt8)).length = 32 := List.length_replicate
 refine WE.aA ?_
 refine WL.box (l := zI o) H rfl (by rfl) rfl ?_
 intro b5 w1 H
 refine WL.as rfl rfl (WL.as rfl rfl (WL.nil (WE.seq (WE.aA (WL.pv (PV.fieldAddr rfl tT rfl) rfl ?_)))))
 refine WL.aZ rfl oZ rfl rfl (by exact aK.aF (H.l 0 rfl) aJ.hd (by rfl)) ?_
 refine WL.nil (WE.block (WE.aA (WL.pv (PV.eql rfl rfl rfl) rfl (WL.as rfl rfl (WL.nil ?_)))))
 refine WE.bB rfl (by simp [hn]) ?_
 refine WE.seq (WE.aA (WL.pv (PV.eql rfl rfl rfl) rfl (WL.as rfl rfl (WL.nil ?_))))
 refine WE.bB rfl (by simp [hn]) ?_
 refine WE.eM (WL.pv (PV.eql rfl rfl rfl) rfl (WL.as rfl rfl (WL.nil ?_)))
 refine WE.bB rfl (by simp [hn]) ?_
 refine WE.skip (WE.aA (WL.pv (PV.fieldAddr rfl BX rfl) rfl ?_))
 refine WL.aZ rfl XH rfl rfl (by exact aK.aF (H.l 0 rfl) (aJ.tl (aJ.tl (aJ.tl aJ.hd rfl) rfl) rfl) (by rfl)) ?_
 refine WL.call aIc rfl (WW (s := o.sb) (l := o.b) H.aS (by exact (H.bN 4 rfl : aH _ (OV o) _).imp fun _ h => h.2.2.1) (by exact (H.bN 4 rfl : aH _ (OV o) _).imp fun _ h => h.2.2.2) (by have := GQ.1; omega) (fun u hu => ⟨Nat.le_trans (GQ.2 u hu).1 (by decide), Nat.le_trans (GQ.2 u hu).2 (by decide)⟩)) ?_
 rintro _ w2 ⟨rfl, hO⟩
 replace H := H.out hO
 refine WL.mv rfl rfl (WL.pv (PV.extract rfl rfl rfl) rfl (WL.pv (PV.extract rfl rfl rfl) rfl (WL.as rfl rfl (WL.as rfl rfl (WL.nil (WE.seq (WE.aA ?_)))))))
 refine WL.mv rfl rfl (WL.pv (PV.fieldAddr rfl BX rfl) rfl ?_)
 refine WL.aZ rfl XH rfl rfl (by exact aK.aF (H.l 0 rfl) (aJ.tl (aJ.tl (aJ.tl aJ.hd rfl) rfl) rfl) (by rfl)) ?_
 refine WL.call aId rfl (SM (bt := bt) (bh := bh) (bc := bc) (bits := bits) (T := T) (m := m) (s := o.sb) (l := o.b) H.aS (H.o 0 rfl) (H.o 1 rfl) (by exact (H.l8 0 rfl : aH _ (fJ bh bc bits) _)) (by exact (H.l8 1 rfl : aH _ (cQ bits T) _)) (by exact (H.l8 4 rfl : aH _ (OV o) _).imp fun _ h => h.2.2.1) (by exact (H.l8 4 rfl : aH _ (OV o) _).imp fun _ h => h.2.2.2) (by exact (H.l8 5 rfl : aH _ (aW) _)) hne bS hT hs sS (by omega) (by have := GQ.1; omega) (fun u hu => ⟨Nat.le_trans (GQ.2 u hu).1 (by decide), Nat.le_trans (GQ.2 u hu).2 (by decide)⟩)) ?_
 rintro RI w3 ⟨KC, aIP, QZ, hO, yU, sW, hR, aBo⟩
 have H_ := H.tX hO yU sW hR
 replace H := St.aBP H_ aBo
 refine WL.mv rfl rfl (WL.mv rfl rfl ?_)
 refine WL.call WG rfl (u7 (op := [97, 112, 112, 108, 121]) (ix := (((jK o.b).1 : Nat) : Int)) (code := (jK o.b).2) (ev := RI) H.aS (by exact (H.bN 8 rfl : aH _ (eE) _)) (by exact (H.bN 0 rfl : aH _ (e8 [97, 112, 112, 108, 121] (((jK o.b).1 : Nat) : Int) ((jK o.b).2) RI) _))) ?_
 rintro _ w4 ⟨rfl, hO⟩
 replace H := H.out hO
 refine WL.nil ?_
 refine WE.bB rfl rfl ?_
 refine WE.skip (WE.seq (WE.aA (WL.mv rfl rfl (WL.pv (PV.neq rfl rfl rfl) rfl (WL.nil ?_)))))
 refine WE.cond rfl (fun D3 => ?_) (fun D3 => ?_)
 ·
  try simp only [bW] at D3
  have hz : ¬ (jK o.b).2 = 0 := by exact D3
  have BN : oX m o = m := by rw [aFL hn, if_neg hz]
  refine WE.aA (WL.mv rfl rfl (WL.as rfl rfl (WL.as rfl rfl (WL.nil (WE.ret ⟨[_, _], _, .nil _, ⟨rfl, rfl, trivial⟩, ?_⟩)))))
  refine ⟨KC, _, s2, ?_, ?_, H.kU, H.o 0 rfl, H.o 1 rfl, H.fR (by exact (H.bN 1 rfl : aH _ (cQ bits KC) _)), ?_, ?_⟩
  ·
   rfl
  ·
   rw [QZ, if_neg hz, BN]
  ·
   rw [BN]; exact H.fR (by exact (H.bN 4 rfl : aH _ (gE s2 m) _))
  ·
   rw [BN]; exact H.fR (by exact (H.bN 5 rfl : aH _ (fB m) _))
 ·
  try simp only [bW] at D3
  have hz : (jK o.b).2 = 0 := by exact D3
  have BN : oX m o = s5 m o.b := by rw [aFL hn, if_pos hz]
  have hgu := tW hz
  refine WE.skip (WE.aA (WL.mv rfl rfl (WL.pv (PV.fieldAddr rfl BX rfl) rfl ?_)))
  refine WL.aZ rfl XH rfl rfl (by exact aK.aF (H.l 0 rfl) (aJ.tl (aJ.tl (aJ.tl aJ.hd rfl) rfl) rfl) (by rfl)) ?_
  refine WL.call aH6 rfl (XE (s2 := s2) (s := o.sb) (m := m) (l := o.b) H.aS (by exact (H.bN 4 rfl : aH _ (gE s2 m) _)) (by exact (H.bN 6 rfl : aH _ (OV o) _).imp fun _ h => h.2.2.1) (by exact (H.bN 6 rfl : aH _ (OV o) _).imp fun _ h => h.2.2.2) (sD.more (by omega)) DV hgu (by have := GQ.1; omega)) ?_
  rintro v131 w5 ⟨hO, hR⟩
  replace H := (H.out hO).add (show aH _ (gE v131 (s5 m o.b)) _ from hR)
  refine WL.as rfl rfl (WL.as rfl rfl (WL.nil (WE.ret ⟨[_, _], _, .nil _, ⟨rfl, rfl, trivial⟩, ?_⟩)))
  refine ⟨KC, _, v131, ?_, ?_, H.kU, H.o 0 rfl, H.o 1 rfl, H.fR (by exact (H.bN 2 rfl : aH _ (cQ bits KC) _)), ?_, ?_⟩
  ·
   rfl
  ·
   rw [QZ, if_pos hz, BN]
  ·
   rw [BN]; exact H.fR (by exact (H.bN 0 rfl : aH _ (gE v131 (s5 m o.b)) _))
  ·
   rw [BN]; exact (H.fR (aH.and (show aH _ (fB m) _ from (by exact (H.bN 6 rfl : aH _ (fB m) _))) (show aH _ (OV o) _ from (by exact (H.bN 7 rfl : aH _ (OV o) _))))).imp fun _ h => fB.dB o.b h.1 h.2.2.2.2
theorem aIE {X : Nat → Prop} {w : World} {bt bh bc : Nat} {bits c0 : Int} {T : Tr} {m : List En} {s2 : Value} {o : qU} {nn : Nat} (hX : cW X w) (eR : aK w bc 213 [.int .i64 c0]) (yE : aK w bt 90 [.pointer (some ⟨bh, 0, none⟩), T.ptr])
  (bU : aH (fun c => X c ∨ c = bc ∨ c = bt) (fJ bh bc bits) w) (dA : aH (fun c => X c ∨ c = bc ∨ c = bt) (cQ bits T) w) (fO : aH (fun c => X c ∨ c = bc ∨ c = bt) (gE s2 m) w) (jM : aH (fun c => X c ∨ c = bc ∨ c = bt) (fB m) w) (oC : aH (fun c => X c ∨ c = bc ∨ c = bt) (OV o) w) (sU : aH (fun c => X c ∨ c = bc ∨ c = bt) aW w) (CH : aH (fun c => X c ∨ c = bc ∨ c = bt) eE w)
  (hne : bc ≠ bt) (bS : 0 ≤ bits ∧ bits ≤ 256) (hT : T.er = grow 0 m) (sD : eT nn m) (Y4 : nn ≤ 500) (ZB : o.k.length ≤ 100) (YZ : o.v.length ≤ 70000) (GQ : CA o.b) :
  bD Tryz.prog 17 [.pointer (some ⟨bt, 0, none⟩), s2, .agg (zI o).toArray].toArray w (fun v w' => ∃ (T' : Tr) (c' : Int) (s3 : Value), v = .tuple [s3, .bool false].toArray ∧ T'.er = grow 0 (oX m o) ∧ Out (fun c => c = bc ∨ c = bt) w w' ∧ aK w' bc 213 [.int .i64 c'] ∧ aK w' bt 90 [.pointer (some ⟨bh, 0, none⟩), T'.ptr] ∧ aH (fun c => X c ∨ c = bc ∨ c = bt) (cQ bits T') w' ∧ aH (fun c => X c ∨ c = bc ∨ c = bt) (gE s3 (oX m o)) w' ∧ aH (fun c => X c ∨ c = bc ∨ c = bt) (fB (oX m o)) w') := by
 by_cases h0 : o.n = 0
 ·
  exact aGw hX eR yE bU dA fO jM oC sU CH hne bS hT sD Y4 ZB YZ GQ h0
 ·
  by_cases h1 : o.n = 1
  ·
   exact aGv hX eR yE bU dA fO jM oC sU CH hne bS hT sD Y4 ZB YZ GQ h1
  ·
   by_cases h2 : o.n = 2
   ·
    exact aGu hX eR yE bU dA fO jM oC sU CH hne bS hT sD Y4 ZB YZ GQ h2
   ·
    exact aGt hX eR yE bU dA fO jM oC sU CH hne bS hT sD Y4 ZB YZ GQ ⟨h0, h1, h2⟩
def GR (bits : Int) (T : Tr) (m : List En) (bh bc : Nat) (s2 : Value) (w : World) : Prop := fJ bh bc bits w ∧ cQ bits T w ∧ gE s2 m w ∧ fB m w
section
variable {X : Nat → Prop} {w0 w w' : World} {O L : List aO} {Ps : List (World → Prop)} {p : World → Prop}
theorem _root_.Go.Sp.St.aF5 (H : St X w0 w O L (p :: Ps)) {q r s : World → Prop} (hp : ∀ w, p w → q w ∧ r w ∧ s w) : St X w0 w O L (q :: r :: s :: Ps) :=
 have h := H.bN 0 rfl
 ((((H.drop (HQ := Ps) fun _ h => List.mem_cons_of_mem _ h).add (p := s) (h.imp fun _ h => (hp _ h).2.2)).add (p := r) (h.imp fun _ h => (hp _ h).2.1)).add (p := q) (h.imp fun _ h => (hp _ h).1))
theorem _root_.Go.Sp.St.aF4 (H : St X w0 w O L (p :: Ps)) {q r s t : World → Prop} (hp : ∀ w, p w → q w ∧ r w ∧ s w ∧ t w) : St X w0 w O L (q :: r :: s :: t :: Ps) :=
 have h := H.bN 0 rfl
 (((((H.drop (HQ := Ps) fun _ h => List.mem_cons_of_mem _ h).add (p := t) (h.imp fun _ h => (hp _ h).2.2.2)).add (p := s) (h.imp fun _ h => (hp _ h).2.2.1)).add (p := r) (h.imp fun _ h => (hp _ h).2.1)).add (p := q) (h.imp fun _ h => (hp _ h).1))
theorem _root_.Go.Sp.St.aDa (H : St X w0 w O L Ps) (i j : Nat) {b b2 : Nat} {t t2 : TypeId} {l l2 : List Value} (hi : L[i]? = some (aO.blk b t l)) (hj : L[j]? = some (aO.blk b2 t2 l2)) (hij : i ≠ j) : aH (fun c => Nil c ∨ c = b) (fun w => cX w ⟨b2, 0, none⟩ l2) w :=
 (aH.FH (H.lE i j hi hj hij)).imp fun _ h => aK.rd h
theorem _root_.Go.Sp.St.z1 (H : St X w0 w O L Ps) (i : Nat) {b : Nat} {t : TypeId} {l : List Value} (hi : L[i]? = some (aO.blk b t l)) (n : Nat) (hp : Ps[n]? = some p) : aH (fun c => Nil c ∨ c = b) p w := (H.eX i hi n hp).wk
theorem _root_.Go.Sp.St.mA (H : St X w0 w O L Ps) (j : Nat) {b2 : Nat} {t2 : TypeId} {l2 : List Value} (hj : L[j]? = some (aO.blk b2 t2 l2)) : aH Nil (fun w => cX w ⟨b2, 0, none⟩ l2) w := (H.UN j hj).imp fun _ h => aK.rd h
end
theorem eT.pm {n : Nat} {m : List En} (h : eT n m) : Pm 0 m := h.s.pm h.k
theorem MY.map {l : List qU} (h : MY l) : eT 240 (runM l) := by
 have h1 := eT.run h l.length (Nat.le_refl _)
 rw [List.take_length] at h1
 have := h.1
 exact h1.more (by omega)
theorem aBq {m : List En} (h : o4 m) (k : List UInt8) : (gS m k).oneCell' = true := by
 unfold gS
 cases hg : getM m k with
 | none => rfl
 | some e => exact h e (vG hg).1
theorem WV {X : Nat → Prop} {w : World} {s : Value} {m : List En} {k : List UInt8} (hX : cW X w) (bU : aH X (gE s m) w) (dA : aH X (fB m) w) (pW : KL m) (gC : o4 m) (hlen : m.length ≤ 1000000) (hk : k.length = 32) :
  bD Tryz.prog 15 [s, .agg (kc k).toArray].toArray w fun v w' => ∃ sk, v = .agg [sk, gS m k, .bool (iQ m k)].toArray ∧ sk.oneCell' = true ∧ Out Nil w w' ∧ aH X (bI sk k) w' := by
 refine bD.aI (N := 19) Tryz.func15 rfl rfl (by simp) ?_
 have H := St.begin hX
 replace H := H.add (cF dA)
 replace H := H.add (cF bU)
 have hg1 := aBq gC k
 refine WE.aA ?_
 refine WL.box (l := kc k) H rfl (by rfl) rfl ?_
 intro b3 w1 H
 refine WL.alloc H rfl ND rfl ?_
 intro b4 w2 H
 refine WL.nil (WE.aA (WL.mv rfl rfl ?_))
 refine WL.bG rfl cU rfl rfl (by exact aK.aF (H.l 1 rfl) (aJ.all _) (by rfl)) (cI cN (by simp only [aR, aU, aB, aD]; omega)) ?_
 refine WL.call aBy rfl (tF (s := s) (m := m) (k := k) H.aS (by exact (H.bN 0 rfl : aH _ (gE s m) _)) pW hlen hk) ?_
 rintro _ w3 ⟨rfl, hO⟩
 replace H := H.out hO
 refine WL.mv rfl rfl (WL.pv (PV.extract rfl rfl rfl) rfl (WL.pv (PV.extract rfl rfl rfl) rfl (WL.as rfl rfl (WL.as rfl rfl (WL.nil (WE.aA ?_))))))
 refine WL.bJ (l0 := []) H rfl jZ (by decide) (dG _ _) Fl.nil rfl ?_
 intro b13 w4 H
 replace H := H.IK (n := 0) (sz := 1) (i := 0) rfl rfl (by decide)
 refine WL.pv (PV.fP rfl gQ (by rw [iB]; rfl) rfl) rfl ?_
 refine WL.append (m := k.length) H 0 jZ (by decide) rfl rfl rfl (bI.cA (H.l 2 rfl) hk : bI _ k _) (bK _) (by omega) (by decide) rfl ?_
 intro v15 w5 H
 have VM := iN (H.l 0 rfl)
 replace H := H.conv (L' := [aO.iA w.heap.size v15 5 1 k.length (kc k), aO.blk b4 48 [.slice none 0 0, .slice none 0 0, .bool false], aO.blk b3 24 (kc k)]) (by rw [Nat.zero_add]; rfl)
 refine WL.mv rfl rfl (WL.mv rfl rfl ?_)
 refine WL.pv (PV.dD rfl UX ND (Fl.cons rfl (cells_one VM) (by simp only [aR, aU, aB, aD]) Laid.head (Fl.cons rfl (cells_one hg1) (by simp only [aR, aU, aB, aD]) (Laid.tail Laid.head rfl) (Fl.cons rfl (rfl) (by simp only [aR, aU, aB, aD]) (Laid.tail (Laid.tail Laid.head rfl) rfl) Fl.nil)))) rfl ?_
 refine WL.aT H 1 rfl rfl rfl (new := [v15, gS m k, .bool (iQ m k)]) rfl (by exact T9) (fun v hv => by simp at hv; rcases hv with rfl | rfl | rfl; exact VM; exact hg1; rfl) (Laid.at (Laid.all (by simp only [aR, aU, aB, aD])) (by rfl)) rfl ?_
 intro w6 H
 refine WL.nil (WE.ret ⟨[_], _, .nil _, ⟨⟨_, rfl, aV aBN (by exact aK.aF (H.l 1 rfl) (aJ.all _) rfl) (by exact T9)⟩, trivial⟩, ?_⟩)
 replace H := H.freeze (i := 0) rfl
 exact ⟨v15, rfl, VM, H.aM, (H.gU (H.bN 0 rfl)).imp fun _ h => bI.eH h⟩
def Ez (sv : Value) : En := ⟨(List.replicate 32 (0 : UInt8)), sv, [7]⟩
theorem aGs (sv : Value) : Pm 0 [Ez sv] := Pm.zero (fun e he => by rw [List.mem_singleton.1 he]; rfl) (List.pairwise_singleton _ _)
theorem HV {a1 : Nat} {s1 : Value} : uT (pK (.leaf a1 (List.replicate 32 (0 : UInt8)) [7] s1 : Tr) (List.replicate 32 (0 : UInt8))) (Tr.dp (List.replicate 32 (0 : UInt8)) 0 (.leaf a1 (List.replicate 32 (0 : UInt8)) [7] s1 : Tr)) (Tr.fin (.leaf a1 (List.replicate 32 (0 : UInt8)) [7] s1 : Tr) (List.replicate 32 (0 : UInt8))).key ((Tr.fin (.leaf a1 (List.replicate 32 (0 : UInt8)) [7] s1 : Tr) (List.replicate 32 (0 : UInt8))).vd 256) (List.replicate 32 (0 : UInt8)) (mQ 256 [7]) true := ⟨fun _ => ⟨rfl, rfl, rfl⟩, fun h => by cases h⟩
theorem aCa {a1 : Nat} {s1 : Value} (hp : iG (pK (.leaf a1 (List.replicate 32 (0 : UInt8)) [7] s1 : Tr) (List.replicate 32 (0 : UInt8))) (Tr.dp (List.replicate 32 (0 : UInt8)) 0 (.leaf a1 (List.replicate 32 (0 : UInt8)) [7] s1 : Tr)) (Tr.fin (.leaf a1 (List.replicate 32 (0 : UInt8)) [7] s1 : Tr) (List.replicate 32 (0 : UInt8))).key ((Tr.fin (.leaf a1 (List.replicate 32 (0 : UInt8)) [7] s1 : Tr) (List.replicate 32 (0 : UInt8))).vd 256) (lF (.leaf a1 (List.replicate 32 (0 : UInt8)) [7] s1 : Tr) (List.replicate 32 (0 : UInt8)) (Tr.dp (List.replicate 32 (0 : UInt8)) 0 (.leaf a1 (List.replicate 32 (0 : UInt8)) [7] s1 : Tr))) (fZ 256 (.leaf a1 (List.replicate 32 (0 : UInt8)) [7] s1 : Tr) (List.replicate 32 (0 : UInt8)) (Tr.dp (List.replicate 32 (0 : UInt8)) 0 (.leaf a1 (List.replicate 32 (0 : UInt8)) [7] s1 : Tr)))) : (fA (pK (.leaf a1 (List.replicate 32 (0 : UInt8)) [7] s1 : Tr) (List.replicate 32 (0 : UInt8))) (Tr.dp (List.replicate 32 (0 : UInt8)) 0 (.leaf a1 (List.replicate 32 (0 : UInt8)) [7] s1 : Tr)) (Tr.fin (.leaf a1 (List.replicate 32 (0 : UInt8)) [7] s1 : Tr) (List.replicate 32 (0 : UInt8))).key ((Tr.fin (.leaf a1 (List.replicate 32 (0 : UInt8)) [7] s1 : Tr) (List.replicate 32 (0 : UInt8))).vd 256) (lF (.leaf a1 (List.replicate 32 (0 : UInt8)) [7] s1 : Tr) (List.replicate 32 (0 : UInt8)) (Tr.dp (List.replicate 32 (0 : UInt8)) 0 (.leaf a1 (List.replicate 32 (0 : UInt8)) [7] s1 : Tr))) (fZ 256 (.leaf a1 (List.replicate 32 (0 : UInt8)) [7] s1 : Tr) (List.replicate 32 (0 : UInt8)) (Tr.dp (List.replicate 32 (0 : UInt8)) 0 (.leaf a1 (List.replicate 32 (0 : UInt8)) [7] s1 : Tr)))).length = 100 := (xK hp).trans rfl
theorem N7 {X : Nat → Prop} {w : World}  (hX : cW X w) (bU : aH X (aW) w) (dA : aH X (eE) w) :
  bD Tryz.prog 8 [].toArray w fun v w' => v = .bool true ∧ Out Nil w w' := by
 refine bD.aI (N := 53) Tryz.func8 rfl rfl (by decide +revert) ?_
 have H := St.begin hX
 replace H := H.add (cF dA)
 replace H := H.add (cF bU)
 refine WE.aA (WL.as rfl rfl (WL.nil (WE.aA ?_)))
 refine WL.call aEF rfl (SL (i := 256) H.aS  (by decide)) ?_
 rintro _ w1 ⟨xR, lM, rI, rfl, hO, QA, P9, Y6, yU, sW, hR⟩
 replace H := H.F2 hO (aO.blk xR 90 [.pointer (some ⟨lM, 0, none⟩), .pointer none]) (aO.blk rI 213 [.int .i64 0]) yU sW (fun c hc => by cases hc; exact QA) (fun c hc => by cases hc; exact P9) (tY Y6) hR
 replace H := H.add (show aH _ (cQ 256 .nil) _ from fun _ _ => trivial)
 refine WL.mv rfl rfl (WL.pv (PV.extract rfl rfl rfl) rfl (WL.pv (PV.extract rfl rfl rfl) rfl (WL.as rfl rfl (WL.as rfl rfl (WL.nil (WE.seq (WE.aA ?_)))))))
 refine WL.mv rfl rfl (WL.pv (PV.iX rfl F3 rfl rfl) rfl (WL.mv rfl rfl ?_))
 refine WL.known (t := 12) (c := false) rfl (by rfl) ?_
 refine WL.mv rfl rfl (WL.pv (PV.neq rfl rfl rfl) rfl (WL.pv (PV.c5 rfl rfl rfl) rfl (WL.mv rfl rfl ?_)))
 refine WL.known (t := 16) (c := false) rfl (by rfl) ?_
 refine WL.mv rfl rfl ?_
 refine WL.makeSlice (n := 32) H rfl jZ rfl (by decide) (by decide) rfl ?_
 intro R5 w3 H
 replace H := H.freeze (i := 0) rfl
 replace H := H.add (show aH _ (bI (.slice (some ⟨R5, 0, none⟩) 32 32) (List.replicate 32 (0 : UInt8))) _ from (H.bN 0 rfl).imp fun _ h => bI.cA h rfl)
 refine WL.bJ (l0 := [.int .u8 (0)]) H rfl jZ (by decide) (dG _ _) (Fl.cons rfl (by rfl) (by simp only [aR, aU, aB, aD]) Laid.head Fl.nil) rfl ?_
 intro b19 w6 H
 replace H := H.freeze (i := 0) rfl
 replace H := H.add ((H.bN 0 rfl).imp fun _ h => bI.cA (l := [7]) h rfl)
 refine WL.call aE3 rfl (SK (bt := xR) (bh := lM) (bc := rI) (bits := 256) (T := .nil) (m := []) (lb := (List.replicate 32 (0 : UInt8))) (vv := [7]) H.aS (H.l 1 rfl) (H.l 0 rfl) (by exact (H.oO 1 0 rfl rfl 5 rfl : aH _ (fJ lM rI 256) _)) (by exact (H.oO 1 0 rfl rfl 4 rfl : aH _ (cQ 256 .nil) _)) (by exact (H.oO 1 0 rfl rfl 2 rfl : aH _ (bI (.slice (some ⟨R5, 0, none⟩) 32 32) (List.replicate 32 (0 : UInt8))) _)) (by exact (H.oO 1 0 rfl rfl 0 rfl : aH _ (bI (.slice (some ⟨b19, 0, none⟩) 1 1) [7]) _)) (by exact (H.oO 1 0 rfl rfl 6 rfl : aH _ (aW) _)) (Ne.symm Y6) (by decide) (eD 0).symm List.Pairwise.nil (fun _ h => by cases h) (by simp) (by simp) (by simp)) ?_
 rintro aJu w7 ⟨T1, c1, VY, hO, yU, sW, hR, hE⟩
 have hz0 : bV (List.replicate 32 (0 : UInt8)) [7] = 0 := c8.2 ⟨rfl, by decide⟩
 obtain rfl := e8.none hE hz0
 have FM : T1.er = .leaf (List.replicate 32 (0 : UInt8)) [7] := VY.trans (by rw [if_pos hz0]; exact dI 0 _)
 obtain ⟨a1, s1, rfl⟩ := Tr.vA FM
 replace H := H.ET 1 0 rfl rfl (by decide) hO yU sW hR
 have hok : iG (pK (.leaf a1 (List.replicate 32 (0 : UInt8)) [7] s1 : Tr) (List.replicate 32 (0 : UInt8))) (Tr.dp (List.replicate 32 (0 : UInt8)) 0 (.leaf a1 (List.replicate 32 (0 : UInt8)) [7] s1 : Tr)) (Tr.fin (.leaf a1 (List.replicate 32 (0 : UInt8)) [7] s1 : Tr) (List.replicate 32 (0 : UInt8))).key ((Tr.fin (.leaf a1 (List.replicate 32 (0 : UInt8)) [7] s1 : Tr) (List.replicate 32 (0 : UInt8))).vd 256) (lF (.leaf a1 (List.replicate 32 (0 : UInt8)) [7] s1 : Tr) (List.replicate 32 (0 : UInt8)) (Tr.dp (List.replicate 32 (0 : UInt8)) 0 (.leaf a1 (List.replicate 32 (0 : UInt8)) [7] s1 : Tr))) (fZ 256 (.leaf a1 (List.replicate 32 (0 : UInt8)) [7] s1 : Tr) (List.replicate 32 (0 : UInt8)) (Tr.dp (List.replicate 32 (0 : UInt8)) 0 (.leaf a1 (List.replicate 32 (0 : UInt8)) [7] s1 : Tr))) := DB (m := [Ez .nilIface]) (dI 0 (Ez .nilIface)).symm (aGs _) trivial rfl
 have aIM := aCa hok
 have hroot : eW 256 (List.replicate 32 (0 : UInt8)) (fN 256 (Tr.dp (List.replicate 32 (0 : UInt8)) 0 (.leaf a1 (List.replicate 32 (0 : UInt8)) [7] s1 : Tr)) (lF (.leaf a1 (List.replicate 32 (0 : UInt8)) [7] s1 : Tr) (List.replicate 32 (0 : UInt8)) (Tr.dp (List.replicate 32 (0 : UInt8)) 0 (.leaf a1 (List.replicate 32 (0 : UInt8)) [7] s1 : Tr))) (fZ 256 (.leaf a1 (List.replicate 32 (0 : UInt8)) [7] s1 : Tr) (List.replicate 32 (0 : UInt8)) (Tr.dp (List.replicate 32 (0 : UInt8)) 0 (.leaf a1 (List.replicate 32 (0 : UInt8)) [7] s1 : Tr)))) (dS (cR (dY (pK (.leaf a1 (List.replicate 32 (0 : UInt8)) [7] s1 : Tr) (List.replicate 32 (0 : UInt8))) (Tr.fin (.leaf a1 (List.replicate 32 (0 : UInt8)) [7] s1 : Tr) (List.replicate 32 (0 : UInt8))).key ((Tr.fin (.leaf a1 (List.replicate 32 (0 : UInt8)) [7] s1 : Tr) (List.replicate 32 (0 : UInt8))).vd 256))) 256) (Tr.dp (List.replicate 32 (0 : UInt8)) 0 (.leaf a1 (List.replicate 32 (0 : UInt8)) [7] s1 : Tr)) = ((.leaf a1 (List.replicate 32 (0 : UInt8)) [7] s1 : Tr).er.lV 256) := wI (Nat.zero_le _)
 have QH := gH 256 (.leaf a1 (List.replicate 32 (0 : UInt8)) [7] s1 : Tr).er
 refine WL.pv (PV.zL rfl (by kernel_rfl) (by exact yF.nil)) rfl ?_
 refine WL.pv (PV.c5 rfl rfl rfl) rfl (WL.nil ?_)
 refine WE.bB rfl (by rfl) ?_
 refine WE.skip (WE.aA (WL.mv rfl rfl ?_))
 refine WL.call aFo rfl (KD (X := Nil) (bt := xR) (bh := lM) (bc := rI) (bits := 256) (T := (.leaf a1 (List.replicate 32 (0 : UInt8)) [7] s1 : Tr)) (fun _ h => h.elim) (H.l 1 rfl) (H.aDa 1 0 rfl rfl (by decide)) (by exact (H.z1 1 rfl 6 rfl : aH _ (fJ lM rI 256) _)) (by exact (H.z1 1 rfl 0 rfl : aH _ (cQ 256 (.leaf a1 (List.replicate 32 (0 : UInt8)) [7] s1 : Tr)) _)) (by exact (H.z1 1 rfl 7 rfl : aH _ (aW) _)) (by decide)) ?_
 rintro _ w8 ⟨m24, rfl, hO, hB⟩
 replace H := H.called 1 rfl hO hB
 refine WL.alloc H rfl nP rfl ?_
 intro b3 w9 H
 refine WL.aT H 0 rfl rfl rfl (new := kc ((.leaf a1 (List.replicate 32 (0 : UInt8)) [7] s1 : Tr).er.lV 256)) rfl (by exact dK) (by exact bK _) (Laid.at (Laid.all (by simp only [aR, aU, aB, aD])) (by rfl)) rfl ?_
 intro vT H
 replace H := H.freeze (i := 0) rfl
 replace H := H.add (show aH _ (bI (.slice (some ⟨b3, 0, none⟩) 32 32) ((.leaf a1 (List.replicate 32 (0 : UInt8)) [7] s1 : Tr).er.lV 256)) _ from (H.bN 0 rfl).imp fun _ h => bI.cA h QH)
 refine WL.nil (WE.aA (WL.mv rfl rfl ?_))
 refine WL.call yV rfl (kK (X := Nil) (bt := xR) (bh := lM) (T := (.leaf a1 (List.replicate 32 (0 : UInt8)) [7] s1 : Tr)) (fun _ h => h.elim) (H.mA 0 rfl)) ?_
 rintro _ y8 ⟨rfl, hO⟩
 replace H := H.out hO
 refine WL.mv rfl rfl ?_
 refine WL.call WM rfl (vO (X := Nil) (bt := xR) (bh := lM) (T := (.leaf a1 (List.replicate 32 (0 : UInt8)) [7] s1 : Tr)) (fun _ h => h.elim) (H.mA 0 rfl)) ?_
 rintro _ IE ⟨rfl, hO⟩
 replace H := H.out hO
 refine WL.pv (PV.mM rfl gQ iB rO Fl.nil) rfl ?_
 refine WL.call fb9 rfl (sO (bh := lM) (bc := rI) (bits := 256) (T := (.leaf a1 (List.replicate 32 (0 : UInt8)) [7] s1 : Tr)) (k := (List.replicate 32 (0 : UInt8))) H.aS (H.l 1 rfl) (by exact (H.eX 1 rfl 8 rfl : aH _ (fJ lM rI 256) _)) (by exact (H.eX 1 rfl 2 rfl : aH _ (cQ 256 (.leaf a1 (List.replicate 32 (0 : UInt8)) [7] s1 : Tr)) _)) (by exact (H.eX 1 rfl 9 rfl : aH _ (aW) _)) (by decide) rfl trivial) ?_
 rintro _ FI ⟨m31, aCP, rfl, hO, hB, hR⟩
 replace H := H.jT 1 rfl hO hB hR
 refine WL.call aFy rfl (FC (kd := pK (.leaf a1 (List.replicate 32 (0 : UInt8)) [7] s1 : Tr) (List.replicate 32 (0 : UInt8))) (dp := Tr.dp (List.replicate 32 (0 : UInt8)) 0 (.leaf a1 (List.replicate 32 (0 : UInt8)) [7] s1 : Tr)) (lk := (Tr.fin (.leaf a1 (List.replicate 32 (0 : UInt8)) [7] s1 : Tr) (List.replicate 32 (0 : UInt8))).key) (lv := (Tr.fin (.leaf a1 (List.replicate 32 (0 : UInt8)) [7] s1 : Tr) (List.replicate 32 (0 : UInt8))).vd 256) (B := lF (.leaf a1 (List.replicate 32 (0 : UInt8)) [7] s1 : Tr) (List.replicate 32 (0 : UInt8)) (Tr.dp (List.replicate 32 (0 : UInt8)) 0 (.leaf a1 (List.replicate 32 (0 : UInt8)) [7] s1 : Tr))) (sb := fZ 256 (.leaf a1 (List.replicate 32 (0 : UInt8)) [7] s1 : Tr) (List.replicate 32 (0 : UInt8)) (Tr.dp (List.replicate 32 (0 : UInt8)) 0 (.leaf a1 (List.replicate 32 (0 : UInt8)) [7] s1 : Tr))) (sl := aCP) H.aS (by exact (H.bN 0 rfl : aH _ (eN aCP _) _)) hok) ?_
 rintro _ KT ⟨M4, rfl, hO, hR⟩
 replace H := (H.out hO).add hR
 refine WL.mv rfl rfl (WL.pv (PV.extract rfl rfl rfl) rfl (WL.pv (PV.extract rfl rfl rfl) rfl (WL.as rfl rfl (WL.as rfl rfl (WL.nil ?_)))))
 refine WE.bF (.take 0 (.take 1 (.take 2 (.take 3 (.take 4 (.take 5 (.take 6 (.take 7 (.take 8 (.take 10 (.take 14 (.DD 9 (.gN 11 (.aG 12 (.take 13 (.aG 15 (.take 16 (.take 17 (.take 18 .done)))))) 12 (.aG 11 (.take 13 (.aG 15 (.take 16 (.take 17 (.take 18 .done))))))) 11 (.gN 9 (.aG 12 (.take 13 (.aG 15 (.take 16 (.take 17 (.take 18 .done)))))) 12 (.take 13 (.aG 9 (.aG 15 (.take 16 (.take 17 (.take 18 .done))))))) 12 (.gN 9 (.aG 11 (.take 13 (.aG 15 (.take 16 (.take 17 (.take 18 .done)))))) 11 (.take 13 (.aG 9 (.aG 15 (.take 16 (.take 17 (.take 18 .done))))))))))))))))))) mixed (by kernel_rfl) ?_
 replace H := H.out (Out.drew _)
 refine WP.mv rfl rfl rfl (WP.aC rfl rfl (PV.eql rfl rfl rfl) (WP.mv rfl rfl rfl ?_))
 refine WP.known (t := 37) (c := true) rfl (by rfl) ?_
 refine WP.mv rfl rfl rfl ?_
 refine WP.aC rfl rfl (PV.dO (by exact (H.p 0 rfl : (bI M4 (fA (pK (.leaf a1 (List.replicate 32 (0 : UInt8)) [7] s1 : Tr) (List.replicate 32 (0 : UInt8))) (Tr.dp (List.replicate 32 (0 : UInt8)) 0 (.leaf a1 (List.replicate 32 (0 : UInt8)) [7] s1 : Tr)) (Tr.fin (.leaf a1 (List.replicate 32 (0 : UInt8)) [7] s1 : Tr) (List.replicate 32 (0 : UInt8))).key ((Tr.fin (.leaf a1 (List.replicate 32 (0 : UInt8)) [7] s1 : Tr) (List.replicate 32 (0 : UInt8))).vd 256) (lF (.leaf a1 (List.replicate 32 (0 : UInt8)) [7] s1 : Tr) (List.replicate 32 (0 : UInt8)) (Tr.dp (List.replicate 32 (0 : UInt8)) 0 (.leaf a1 (List.replicate 32 (0 : UInt8)) [7] s1 : Tr))) (fZ 256 (.leaf a1 (List.replicate 32 (0 : UInt8)) [7] s1 : Tr) (List.replicate 32 (0 : UInt8)) (Tr.dp (List.replicate 32 (0 : UInt8)) 0 (.leaf a1 (List.replicate 32 (0 : UInt8)) [7] s1 : Tr))))) _)) eV rfl) ?_
 refine WP.aC rfl rfl (PV.eql rfl rfl rfl) (WP.aC rfl rfl (PV.dH rfl rfl rfl) (WP.mv rfl rfl rfl ?_))
 refine WP.known (t := 42) (c := true) rfl (by rfl) ?_
 refine WP.mv rfl rfl rfl ?_
 refine WP.aC rfl rfl (PV.fP rfl oY (by rw [iB]; rfl) rfl) ?_
 refine WP.mv rfl rfl rfl ?_
 refine WP.join (α := Nat × Nat) (.take 13 (.aG 15 (.take 16 (.take 17 (.take 18 .done))))) [44, 46, 47] (fun g_ => [(44, .pointer (some ⟨lM, 0, none⟩)), (46, (.slice (some ⟨g_.1, 0, none⟩) 32 32)), (47, (.slice (some ⟨g_.2, 0, none⟩) 1 1))]) (fun g_ wl => St X w wl [] [aO.blk xR 90 [.pointer (some ⟨lM, 0, none⟩), (.leaf a1 (List.replicate 32 (0 : UInt8)) [7] s1 : Tr).ptr], aO.blk rI 213 [.int .i64 m31]] [bI (.slice (some ⟨g_.1, 0, none⟩) 32 32) (List.replicate 32 (0 : UInt8)), bI (.slice (some ⟨g_.2, 0, none⟩) 1 1) [7], bI M4 (fA (pK (.leaf a1 (List.replicate 32 (0 : UInt8)) [7] s1 : Tr) (List.replicate 32 (0 : UInt8))) (Tr.dp (List.replicate 32 (0 : UInt8)) 0 (.leaf a1 (List.replicate 32 (0 : UInt8)) [7] s1 : Tr)) (Tr.fin (.leaf a1 (List.replicate 32 (0 : UInt8)) [7] s1 : Tr) (List.replicate 32 (0 : UInt8))).key ((Tr.fin (.leaf a1 (List.replicate 32 (0 : UInt8)) [7] s1 : Tr) (List.replicate 32 (0 : UInt8))).vd 256) (lF (.leaf a1 (List.replicate 32 (0 : UInt8)) [7] s1 : Tr) (List.replicate 32 (0 : UInt8)) (Tr.dp (List.replicate 32 (0 : UInt8)) 0 (.leaf a1 (List.replicate 32 (0 : UInt8)) [7] s1 : Tr))) (fZ 256 (.leaf a1 (List.replicate 32 (0 : UInt8)) [7] s1 : Tr) (List.replicate 32 (0 : UInt8)) (Tr.dp (List.replicate 32 (0 : UInt8)) 0 (.leaf a1 (List.replicate 32 (0 : UInt8)) [7] s1 : Tr)))), bI (.slice (some ⟨b3, 0, none⟩) 32 32) ((.leaf a1 (List.replicate 32 (0 : UInt8)) [7] s1 : Tr).er.lV 256), fJ lM rI 256, aW, eE]) ?_ ?_
 ·
  intro M7
  refine WP.DD rfl rfl rfl ?_ ?_ ?_ 
  ·
   refine WL.call yV rfl (kK (X := Nil) (bt := xR) (bh := lM) (T := (.leaf a1 (List.replicate 32 (0 : UInt8)) [7] s1 : Tr)) (fun _ h => h.elim) (H.mA 0 rfl)) ?_
   rintro _ NR ⟨rfl, hO⟩
   replace H := H.out hO
   refine WL.nil ⟨cV, ?_⟩
   refine WP.gN rfl rfl ?_ ?_ 
   ·
    refine WL.makeSlice (n := 32) H rfl jZ rfl (by decide) (by decide) rfl ?_
    intro AL TJ H
    replace H := H.freeze (i := 0) rfl
    replace H := H.add (show aH _ (bI (.slice (some ⟨AL, 0, none⟩) 32 32) (List.replicate 32 (0 : UInt8))) _ from (H.bN 0 rfl).imp fun _ h => bI.cA h rfl)
    refine WL.nil ⟨cV, ?_⟩
    refine WP.aG rfl ?_
    refine WL.bJ (l0 := [.int .u8 (0)]) H rfl jZ (by decide) (dG _ _) (Fl.cons rfl (by rfl) (by simp only [aR, aU, aB, aD]) Laid.head Fl.nil) rfl ?_
    intro G5 w20 H
    replace H := H.freeze (i := 0) rfl
    replace H := H.add ((H.bN 0 rfl).imp fun _ h => bI.cA (l := [7]) h rfl)
    refine WL.nil ⟨cV, ?_⟩
    exact M7 _ _ ⟨(AL, G5), (by repeat (first | with_reducible exact bQ.refl _ _ | refine bQ.dB rfl ?_)), ⟨rfl, rfl, rfl, trivial⟩, (by exact H.rM [2, 0, 4, 6, 14, 15, 16])⟩
   ·
    refine WL.bJ (l0 := [.int .u8 (0)]) H rfl jZ (by decide) (dG _ _) (Fl.cons rfl (by rfl) (by simp only [aR, aU, aB, aD]) Laid.head Fl.nil) rfl ?_
    intro G5 w21 H
    replace H := H.freeze (i := 0) rfl
    replace H := H.add ((H.bN 0 rfl).imp fun _ h => bI.cA (l := [7]) h rfl)
    refine WL.nil ⟨cV, ?_⟩
    refine WP.aG rfl ?_
    refine WL.makeSlice (n := 32) H rfl jZ rfl (by decide) (by decide) rfl ?_
    intro AL w23 H
    replace H := H.freeze (i := 0) rfl
    replace H := H.add (show aH _ (bI (.slice (some ⟨AL, 0, none⟩) 32 32) (List.replicate 32 (0 : UInt8))) _ from (H.bN 0 rfl).imp fun _ h => bI.cA h rfl)
    refine WL.nil ⟨cV, ?_⟩
    exact M7 _ _ ⟨(AL, G5), (by repeat (first | with_reducible exact bQ.refl _ _ | refine bQ.dB rfl ?_)), ⟨rfl, rfl, rfl, trivial⟩, (by exact H.rM [0, 2, 4, 6, 14, 15, 16])⟩
  ·
   refine WL.makeSlice (n := 32) H rfl jZ rfl (by decide) (by decide) rfl ?_
   intro AL w27 H
   replace H := H.freeze (i := 0) rfl
   replace H := H.add (show aH _ (bI (.slice (some ⟨AL, 0, none⟩) 32 32) (List.replicate 32 (0 : UInt8))) _ from (H.bN 0 rfl).imp fun _ h => bI.cA h rfl)
   refine WL.nil ⟨cV, ?_⟩
   refine WP.gN rfl rfl ?_ ?_ 
   ·
    refine WL.call yV rfl (kK (X := Nil) (bt := xR) (bh := lM) (T := (.leaf a1 (List.replicate 32 (0 : UInt8)) [7] s1 : Tr)) (fun _ h => h.elim) (H.mA 0 rfl)) ?_
    rintro _ w30 ⟨rfl, hO⟩
    replace H := H.out hO
    refine WL.nil ⟨cV, ?_⟩
    refine WP.aG rfl ?_
    refine WL.bJ (l0 := [.int .u8 (0)]) H rfl jZ (by decide) (dG _ _) (Fl.cons rfl (by rfl) (by simp only [aR, aU, aB, aD]) Laid.head Fl.nil) rfl ?_
    intro G5 w31 H
    replace H := H.freeze (i := 0) rfl
    replace H := H.add ((H.bN 0 rfl).imp fun _ h => bI.cA (l := [7]) h rfl)
    refine WL.nil ⟨cV, ?_⟩
    exact M7 _ _ ⟨(AL, G5), (by repeat (first | with_reducible exact bQ.refl _ _ | refine bQ.dB rfl ?_)), ⟨rfl, rfl, rfl, trivial⟩, (by exact H.rM [2, 0, 4, 6, 14, 15, 16])⟩
   ·
    refine WL.bJ (l0 := [.int .u8 (0)]) H rfl jZ (by decide) (dG _ _) (Fl.cons rfl (by rfl) (by simp only [aR, aU, aB, aD]) Laid.head Fl.nil) rfl ?_
    intro G5 w32 H
    replace H := H.freeze (i := 0) rfl
    replace H := H.add ((H.bN 0 rfl).imp fun _ h => bI.cA (l := [7]) h rfl)
    refine WL.nil ⟨cV, ?_⟩
    refine WP.aC rfl rfl (PV.dD rfl UX ND (Fl.cons rfl (by rfl) (by simp only [aR, aU, aB, aD]) Laid.head (Fl.cons rfl (by rfl) (by simp only [aR, aU, aB, aD]) (Laid.tail Laid.head rfl) (Fl.cons rfl (by rfl) (by simp only [aR, aU, aB, aD]) (Laid.tail (Laid.tail Laid.head rfl) rfl) Fl.nil)))) ?_
    refine WP.aG rfl ?_
    refine WL.call yV rfl (kK (X := Nil) (bt := xR) (bh := lM) (T := (.leaf a1 (List.replicate 32 (0 : UInt8)) [7] s1 : Tr)) (fun _ h => h.elim) (H.mA 0 rfl)) ?_
    rintro _ w33 ⟨rfl, hO⟩
    replace H := H.out hO
    refine WL.nil ⟨cV, ?_⟩
    refine WP.aG rfl ?_
    refine WL.call WK rfl (sN (bh := lM) (bc := rI) (bits := 256) (kd := pK (.leaf a1 (List.replicate 32 (0 : UInt8)) [7] s1 : Tr) (List.replicate 32 (0 : UInt8))) (dp := Tr.dp (List.replicate 32 (0 : UInt8)) 0 (.leaf a1 (List.replicate 32 (0 : UInt8)) [7] s1 : Tr)) (lk := (Tr.fin (.leaf a1 (List.replicate 32 (0 : UInt8)) [7] s1 : Tr) (List.replicate 32 (0 : UInt8))).key) (lv := (Tr.fin (.leaf a1 (List.replicate 32 (0 : UInt8)) [7] s1 : Tr) (List.replicate 32 (0 : UInt8))).vd 256) (B := lF (.leaf a1 (List.replicate 32 (0 : UInt8)) [7] s1 : Tr) (List.replicate 32 (0 : UInt8)) (Tr.dp (List.replicate 32 (0 : UInt8)) 0 (.leaf a1 (List.replicate 32 (0 : UInt8)) [7] s1 : Tr))) (sb := fZ 256 (.leaf a1 (List.replicate 32 (0 : UInt8)) [7] s1 : Tr) (List.replicate 32 (0 : UInt8)) (Tr.dp (List.replicate 32 (0 : UInt8)) 0 (.leaf a1 (List.replicate 32 (0 : UInt8)) [7] s1 : Tr))) (k := (List.replicate 32 (0 : UInt8))) (vv := [7]) (rb := ((.leaf a1 (List.replicate 32 (0 : UInt8)) [7] s1 : Tr).er.lV 256)) (sr := (.slice (some ⟨b3, 0, none⟩) 32 32)) (sk := (.slice (some ⟨AL, 0, none⟩) 32 32)) (sv := (.slice (some ⟨G5, 0, none⟩) 1 1)) (se := M4) (pr := true) H.aS (H.l 1 rfl) (by exact (H.eX 1 rfl 14 rfl : aH _ (fJ lM rI 256) _)) (by exact (H.eX 1 rfl 6 rfl : aH _ (bI (.slice (some ⟨b3, 0, none⟩) 32 32) ((.leaf a1 (List.replicate 32 (0 : UInt8)) [7] s1 : Tr).er.lV 256)) _)) (by exact (H.eX 1 rfl 2 rfl : aH _ (bI (.slice (some ⟨AL, 0, none⟩) 32 32) (List.replicate 32 (0 : UInt8))) _)) (by exact (H.eX 1 rfl 0 rfl : aH _ (bI (.slice (some ⟨G5, 0, none⟩) 1 1) [7]) _)) (by exact (H.eX 1 rfl 4 rfl : aH _ (bI M4 (fA (pK (.leaf a1 (List.replicate 32 (0 : UInt8)) [7] s1 : Tr) (List.replicate 32 (0 : UInt8))) (Tr.dp (List.replicate 32 (0 : UInt8)) 0 (.leaf a1 (List.replicate 32 (0 : UInt8)) [7] s1 : Tr)) (Tr.fin (.leaf a1 (List.replicate 32 (0 : UInt8)) [7] s1 : Tr) (List.replicate 32 (0 : UInt8))).key ((Tr.fin (.leaf a1 (List.replicate 32 (0 : UInt8)) [7] s1 : Tr) (List.replicate 32 (0 : UInt8))).vd 256) (lF (.leaf a1 (List.replicate 32 (0 : UInt8)) [7] s1 : Tr) (List.replicate 32 (0 : UInt8)) (Tr.dp (List.replicate 32 (0 : UInt8)) 0 (.leaf a1 (List.replicate 32 (0 : UInt8)) [7] s1 : Tr))) (fZ 256 (.leaf a1 (List.replicate 32 (0 : UInt8)) [7] s1 : Tr) (List.replicate 32 (0 : UInt8)) (Tr.dp (List.replicate 32 (0 : UInt8)) 0 (.leaf a1 (List.replicate 32 (0 : UInt8)) [7] s1 : Tr))))) _)) (by exact (H.eX 1 rfl 15 rfl : aH _ (aW) _)) (by exact (H.eX 1 rfl 16 rfl : aH _ (eE) _)) (by decide) hok rfl QH (by decide) HV) ?_
    rintro _ w34 ⟨m50, wW, hO, hB⟩
    rw [if_pos hroot] at wW
    subst wW
    replace H := H.called 1 rfl hO hB
    refine WL.nil ⟨cV, ?_⟩
    refine WP.aC rfl rfl (PV.eql rfl rfl rfl) (WP.aC rfl rfl (PV.dH rfl rfl rfl) (WP.as rfl rfl rfl (WP.done (WE.ret ⟨[_], _, .nil _, ⟨rfl, trivial⟩, ?_⟩))))
    refine ⟨?_, H.aM⟩
    rfl
  ·
   refine WL.bJ (l0 := [.int .u8 (0)]) H rfl jZ (by decide) (dG _ _) (Fl.cons rfl (by rfl) (by simp only [aR, aU, aB, aD]) Laid.head Fl.nil) rfl ?_
   intro G5 w35 H
   replace H := H.freeze (i := 0) rfl
   replace H := H.add ((H.bN 0 rfl).imp fun _ h => bI.cA (l := [7]) h rfl)
   refine WL.nil ⟨cV, ?_⟩
   refine WP.gN rfl rfl ?_ ?_ 
   ·
    refine WL.call yV rfl (kK (X := Nil) (bt := xR) (bh := lM) (T := (.leaf a1 (List.replicate 32 (0 : UInt8)) [7] s1 : Tr)) (fun _ h => h.elim) (H.mA 0 rfl)) ?_
    rintro _ w36 ⟨rfl, hO⟩
    replace H := H.out hO
    refine WL.nil ⟨cV, ?_⟩
    refine WP.aG rfl ?_
    refine WL.makeSlice (n := 32) H rfl jZ rfl (by decide) (by decide) rfl ?_
    intro AL w38 H
    replace H := H.freeze (i := 0) rfl
    replace H := H.add (show aH _ (bI (.slice (some ⟨AL, 0, none⟩) 32 32) (List.replicate 32 (0 : UInt8))) _ from (H.bN 0 rfl).imp fun _ h => bI.cA h rfl)
    refine WL.nil ⟨cV, ?_⟩
    exact M7 _ _ ⟨(AL, G5), (by repeat (first | with_reducible exact bQ.refl _ _ | refine bQ.dB rfl ?_)), ⟨rfl, rfl, rfl, trivial⟩, (by exact H.rM [0, 2, 4, 6, 14, 15, 16])⟩
   ·
    refine WL.makeSlice (n := 32) H rfl jZ rfl (by decide) (by decide) rfl ?_
    intro AL w42 H
    replace H := H.freeze (i := 0) rfl
    replace H := H.add (show aH _ (bI (.slice (some ⟨AL, 0, none⟩) 32 32) (List.replicate 32 (0 : UInt8))) _ from (H.bN 0 rfl).imp fun _ h => bI.cA h rfl)
    refine WL.nil ⟨cV, ?_⟩
    refine WP.aC rfl rfl (PV.dD rfl UX ND (Fl.cons rfl (by rfl) (by simp only [aR, aU, aB, aD]) Laid.head (Fl.cons rfl (by rfl) (by simp only [aR, aU, aB, aD]) (Laid.tail Laid.head rfl) (Fl.cons rfl (by rfl) (by simp only [aR, aU, aB, aD]) (Laid.tail (Laid.tail Laid.head rfl) rfl) Fl.nil)))) ?_
    refine WP.aG rfl ?_
    refine WL.call yV rfl (kK (X := Nil) (bt := xR) (bh := lM) (T := (.leaf a1 (List.replicate 32 (0 : UInt8)) [7] s1 : Tr)) (fun _ h => h.elim) (H.mA 0 rfl)) ?_
    rintro _ w45 ⟨rfl, hO⟩
    replace H := H.out hO
    refine WL.nil ⟨cV, ?_⟩
    refine WP.aG rfl ?_
    refine WL.call WK rfl (sN (bh := lM) (bc := rI) (bits := 256) (kd := pK (.leaf a1 (List.replicate 32 (0 : UInt8)) [7] s1 : Tr) (List.replicate 32 (0 : UInt8))) (dp := Tr.dp (List.replicate 32 (0 : UInt8)) 0 (.leaf a1 (List.replicate 32 (0 : UInt8)) [7] s1 : Tr)) (lk := (Tr.fin (.leaf a1 (List.replicate 32 (0 : UInt8)) [7] s1 : Tr) (List.replicate 32 (0 : UInt8))).key) (lv := (Tr.fin (.leaf a1 (List.replicate 32 (0 : UInt8)) [7] s1 : Tr) (List.replicate 32 (0 : UInt8))).vd 256) (B := lF (.leaf a1 (List.replicate 32 (0 : UInt8)) [7] s1 : Tr) (List.replicate 32 (0 : UInt8)) (Tr.dp (List.replicate 32 (0 : UInt8)) 0 (.leaf a1 (List.replicate 32 (0 : UInt8)) [7] s1 : Tr))) (sb := fZ 256 (.leaf a1 (List.replicate 32 (0 : UInt8)) [7] s1 : Tr) (List.replicate 32 (0 : UInt8)) (Tr.dp (List.replicate 32 (0 : UInt8)) 0 (.leaf a1 (List.replicate 32 (0 : UInt8)) [7] s1 : Tr))) (k := (List.replicate 32 (0 : UInt8))) (vv := [7]) (rb := ((.leaf a1 (List.replicate 32 (0 : UInt8)) [7] s1 : Tr).er.lV 256)) (sr := (.slice (some ⟨b3, 0, none⟩) 32 32)) (sk := (.slice (some ⟨AL, 0, none⟩) 32 32)) (sv := (.slice (some ⟨G5, 0, none⟩) 1 1)) (se := M4) (pr := true) H.aS (H.l 1 rfl) (by exact (H.eX 1 rfl 14 rfl : aH _ (fJ lM rI 256) _)) (by exact (H.eX 1 rfl 6 rfl : aH _ (bI (.slice (some ⟨b3, 0, none⟩) 32 32) ((.leaf a1 (List.replicate 32 (0 : UInt8)) [7] s1 : Tr).er.lV 256)) _)) (by exact (H.eX 1 rfl 0 rfl : aH _ (bI (.slice (some ⟨AL, 0, none⟩) 32 32) (List.replicate 32 (0 : UInt8))) _)) (by exact (H.eX 1 rfl 2 rfl : aH _ (bI (.slice (some ⟨G5, 0, none⟩) 1 1) [7]) _)) (by exact (H.eX 1 rfl 4 rfl : aH _ (bI M4 (fA (pK (.leaf a1 (List.replicate 32 (0 : UInt8)) [7] s1 : Tr) (List.replicate 32 (0 : UInt8))) (Tr.dp (List.replicate 32 (0 : UInt8)) 0 (.leaf a1 (List.replicate 32 (0 : UInt8)) [7] s1 : Tr)) (Tr.fin (.leaf a1 (List.replicate 32 (0 : UInt8)) [7] s1 : Tr) (List.replicate 32 (0 : UInt8))).key ((Tr.fin (.leaf a1 (List.replicate 32 (0 : UInt8)) [7] s1 : Tr) (List.replicate 32 (0 : UInt8))).vd 256) (lF (.leaf a1 (List.replicate 32 (0 : UInt8)) [7] s1 : Tr) (List.replicate 32 (0 : UInt8)) (Tr.dp (List.replicate 32 (0 : UInt8)) 0 (.leaf a1 (List.replicate 32 (0 : UInt8)) [7] s1 : Tr))) (fZ 256 (.leaf a1 (List.replicate 32 (0 : UInt8)) [7] s1 : Tr) (List.replicate 32 (0 : UInt8)) (Tr.dp (List.replicate 32 (0 : UInt8)) 0 (.leaf a1 (List.replicate 32 (0 : UInt8)) [7] s1 : Tr))))) _)) (by exact (H.eX 1 rfl 15 rfl : aH _ (aW) _)) (by exact (H.eX 1 rfl 16 rfl : aH _ (eE) _)) (by decide) hok rfl QH (by decide) HV) ?_
    rintro _ w46 ⟨m50, wW, hO, hB⟩
    rw [if_pos hroot] at wW
    subst wW
    replace H := H.called 1 rfl hO hB
    refine WL.nil ⟨cV, ?_⟩
    refine WP.aC rfl rfl (PV.eql rfl rfl rfl) (WP.aC rfl rfl (PV.dH rfl rfl rfl) (WP.as rfl rfl rfl (WP.done (WE.ret ⟨[_], _, .nil _, ⟨rfl, trivial⟩, ?_⟩))))
    refine ⟨?_, H.aM⟩
    rfl
 ·
  intro ⟨AL, G5⟩ γ_ w47 hI
  try dsimp only at hI
  replace H := hI
  refine WP.aC rfl rfl (PV.dD rfl UX ND (Fl.cons rfl (by rfl) (by simp only [aR, aU, aB, aD]) Laid.head (Fl.cons rfl (by rfl) (by simp only [aR, aU, aB, aD]) (Laid.tail Laid.head rfl) (Fl.cons rfl (by rfl) (by simp only [aR, aU, aB, aD]) (Laid.tail (Laid.tail Laid.head rfl) rfl) Fl.nil)))) ?_
  refine WP.aG rfl ?_
  refine WL.call WK rfl (sN (bh := lM) (bc := rI) (bits := 256) (kd := pK (.leaf a1 (List.replicate 32 (0 : UInt8)) [7] s1 : Tr) (List.replicate 32 (0 : UInt8))) (dp := Tr.dp (List.replicate 32 (0 : UInt8)) 0 (.leaf a1 (List.replicate 32 (0 : UInt8)) [7] s1 : Tr)) (lk := (Tr.fin (.leaf a1 (List.replicate 32 (0 : UInt8)) [7] s1 : Tr) (List.replicate 32 (0 : UInt8))).key) (lv := (Tr.fin (.leaf a1 (List.replicate 32 (0 : UInt8)) [7] s1 : Tr) (List.replicate 32 (0 : UInt8))).vd 256) (B := lF (.leaf a1 (List.replicate 32 (0 : UInt8)) [7] s1 : Tr) (List.replicate 32 (0 : UInt8)) (Tr.dp (List.replicate 32 (0 : UInt8)) 0 (.leaf a1 (List.replicate 32 (0 : UInt8)) [7] s1 : Tr))) (sb := fZ 256 (.leaf a1 (List.replicate 32 (0 : UInt8)) [7] s1 : Tr) (List.replicate 32 (0 : UInt8)) (Tr.dp (List.replicate 32 (0 : UInt8)) 0 (.leaf a1 (List.replicate 32 (0 : UInt8)) [7] s1 : Tr))) (k := (List.replicate 32 (0 : UInt8))) (vv := [7]) (rb := ((.leaf a1 (List.replicate 32 (0 : UInt8)) [7] s1 : Tr).er.lV 256)) (sr := (.slice (some ⟨b3, 0, none⟩) 32 32)) (sk := (.slice (some ⟨AL, 0, none⟩) 32 32)) (sv := (.slice (some ⟨G5, 0, none⟩) 1 1)) (se := M4) (pr := true) H.aS (H.l 1 rfl) (by exact (H.eX 1 rfl 4 rfl : aH _ (fJ lM rI 256) _)) (by exact (H.eX 1 rfl 3 rfl : aH _ (bI (.slice (some ⟨b3, 0, none⟩) 32 32) ((.leaf a1 (List.replicate 32 (0 : UInt8)) [7] s1 : Tr).er.lV 256)) _)) (by exact (H.eX 1 rfl 0 rfl : aH _ (bI (.slice (some ⟨AL, 0, none⟩) 32 32) (List.replicate 32 (0 : UInt8))) _)) (by exact (H.eX 1 rfl 1 rfl : aH _ (bI (.slice (some ⟨G5, 0, none⟩) 1 1) [7]) _)) (by exact (H.eX 1 rfl 2 rfl : aH _ (bI M4 (fA (pK (.leaf a1 (List.replicate 32 (0 : UInt8)) [7] s1 : Tr) (List.replicate 32 (0 : UInt8))) (Tr.dp (List.replicate 32 (0 : UInt8)) 0 (.leaf a1 (List.replicate 32 (0 : UInt8)) [7] s1 : Tr)) (Tr.fin (.leaf a1 (List.replicate 32 (0 : UInt8)) [7] s1 : Tr) (List.replicate 32 (0 : UInt8))).key ((Tr.fin (.leaf a1 (List.replicate 32 (0 : UInt8)) [7] s1 : Tr) (List.replicate 32 (0 : UInt8))).vd 256) (lF (.leaf a1 (List.replicate 32 (0 : UInt8)) [7] s1 : Tr) (List.replicate 32 (0 : UInt8)) (Tr.dp (List.replicate 32 (0 : UInt8)) 0 (.leaf a1 (List.replicate 32 (0 : UInt8)) [7] s1 : Tr))) (fZ 256 (.leaf a1 (List.replicate 32 (0 : UInt8)) [7] s1 : Tr) (List.replicate 32 (0 : UInt8)) (Tr.dp (List.replicate 32 (0 : UInt8)) 0 (.leaf a1 (List.replicate 32 (0 : UInt8)) [7] s1 : Tr))))) _)) (by exact (H.eX 1 rfl 5 rfl : aH _ (aW) _)) (by exact (H.eX 1 rfl 6 rfl : aH _ (eE) _)) (by decide) hok rfl QH (by decide) HV) ?_
  rintro _ w48 ⟨m50, wW, hO, hB⟩
  rw [if_pos hroot] at wW
  subst wW
  replace H := H.called 1 rfl hO hB
  refine WL.nil ⟨cV, ?_⟩
  refine WP.aC rfl rfl (PV.eql rfl rfl rfl) (WP.aC rfl rfl (PV.dH rfl rfl rfl) (WP.as rfl rfl rfl (WP.done (WE.ret ⟨[_], _, .nil _, ⟨rfl, trivial⟩, ?_⟩))))
  refine ⟨?_, H.aM⟩
  rfl
theorem V1 {X : Nat → Prop} {w : World} {i : Int} {s : Value} {l : List qU} (hX : cW X w) (bU : aH X (B9 s l) w) (dA : aH X (lS l) w) (fO : aH X (aW) w) (jM : aH X (eE) w) (hlen : l.length ≤ 9223372036854775807) (hq : ∀ o ∈ l, o.k.length ≤ 9223372036854775807 ∧ o.v.length ≤ 9223372036854775807 ∧ o.b.length ≤ 9223372036854775807 ∧ ∀ u ∈ o.b, u.k.length ≤ 9223372036854775807 ∧ u.v.length ≤ 9223372036854775807) :
  bD Tryz.prog 7 [.int .i64 i, s].toArray w fun v w' => ∃ (b : Bool) (tp s2 : Value), v = .tuple [tp, s2, .bool b].toArray ∧ Out Nil w w' ∧ (b = true → (0 ≤ i ∧ i ≤ 256) ∧ MY l ∧ ∃ (bt bh bc : Nat) (T : Tr) (c' : Int), tp = .pointer (some ⟨bt, 0, none⟩) ∧ T.er = grow 0 (runM l) ∧ w.heap.size ≤ bt ∧ w.heap.size ≤ bc ∧ bt ≠ bc ∧ aK w' bt 90 [.pointer (some ⟨bh, 0, none⟩), T.ptr] ∧ aK w' bc 213 [.int .i64 c'] ∧ aH (fun c => X c ∨ c = bt ∨ c = bc) (GR i T (runM l) bh bc s2) w') := by
 refine bD.aI (N := 52) Tryz.func7 rfl rfl (by simp) ?_
 have H := St.begin hX
 replace H := H.add (cF jM)
 replace H := H.add (cF fO)
 replace H := H.add (cF dA)
 replace H := H.add (cF bU)
 refine WE.aA (WL.as rfl rfl (WL.as rfl rfl (WL.as rfl rfl (WL.nil (WE.seq (WE.aA (WL.mv rfl rfl ?_)))))))
 refine WL.call aIb rfl (XQ (i := i) H.aS  ) ?_
 rintro _ w1 ⟨rfl, hO⟩
 replace H := H.out hO
 refine WL.pv (PV.not rfl rfl) rfl (WL.mv rfl rfl ?_)
 refine WL.split (t := 15) rfl (fun sG => ?_) (fun sG => ?_)
 ·
  refine WL.known (t := 14) (c := true) rfl sG ?_
  try simp only [bW] at sG
  refine WL.off rfl (WL.off rfl (WL.off rfl (WL.pv (PV.dH rfl rfl rfl) rfl (WL.nil (WE.kY rfl (WE.aA (WL.as rfl rfl ?_)))))))
  refine WL.as rfl rfl (WL.as rfl rfl (WL.nil (WE.ret ⟨[_, _, _], _, .nil _, ⟨rfl, rfl, rfl, trivial⟩, ?_⟩)))
  exact ⟨false, _, _, rfl, H.aM, fun h => by cases h⟩
 ·
  refine WL.known (t := 14) (c := false) rfl sG ?_
  try simp only [bW] at sG
  have bS : 0 ≤ i ∧ i ≤ 256 := by exact sG
  refine WL.mv rfl rfl ?_
  refine WL.call aIh rfl (PN (s := s) (l := l) H.aS (by exact (H.bN 0 rfl : aH _ (B9 s l) _)) (by exact (H.bN 1 rfl : aH _ (lS l) _)) hlen hq) ?_
  rintro _ w2 ⟨n17, rfl, aHJ, hO⟩
  replace H := H.out hO
  refine WL.pv (PV.eql rfl rfl rfl) rfl (WL.pv (PV.c5 rfl rfl rfl) rfl (WL.nil ?_))
  refine WE.cond rfl (fun jJ => ?_) (fun jJ => ?_)
  ·
   try simp only [bW] at jJ
   refine WE.aA (WL.as rfl rfl (WL.as rfl rfl (WL.as rfl rfl (WL.nil (WE.ret ⟨[_, _, _], _, .nil _, ⟨rfl, rfl, rfl, trivial⟩, ?_⟩)))))
   exact ⟨false, _, _, rfl, H.aM, fun h => by cases h⟩
  ·
   try simp only [bW] at jJ
   have oW : MY l := aHJ (by exact jJ)
   refine WE.skip (WE.aA (WL.mv rfl rfl ?_))
   refine WL.call aEF rfl (SL (i := i) H.aS  bS) ?_
   rintro _ w3 ⟨EU, uP, xU, rfl, hO, QA, P9, GL, yU, sW, hR⟩
   replace H := H.F2 hO (aO.blk EU 90 [.pointer (some ⟨uP, 0, none⟩), .pointer none]) (aO.blk xU 213 [.int .i64 0]) yU sW (fun c hc => by cases hc; exact QA) (fun c hc => by cases hc; exact P9) (tY GL) hR
   refine WL.mv rfl rfl (WL.pv (PV.extract rfl rfl rfl) rfl (WL.pv (PV.extract rfl rfl rfl) rfl (WL.as rfl rfl (WL.as rfl rfl (WL.nil (WE.seq (WE.aA ?_)))))))
   refine WL.mv rfl rfl (WL.pv (PV.iX rfl F3 rfl rfl) rfl (WL.mv rfl rfl ?_))
   refine WL.known (t := 27) (c := false) rfl (by rfl) ?_
   refine WL.mv rfl rfl (WL.pv (PV.neq rfl rfl rfl) rfl (WL.pv (PV.c5 rfl rfl rfl) rfl (WL.mv rfl rfl ?_)))
   refine WL.known (t := 31) (c := false) rfl (by rfl) ?_
   refine WL.mv rfl rfl ?_
   refine WL.call yV rfl (kK (X := Nil) (bt := EU) (bh := uP) (T := .nil) (fun _ h => h.elim) (H.mA 0 rfl)) ?_
   rintro _ w4 ⟨rfl, hO⟩
   replace H := H.out hO
   refine WL.pv (PV.iX rfl aC2 rfl rfl) rfl (WL.pv (PV.c5 rfl rfl rfl) rfl (WL.nil ?_))
   refine WE.bB rfl (by rfl) ?_
   refine WE.skip (WE.aA (WL.as rfl rfl (WL.nil (WE.seq (WE.aA (WL.mv rfl rfl ?_))))))
   refine WL.pv (PV.dO (by exact (H.p 1 rfl : (B9 s l) _)) KZ rfl) rfl ?_
   refine WL.mv rfl rfl (WL.nil (WE.block ?_))
   replace H := H.add (show aH _ (fB (runM (l.take 0))) _ from fun _ _ e he => by rw [List.take_zero] at he; cases he)
   replace H := H.add (show aH _ (gE (.slice none 0 0) (runM (l.take 0))) _ from fun w_ _ => by rw [List.take_zero]; exact cS.nil w_ 33)
   replace H := H.add (show aH _ (cQ i .nil) _ from fun _ _ => trivial)
   refine WE.loop (α := Nat × Value × Tr × Int) [9, 11, 38, 39, 40, 41, 42, 43, 44, 45, 46, 47, 48, 49] (fun p => [(38, .int .i64 (p.1 : Int)), (9, p.2.1)]) (fun p wl => (p.1 ≤ l.length ∧ p.2.2.1.er = grow 0 (runM (l.take p.1))) ∧ St X w wl [] [aO.blk EU 90 [.pointer (some ⟨uP, 0, none⟩), p.2.2.1.ptr], aO.blk xU 213 [.int .i64 p.2.2.2]] [fJ uP xU i, cQ i p.2.2.1, gE p.2.1 (runM (l.take p.1)), fB (runM (l.take p.1)), B9 s l, lS l, aW, eE]) (fun p => l.length - p.1) (0, .slice none 0 0, .nil, 0) ⟨rfl, rfl, trivial⟩ ⟨⟨Nat.zero_le _, (by dsimp only; rw [List.take_zero]; exact (eD 0).symm)⟩, H.rM [3, 0, 1, 2, 4, 5, 6, 7]⟩ ?_
   intro ⟨j, s2, T, c⟩ γ0 w5 hI
   try dsimp only at hI
   obtain ⟨⟨hj, hT⟩, H⟩ := hI
   try dsimp only at hj hT
   refine WE.aA (WL.pv (PV.lss rfl rfl rfl) rfl (WL.nil (WE.seq ?_)))
   refine WE.cond rfl (fun aBj => ?_) (fun aBj => ?_)
   ·
    try simp only [bW] at aBj
    have hlt : j < l.length := by omega
    have PZ := oW.2 _ (List.getElem_mem hlt)
    have sD := eT.run oW j (by omega)
    have aDA := oW.1
    have CF := zA hlt
    refine WE.skip (WE.seq (WE.block (WE.aA ?_)))
    refine WL.pv (PV.eQ rfl (by exact (H.p 4 rfl : (B9 s l) _)) KZ FU rfl rfl (by omega) (by omega)) rfl ?_
    refine WL.bG rfl aBM rfl rfl ((B9.rd (by exact (H.p 4 rfl : (B9 s l) _)) j hlt)) (by exact FU) ?_
    refine WL.alloc H rfl aCg rfl ?_
    intro XC w6 H
    refine WL.aT H 0 rfl rfl rfl (new := zI l[j]) rfl (by exact FU) (I2 (by exact (H.p 5 rfl : lS l _) _ (List.getElem_mem hlt))) (Laid.at (Laid.all (by rfl)) (by rfl)) rfl ?_
    intro w7 H
    refine WL.nil (WE.eM (WL.mv rfl rfl (WL.mv rfl rfl ?_)))
    refine WL.bG rfl aBM rfl rfl (by exact aK.aF (H.l 0 rfl) (aJ.all _) (by rfl)) (by exact FU) ?_
    refine WL.call aIg rfl (aIE (bt := EU) (bh := uP) (bc := xU) (bits := i) (T := T) (m := (runM (l.take j))) (s2 := s2) (o := l[j]) (nn := 20 * j) H.aS (H.l 2 rfl) (H.l 1 rfl) (by exact (H.oO 2 1 rfl rfl 0 rfl : aH _ (fJ uP xU i) _)) (by exact (H.oO 2 1 rfl rfl 1 rfl : aH _ (cQ i T) _)) (by exact (H.oO 2 1 rfl rfl 2 rfl : aH _ (gE s2 (runM (l.take j))) _)) (by exact (H.oO 2 1 rfl rfl 3 rfl : aH _ (fB (runM (l.take j))) _)) (by exact (H.oO 2 1 rfl rfl 5 rfl : aH _ (lS l) _).imp fun _ h => h _ (List.getElem_mem hlt)) (by exact (H.oO 2 1 rfl rfl 6 rfl : aH _ (aW) _)) (by exact (H.oO 2 1 rfl rfl 7 rfl : aH _ (eE) _)) (Ne.symm GL) bS hT sD (by omega) PZ.1 PZ.2.1 PZ.2.2) ?_
    rintro _ w8 ⟨T46, c46, s46, rfl, aEb, hO, yU, sW, LW, JH, ZI⟩
    rw [← CF] at aEb JH ZI
    replace H := H.ET 2 1 rfl rfl (by decide) hO yU sW (aH.aF7 LW JH ZI)
    replace H := H.aF5 (q := cQ i T46) (r := gE s46 (runM (l.take (j + 1)))) (s := fB (runM (l.take (j + 1)))) (fun _ h => h)
    replace H := H.forget 0
    refine WL.mv rfl rfl (WL.pv (PV.extract rfl rfl rfl) rfl (WL.pv (PV.extract rfl rfl rfl) rfl (WL.as rfl rfl (WL.nil (WE.eM ?_)))))
    refine WL.pv (PV.eq (v' := .int .i64 ((j + 1 : Nat) : Int)) (PV.bZ rfl rfl rfl (by omega) (by omega)) (by rfl)) rfl ?_
    refine WL.mv rfl rfl (WL.nil ?_)
    exact ⟨(j + 1, s46, T46, c46), (by repeat (first | with_reducible exact bQ.refl _ _ | refine bQ.dB rfl ?_ | refine bQ.cE rfl ?_ | refine bQ.cB rfl ?_)), ⟨rfl, rfl, trivial⟩, rfl, ⟨⟨by dsimp only; omega, aEb⟩, H.rM [3, 0, 1, 2, 7, 8, 9, 10]⟩, (by dsimp only; omega)⟩
   ·
    try simp only [bW] at aBj
    have hje : l.take j = l := List.take_of_length_le (by omega)
    refine WE.exit (WE.aA (WL.mv rfl rfl (WL.mv rfl rfl (WL.as rfl rfl (WL.as rfl rfl (WL.as rfl rfl (WL.nil ?_)))))))
    refine WE.ret ⟨[_, _, _], _, .nil _, ⟨rfl, rfl, rfl, trivial⟩, ?_⟩
    rw [hje] at hT H
    have hgr := ((H.bN 0 rfl).and ((H.bN 1 rfl).and ((H.bN 2 rfl).and (H.bN 3 rfl))))
    replace H := H.add (show aH _ (GR i T (runM l) uP xU s2) _ from hgr)
    exact ⟨true, _, s2, rfl, H.aM, fun _ => ⟨bS, oW, EU, uP, xU, T, c, rfl, hT, H.jR _ (List.mem_of_getElem? (i := 0) rfl) _ rfl, H.jR _ (List.mem_of_getElem? (i := 1) rfl) _ rfl, GL, H.l 0 rfl, H.l 1 rfl, H.ZN 0 rfl⟩⟩
theorem aEp {n : Nat} {m : List En} (h : eT n m) (k : List UInt8) : (gV m k).length ≤ 65535 := by
 unfold gV
 cases hg : getM m k with
 | none => simp
 | some e => exact h.v e (vG hg).1
theorem aAM {w : World} {b : Nat} {t : TypeId} {kd dp : Nat} {lk lv B : List UInt8} {sl : Value} (h : aK w b t (fH kd dp lk lv B sl)) (hk : lk.length = 32) (hv : lv.length = 32) (hB : B.length = 32) : cX w ⟨b, 98, none⟩ [sl] :=
 aK.aF h (aJ.r (p := 98) (aJ.r (p := 97) (aJ.r (p := 96) (aJ.r (p := 32) (aJ.all [sl]) (by rw [aN, hB])) (by simp [aN, hk, hv])) rfl) rfl) rfl
theorem yZ {X : Nat → Prop} {w : World} {i : Int} {s : Value} {l : List qU} {k : List UInt8} (hX : cW X w) (bU : aH X (B9 s l) w) (dA : aH X (lS l) w) (fO : aH X (aW) w) (jM : aH X (eE) w) (hlen : l.length ≤ 9223372036854775807) (hq : ∀ o ∈ l, o.k.length ≤ 9223372036854775807 ∧ o.v.length ≤ 9223372036854775807 ∧ o.b.length ≤ 9223372036854775807 ∧ ∀ u ∈ o.b, u.k.length ≤ 9223372036854775807 ∧ u.v.length ≤ 9223372036854775807) (hk : k.length = 32) :
  bD Tryz.prog 3 [.int .i64 i, s, .agg (kc k).toArray].toArray w fun v w' => v = .bool true ∧ Out Nil w w' := by
 refine bD.aI (N := 64) Tryz.func3 rfl rfl (by simp) ?_
 have H := St.begin hX
 replace H := H.add (cF jM)
 replace H := H.add (cF fO)
 replace H := H.add (cF dA)
 replace H := H.add (cF bU)
 refine WE.aA ?_
 refine WL.box (l := kc k) H rfl (by rfl) rfl ?_
 intro b5 w1 H
 refine WL.as rfl rfl (WL.nil (WE.aA (WL.mv rfl rfl (WL.mv rfl rfl ?_))))
 refine WL.call fb7 rfl (V1 (i := i) (s := s) (l := l) H.aS (by exact (H.bN 0 rfl : aH _ (B9 s l) _)) (by exact (H.bN 1 rfl : aH _ (lS l) _)) (by exact (H.bN 2 rfl : aH _ (aW) _)) (by exact (H.bN 3 rfl : aH _ (eE) _)) hlen hq) ?_
 rintro _ w2 ⟨bg, tp, s2, rfl, hO, hG⟩
 have H0_ := H
 have aHI := hO
 replace H := H.out hO
 refine WL.mv rfl rfl (WL.pv (PV.extract rfl rfl rfl) rfl (WL.pv (PV.extract rfl rfl rfl) rfl (WL.pv (PV.extract rfl rfl rfl) rfl (WL.as rfl rfl (WL.as rfl rfl (WL.as rfl rfl (WL.nil ?_)))))))
 refine WE.seq (WE.aA (WL.mv rfl rfl (WL.pv (PV.not rfl rfl) rfl (WL.nil ?_))))
 refine WE.cond rfl (fun D2 => ?_) (fun D2 => ?_)
 ·
  try simp only [bW] at D2
  refine WE.aA ?_
  refine WL.call fb8 rfl (N7 H.aS (by exact (H.bN 2 rfl : aH _ (aW) _)) (by exact (H.bN 3 rfl : aH _ (eE) _))) ?_
  rintro _ w3 ⟨rfl, hO⟩
  replace H := H.out hO
  refine WL.as rfl rfl (WL.nil (WE.ret ⟨[_], _, .nil _, ⟨rfl, trivial⟩, ?_⟩))
  refine ⟨?_, H.aM⟩
  rfl
 ·
  try simp only [bW] at D2
  have hbg : bg = true := by exact D2
  obtain ⟨bS, oW, bt, bh, bc, T, c0, rfl, hT, QA, P9, hne, yU, sW, hGR⟩ := hG hbg
  replace H := H0_.F2 aHI (aO.blk bt 90 [.pointer (some ⟨bh, 0, none⟩), T.ptr]) (aO.blk bc 213 [.int .i64 c0]) yU sW (fun c hc => by cases hc; exact QA) (fun c hc => by cases hc; exact P9) (tY hne) hGR
  replace H := H.aF4 (q := fJ bh bc i) (r := cQ i T) (s := gE s2 (runM l)) (t := fB (runM l)) (fun _ h => h)
  have sD := oW.map
  have qK := sD.pm
  have hfit : T.er.fit 0 := by rw [hT]; exact xD qK
  have gC : o4 (runM l) := o4.of (H.p 3 rfl : fB (runM l) _)
  have yQ := sD.l
  have aDt := gH i T.er
  have hvk : ∀ k, (gV (runM l) k).length ≤ 65535 := aEp sD
  have yR : T.dp k 0 ≤ 256 := by have h_ := Tr.tU (k := k) _ 0 T rfl hfit (by omega); omega
  have hfk := cQ.gG (show cQ i (T.fin k) _ from (H.p 1 rfl : cQ i T _).iF _)
  have hvd := Tr.aP i (T.fin k)
  have hok : iG (pK T k) (Tr.dp k 0 T) (Tr.fin T k).key ((Tr.fin T k).vd i) (lF T k (Tr.dp k 0 T)) (fZ i T k (Tr.dp k 0 T)) := DB hT qK hfit hfk
  have hroot : eW i k (fN i (Tr.dp k 0 T) (lF T k (Tr.dp k 0 T)) (fZ i T k (Tr.dp k 0 T))) (dS (cR (dY (pK T k) (Tr.fin T k).key ((Tr.fin T k).vd i))) i) (Tr.dp k 0 T) = (T.er.lV i) := wI yR
  have tL := K6 (bits := i) (k := k) hT qK yR
  have hel := xK hok
  have hle1 : (if pK T k = 1 then 100 else 36) ≤ 100 := by split <;> omega
  have aJg := DA i T k (T.dp k 0)
  refine WE.skip ?_
  refine WE.bF (.take 0 (.take 2 (.take 4 (.gN 1 (.gN 3 (.gN 5 (.aG 6 (.aG 7 .done)) 6 (.aG 5 (.aG 7 .done))) 6 (.aG 3 (.aG 5 (.aG 7 .done)))) 6 (.aG 1 (.aG 3 (.aG 5 (.aG 7 .done)))))))) mixed (by kernel_rfl) ?_
  replace H := H.out (Out.drew _)
  refine WP.mv rfl rfl rfl (WP.mv rfl rfl rfl ?_)
  refine WP.dF rfl rfl rfl cU rfl (by exact aK.aF (H.l 2 rfl) (aJ.all _) (by rfl)) (cI cN (by simp only [aR, aU, aB, Tr.aP, bE, aX, aD]; omega)) ?_
  refine WP.join (α := Nat × Value × Int) (.aG 7 .done) [10, 25, 27, 29] (fun g_ => [(29, .agg (fH (pK T k) (Tr.dp k 0 T) (Tr.fin T k).key ((Tr.fin T k).vd i) (lF T k (Tr.dp k 0 T)) g_.2.1).toArray), (10, .pointer (some ⟨g_.1, 0, none⟩))]) (fun g_ wl => g_.2.1.oneCell' = true ∧ St X w wl [] [aO.blk g_.1 35 TH, aO.blk bt 90 [.pointer (some ⟨bh, 0, none⟩), T.ptr], aO.blk bc 213 [.int .i64 g_.2.2], aO.blk b5 24 (kc k)] [eN g_.2.1 (fZ i T k (Tr.dp k 0 T)), fJ bh bc i, cQ i T, gE s2 (runM l), fB (runM l), aW, eE]) ?_ ?_
  ·
   intro M7
   refine WP.gN rfl rfl ?_ ?_ 
   ·
    refine WL.call yV rfl (by exact kK (X := Nil) (bt := bt) (bh := bh) (T := T) (fun _ h => h.elim) (H.mA 0 rfl)) ?_
    rintro _ w4 ⟨rfl, hO⟩
    replace H := H.out hO
    refine WL.nil ⟨(fa (fun _ _ => (by exact aK.aF (H.l 2 rfl) (aJ.all _) (by rfl))) cV), ?_⟩
    refine WP.gN rfl rfl ?_ ?_ 
    ·
     refine WL.call WM rfl (by exact vO (X := Nil) (bt := bt) (bh := bh) (T := T) (fun _ h => h.elim) (H.mA 0 rfl)) ?_
     rintro _ w5 ⟨rfl, hO⟩
     replace H := H.out hO
     refine WL.nil ⟨(fa (fun _ _ => (by exact aK.aF (H.l 2 rfl) (aJ.all _) (by rfl))) cV), ?_⟩
     refine WP.gN rfl rfl ?_ ?_ 
     ·
      refine WL.call fb9 rfl (by exact sO (bh := bh) (bc := bc) (bits := i) (T := T) (k := k) H.aS (H.l 1 rfl) (by exact (H.eX 1 rfl 0 rfl : aH _ (fJ bh bc i) _)) (by exact (H.eX 1 rfl 1 rfl : aH _ (cQ i T) _)) (by exact (H.eX 1 rfl 6 rfl : aH _ (aW) _)) bS hk hfit) ?_
      rintro _ w6 ⟨TM, uX, rfl, hO, hB, hR⟩
      have BK := cS.fG hR.here
      replace H := H.jT 1 rfl hO hB hR
      refine WL.nil ⟨(fa (nw 5 4 (by decide +kernel)) cV), ?_⟩
      refine WP.aG rfl ?_
      refine WL.alloc H rfl uV rfl ?_
      intro pQ w7 H
      refine WL.nil ⟨(fa (fun _ _ => (by exact aK.aF (H.l 3 rfl) (aJ.all _) (by rfl))) cV), ?_⟩
      exact M7 _ _ ⟨(pQ, uX, TM), (by repeat (first | with_reducible exact bQ.refl _ _ | refine bQ.dB rfl ?_)), ⟨rfl, rfl, trivial⟩, ⟨BK, H.rM [0, 1, 2, 3, 4, 7, 8]⟩⟩
     ·
      refine WL.alloc H rfl uV rfl ?_
      intro pQ w8 H
      refine WL.nil ⟨(fa (fun _ _ => (by exact aK.aF (H.l 3 rfl) (aJ.all _) (by rfl))) cV), ?_⟩
      refine WP.aG rfl ?_
      refine WL.call fb9 rfl (by exact sO (bh := bh) (bc := bc) (bits := i) (T := T) (k := k) H.aS (H.l 2 rfl) (by exact (H.eX 2 rfl 0 rfl : aH _ (fJ bh bc i) _)) (by exact (H.eX 2 rfl 1 rfl : aH _ (cQ i T) _)) (by exact (H.eX 2 rfl 6 rfl : aH _ (aW) _)) bS hk hfit) ?_
      rintro _ w9 ⟨TM, uX, rfl, hO, hB, hR⟩
      have BK := cS.fG hR.here
      replace H := H.jT 2 rfl hO hB hR
      refine WL.nil ⟨(fa (nw 5 4 (by decide +kernel)) cV), ?_⟩
      exact M7 _ _ ⟨(pQ, uX, TM), (by repeat (first | with_reducible exact bQ.refl _ _ | refine bQ.dB rfl ?_)), ⟨rfl, rfl, trivial⟩, ⟨BK, H.rM [0, 1, 2, 3, 4, 7, 8]⟩⟩
    ·
     refine WL.alloc H rfl uV rfl ?_
     intro pQ vT H
     refine WL.nil ⟨(fa (fun _ _ => (by exact aK.aF (H.l 3 rfl) (aJ.all _) (by rfl))) cV), ?_⟩
     refine WP.aG rfl ?_
     refine WL.call WM rfl (by exact vO (X := Nil) (bt := bt) (bh := bh) (T := T) (fun _ h => h.elim) (H.mA 1 rfl)) ?_
     rintro _ y8 ⟨rfl, hO⟩
     replace H := H.out hO
     refine WL.nil ⟨(fa (fun _ _ => (by exact aK.aF (H.l 3 rfl) (aJ.all _) (by rfl))) cV), ?_⟩
     refine WP.aG rfl ?_
     refine WL.call fb9 rfl (by exact sO (bh := bh) (bc := bc) (bits := i) (T := T) (k := k) H.aS (H.l 2 rfl) (by exact (H.eX 2 rfl 0 rfl : aH _ (fJ bh bc i) _)) (by exact (H.eX 2 rfl 1 rfl : aH _ (cQ i T) _)) (by exact (H.eX 2 rfl 6 rfl : aH _ (aW) _)) bS hk hfit) ?_
     rintro _ IE ⟨TM, uX, rfl, hO, hB, hR⟩
     have BK := cS.fG hR.here
     replace H := H.jT 2 rfl hO hB hR
     refine WL.nil ⟨(fa (nw 5 4 (by decide +kernel)) cV), ?_⟩
     exact M7 _ _ ⟨(pQ, uX, TM), (by repeat (first | with_reducible exact bQ.refl _ _ | refine bQ.dB rfl ?_)), ⟨rfl, rfl, trivial⟩, ⟨BK, H.rM [0, 1, 2, 3, 4, 7, 8]⟩⟩
   ·
    refine WL.alloc H rfl uV rfl ?_
    intro pQ FI H
    refine WL.nil ⟨(fa (fun _ _ => (by exact aK.aF (H.l 3 rfl) (aJ.all _) (by rfl))) cV), ?_⟩
    refine WP.aG rfl ?_
    refine WL.call yV rfl (by exact kK (X := Nil) (bt := bt) (bh := bh) (T := T) (fun _ h => h.elim) (H.mA 1 rfl)) ?_
    rintro _ KT ⟨rfl, hO⟩
    replace H := H.out hO
    refine WL.nil ⟨(fa (fun _ _ => (by exact aK.aF (H.l 3 rfl) (aJ.all _) (by rfl))) cV), ?_⟩
    refine WP.aG rfl ?_
    refine WL.call WM rfl (by exact vO (X := Nil) (bt := bt) (bh := bh) (T := T) (fun _ h => h.elim) (H.mA 1 rfl)) ?_
    rintro _ NR ⟨rfl, hO⟩
    replace H := H.out hO
    refine WL.nil ⟨(fa (fun _ _ => (by exact aK.aF (H.l 3 rfl) (aJ.all _) (by rfl))) cV), ?_⟩
    refine WP.aG rfl ?_
    refine WL.call fb9 rfl (by exact sO (bh := bh) (bc := bc) (bits := i) (T := T) (k := k) H.aS (H.l 2 rfl) (by exact (H.eX 2 rfl 0 rfl : aH _ (fJ bh bc i) _)) (by exact (H.eX 2 rfl 1 rfl : aH _ (cQ i T) _)) (by exact (H.eX 2 rfl 6 rfl : aH _ (aW) _)) bS hk hfit) ?_
    rintro _ TK ⟨TM, uX, rfl, hO, hB, hR⟩
    have BK := cS.fG hR.here
    replace H := H.jT 2 rfl hO hB hR
    refine WL.nil ⟨(fa (nw 5 4 (by decide +kernel)) cV), ?_⟩
    exact M7 _ _ ⟨(pQ, uX, TM), (by repeat (first | with_reducible exact bQ.refl _ _ | refine bQ.dB rfl ?_)), ⟨rfl, rfl, trivial⟩, ⟨BK, H.rM [0, 1, 2, 3, 4, 7, 8]⟩⟩
  ·
   intro ⟨pQ, uX, TM⟩ γ_ TJ hI
   try dsimp only at hI
   obtain ⟨BK, H⟩ := hI
   have hzl := H9
   refine WP.aG rfl ?_
   refine WL.aT H 0 rfl rfl rfl (new := fH (pK T k) (Tr.dp k 0 T) (Tr.fin T k).key ((Tr.fin T k).vd i) (lF T k (Tr.dp k 0 T)) uX) rfl (cI jU (by simp only [aR, aU, aB, Tr.aP, bE, aX, aD]; omega)) (pU BK) (Laid.at (Laid.all (by simp only [aR, aU, aB, Tr.aP, bE, aX, aD]; omega)) (by rfl)) rfl ?_
   intro TI H
   refine WL.nil ⟨(fa (nw 7 4 (by decide +kernel)) cV), ?_⟩
   refine WP.done (WE.aA ?_)
   refine WL.bG rfl lZ rfl rfl (by exact aK.aF (H.l 0 rfl) (aJ.all _) (by rfl)) (cI jU (by simp only [aR, aU, aB, Tr.aP, bE, aX, aD]; omega)) ?_
   refine WL.call aFy rfl (FC (kd := pK T k) (dp := Tr.dp k 0 T) (lk := (Tr.fin T k).key) (lv := (Tr.fin T k).vd i) (B := lF T k (Tr.dp k 0 T)) (sb := fZ i T k (Tr.dp k 0 T)) (sl := uX) H.aS (by exact (H.bN 0 rfl : aH _ (eN uX (fZ i T k (Tr.dp k 0 T))) _)) hok) ?_
   rintro _ YF ⟨M4, rfl, hO, hR⟩
   replace H := (H.out hO).add hR
   refine WL.mv rfl rfl (WL.pv (PV.extract rfl rfl rfl) rfl (WL.pv (PV.extract rfl rfl rfl) rfl (WL.as rfl rfl (WL.as rfl rfl (WL.nil (WE.aA (WL.mv rfl rfl ?_)))))))
   refine WL.call aFo rfl (by exact KD (X := Nil) (bt := bt) (bh := bh) (bc := bc) (bits := i) (T := T) (fun _ h => h.elim) (H.l 2 rfl) (H.aDa 2 1 rfl rfl (by decide)) (by exact (H.z1 2 rfl 2 rfl : aH _ (fJ bh bc i) _)) (by exact (H.z1 2 rfl 3 rfl : aH _ (cQ i T) _)) (by exact (H.z1 2 rfl 6 rfl : aH _ (aW) _)) bS) ?_
   rintro _ w20 ⟨m36, rfl, hO, hB⟩
   replace H := H.called 2 rfl hO hB
   refine WL.alloc H rfl nP rfl ?_
   intro b13 w21 H
   refine WL.aT H 0 rfl rfl rfl (new := kc (T.er.lV i)) rfl (cI dK (by simp only [aR, aU, aB, Tr.aP, bE, aX, aD])) (by exact bK _) (Laid.at (Laid.all (by simp only [aR, aU, aB, Tr.aP, bE, aX, aD])) (by rfl)) rfl ?_
   intro w22 H
   replace H := H.freeze (i := 0) rfl
   replace H := H.add (show aH _ (bI (.slice (some ⟨b13, 0, none⟩) 32 32) (T.er.lV i)) _ from (H.bN 0 rfl).imp fun _ h => bI.cA h aDt)
   refine WL.nil ?_
   refine WE.bF (.aG 0 (.take 1 (.take 2 (.take 3 (.take 4 (.take 5 (.take 6 (.take 8 (.take 9 (.take 10 (.take 12 (.aG 7 (.aG 11 (.aG 13 (.take 14 (.take 15 (.take 16 (.take 17 (.take 18 (.take 19 (.take 20 (.take 21 (.take 22 (.take 23 (.take 24 (.take 25 (.take 26 (.take 27 .done)))))))))))))))))))))))))))) mixed (by kernel_rfl) ?_
   replace H := H.out (Out.drew _)
   refine WP.aG rfl ?_
   refine WL.call fb8 rfl (N7 H.aS (by exact (H.bN 8 rfl : aH _ (aW) _)) (by exact (H.bN 9 rfl : aH _ (eE) _))) ?_
   rintro _ w23 ⟨rfl, hO⟩
   replace H := H.out hO
   refine WL.nil ⟨cV, ?_⟩
   refine WP.mv rfl rfl rfl ?_
   refine WP.known (t := 38) (c := true) rfl (by rfl) ?_
   refine WP.mv rfl rfl rfl (WP.aC rfl rfl (PV.eql rfl rfl rfl) (WP.aC rfl rfl (PV.dH rfl rfl rfl) (WP.mv rfl rfl rfl ?_)))
   refine WP.known (t := 42) (c := true) rfl (by rfl) ?_
   refine WP.mv rfl rfl rfl ?_
   refine WP.aC rfl rfl (PV.fP rfl oY (by rw [iB]; rfl) rfl) ?_
   refine WP.mv rfl rfl rfl ?_
   refine WP.dF rfl rfl rfl cU rfl (by exact aK.aF (H.l 3 rfl) (aJ.all _) (by rfl)) (cI cN (by simp only [aR, aU, aB, Tr.aP, bE, aX, aD]; omega)) ?_
   refine WP.mv rfl rfl rfl (WP.aG rfl ?_)
   refine WL.call yV rfl (by exact kK (X := Nil) (bt := bt) (bh := bh) (T := T) (fun _ h => h.elim) (H.mA 1 rfl)) ?_
   rintro _ w24 ⟨rfl, hO⟩
   replace H := H.out hO
   refine WL.nil ⟨(fa (fun _ _ => (by exact aK.aF (H.l 3 rfl) (aJ.all _) (by rfl))) cV), ?_⟩
   refine WP.aG rfl ?_
   refine WL.call aIi rfl (WV (s := s2) (m := (runM l)) (k := k) H.aS (by exact (H.bN 6 rfl : aH _ (gE s2 (runM l)) _)) (by exact (H.bN 7 rfl : aH _ (fB (runM l)) _)) sD.k gC (by omega) hk) ?_
   rintro _ w25 ⟨aCQ, rfl, aHM, hO, hR⟩
   replace H := (H.out hO).add hR
   replace H := H.add (show aH _ (bI (gS (runM l) k) (gV (runM l) k)) _ from ((by exact (H.bN 8 rfl : aH _ (fB (runM l)) _)) : aH _ (fB (runM l)) _).imp fun _ h => GU h k)
   refine WL.nil ⟨(fa (nw 11 10 (by decide +kernel)) cV), ?_⟩
   refine WP.aG rfl ?_
   refine WL.call WK rfl (sN (bh := bh) (bc := bc) (bits := i) (kd := pK T k) (dp := Tr.dp k 0 T) (lk := (Tr.fin T k).key) (lv := (Tr.fin T k).vd i) (B := lF T k (Tr.dp k 0 T)) (sb := fZ i T k (Tr.dp k 0 T)) (k := k) (vv := gV (runM l) k) (rb := (T.er.lV i)) (sr := (.slice (some ⟨b13, 0, none⟩) 32 32)) (sk := aCQ) (sv := gS (runM l) k) (se := M4) (pr := iQ (runM l) k) H.aS (H.l 2 rfl) (by exact (H.eX 2 rfl 6 rfl : aH _ (fJ bh bc i) _)) (by exact (H.eX 2 rfl 2 rfl : aH _ (bI (.slice (some ⟨b13, 0, none⟩) 32 32) (T.er.lV i)) _)) (by exact (H.eX 2 rfl 1 rfl : aH _ (bI aCQ k) _)) (by exact (H.eX 2 rfl 0 rfl : aH _ (bI (gS (runM l) k) (gV (runM l) k)) _)) (by exact (H.eX 2 rfl 4 rfl : aH _ (bI M4 (fA (pK T k) (Tr.dp k 0 T) (Tr.fin T k).key ((Tr.fin T k).vd i) (lF T k (Tr.dp k 0 T)) (fZ i T k (Tr.dp k 0 T)))) _)) (by exact (H.eX 2 rfl 10 rfl : aH _ (aW) _)) (by exact (H.eX 2 rfl 11 rfl : aH _ (eE) _)) bS hok hk aDt (hvk k) tL) ?_
   rintro _ w26 ⟨m50, wW, hO, hB⟩
   rw [if_pos hroot] at wW
   subst wW
   replace H := H.called 2 rfl hO hB
   refine WL.nil ⟨(fa (nw 13 10 (by decide +kernel)) cV), ?_⟩
   refine WP.aC rfl rfl (PV.eql rfl rfl rfl) (WP.aC rfl rfl (PV.dH rfl rfl rfl) (WP.mv rfl rfl rfl ?_))
   refine WP.known (t := 53) (c := true) rfl (by rfl) ?_
   refine WP.mv rfl rfl rfl ?_
   refine WP.aC rfl rfl (PV.dO (by exact (H.p 4 rfl : (bI M4 (fA (pK T k) (Tr.dp k 0 T) (Tr.fin T k).key ((Tr.fin T k).vd i) (lF T k (Tr.dp k 0 T)) (fZ i T k (Tr.dp k 0 T)))) _)) eV rfl) ?_
   refine WP.aC rfl rfl (PV.fieldAddr rfl lJ rfl) (WP.aQ rfl rfl (RV.aY rfl sL rfl) ((aAM (H.l 0 rfl) hfk hvd (bE _ _ _))) ?_)
   refine WP.aC rfl rfl (PV.dO (by exact (H.p 5 rfl : (eN uX (fZ i T k (Tr.dp k 0 T))) _)) mS rfl) ?_
   refine WP.aC rfl rfl (PV.qJ rfl rfl rfl (by omega) (by omega)) (WP.aC rfl rfl (PV.bZ rfl rfl rfl (by omega) (by omega)) (WP.aC rfl rfl (PV.bZ rfl rfl rfl (by omega) (by omega)) (WP.aC rfl rfl (PV.leq rfl rfl rfl) (WP.aC rfl rfl (PV.dH rfl rfl rfl) (WP.as rfl rfl rfl (WP.done (WE.ret ?_)))))))
   refine ⟨[_], _, .nil _, ⟨rfl, trivial⟩, ?_⟩
   refine ⟨?_, H.aM⟩
   show Value.bool _ = Value.bool true
   congr 1
   exact decide_eq_true (by omega)
open Go.ChangeShapes Go.WideShapes Go.ChangeAt
def UQ (u : Up) : Prop := u.k.length ≤ 9223372036854775807 ∧ u.v.length ≤ 9223372036854775807
def OQ (o : qU) : Prop := o.k.length ≤ 9223372036854775807 ∧ o.v.length ≤ 9223372036854775807 ∧ o.b.length ≤ 9223372036854775807 ∧ ∀ u ∈ o.b, u.k.length ≤ 9223372036854775807 ∧ u.v.length ≤ 9223372036854775807
theorem aAq {H : Type} {enc : TypeId × Value → H} {W : World} {base : Nat} {sp : Nat → Bool} {held : Bool} : k9 enc Tryz.prog W base sp held 102 3 (fun cs => ∃ u : Up, cs = NW u ∧ (UQ u ∧ aH Nil (bI u.sk u.k) W ∧ aH Nil (bI u.sv u.v) W)) :=
 (k9.aGP (t0 := 41) (t1 := 41) (t2 := 4) (by kernel_rfl) (k9.bytes eV pI (by kernel_rfl) (by kernel_rfl)) (k9.bytes eV pI (by kernel_rfl) (by kernel_rfl)) (k9.bool (by kernel_rfl) (by kernel_rfl)) (by kernel_rfl)).mono fun cs ⟨a, b, d, e, ⟨sk, k, e1, h1, h2⟩, ⟨sv, v, e2, h3, h4⟩, x, e3⟩ => ⟨⟨sk, k, sv, v, x⟩, by rw [e, e1, e2, e3, List.append_assoc]; rfl, ⟨h1, h3⟩, h2, h4⟩
theorem aAN {H : Type} {enc : TypeId × Value → H} {W : World} {base : Nat} {sp : Nat → Bool} {held : Bool} : k9 enc Tryz.prog W base sp held 56 4 (fun cs => ∃ o : qU, cs = zI o ∧ (OQ o ∧ aH Nil (OV o) W)) :=
 (k9.aGO (t0 := 3) (t1 := 41) (t2 := 41) (t3 := 54) (by kernel_rfl) (k9.int (t := 3) yD (by kernel_rfl)) (k9.bytes eV pI (by kernel_rfl) (by kernel_rfl)) (k9.bytes eV pI (by kernel_rfl) (by kernel_rfl)) (k9.slices nU (by decide) aAq (by kernel_rfl)) (by kernel_rfl)).mono
  fun cs ⟨a, b, c, d, e, ⟨z, e0, _⟩, ⟨sk, k, e1, h1, h2⟩, ⟨sv, v, e2, h3, h4⟩, sb, l, e3, h5, h6, h7⟩ => ⟨⟨z, sk, k, sv, v, sb, l⟩, by rw [e, e0, e1, e2, e3, List.append_assoc, List.append_assoc]; rfl, ⟨h1, h3, h5, fun u hu => (h6 u hu).1⟩,
   fun w' hw => ⟨h2 w' hw, h4 w' hw, h7 w' hw, fun u hu => ⟨(h6 u hu).2.1 w' hw, (h6 u hu).2.2 w' hw⟩⟩⟩
theorem O6 {H : Type} {enc : TypeId × Value → H} {W : World} {r : Reach} {base b0 : Nat} {sp : Nat → Bool} {held : Bool} {t : TypeId} {v : Value} {d : DataW H} {ps : List MemPlace} (ht : cT Tryz.prog t = some 56) (hval : Value.okWide Tryz.prog W r b0 t v) (hd : DataW.Trod enc Tryz.prog W base sp held t v d ps) :
  ∃ l : List qU, l.length ≤ 9223372036854775807 ∧ (∀ o ∈ l, OQ o) ∧ aH Nil (B9 v l) W ∧ aH Nil (lS l) W := by
 obtain ⟨l, h1, h2, h3⟩ := DI (C := zI) ht (by decide) aAN hval hd
 exact ⟨l, h1, fun o ho => (h2 o ho).1, h3, fun w' hw o ho => (h2 o ho).2 w' hw⟩
end Go.Sp.Tryz
