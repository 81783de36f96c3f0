/- Part of the proof of this claim: walks through the program's functions and the plain laws that they need, printed by a program of this session. -/
import Derived.Test.YthkombhebdjamaaGreatDoorP3
import Derived.Test.YthkombhebdjamaaGreatDoorShf
import Derived.Maps.OwnSet
import Derived.WideKeyArr
set_option maxRecDepth 100000
set_option maxHeartbeats 1000000
set_option linter.unusedVariables false
set_option linter.unusedSimpArgs false
namespace Go.Sp.Tryz
open Go.Proofs Go.RowKit Go.Sp Go.Sp.TryzT
variable {X : Nat → Prop} {w : World}
section
variable {C : Nat → Prop} {w w1 W W' W0 W1 : World} {bc b6 b7 : Nat} {J : (Nat → Prop) → Nat → World → Prop} {J4 : Nat → List UInt8} {T : Nat → Prop} {lc l7 l6 : List Value} {Ps : List (World → Prop)}
theorem ID {p : World → Prop} (H1 : St C w w1 [aO.blk bc 213 lc] [aO.blk b7 30 l7, aO.blk b6 41 l6] Ps) (hO : Out Nil w1 W0) (i : Nat) (hp : Ps[i]? = some p) : aH (fun b => CW C bc b6 b7 b ∨ (w1.heap.size ≤ b ∧ b < W0.heap.size)) p W0 :=
 (H1.bN i hp).out hO (fun _ _ h => h.elim) fun b hb h => by
  rcases h with h | h
  ·
   exact lB H1 b h
  ·
   omega
theorem T2 (H1 : St C w w1 [aO.blk bc 213 lc] [aO.blk b7 30 l7, aO.blk b6 41 l6] Ps) (hO : Out Nil w1 W0) : ∀ b, CW C bc b6 b7 b ∨ (w1.heap.size ≤ b ∧ b < W0.heap.size) → b < W0.heap.size := fun b hb => by
 rcases hb with h | h
 ·
  exact Nat.lt_of_lt_of_le (H1.aS b (lB H1 b h)) hO.size
 ·
  exact h.2
theorem KR {m : Int} {e : List UInt8} {s : Value} (H1 : St C w w1 [aO.blk bc 213 [.int .i64 m]] [aO.blk b7 30 (kc e), aO.blk b6 41 [s]] Ps) (hst : ∀ T W1, Out (· = bc) w W1 → (∀ b, T b → b = bc ∨ (w.heap.size ≤ b ∧ b < W1.heap.size)) → T bc → J T 0 W1)
  (hO : Out Nil w1 W1) (hsz : w1.heap.size + 2 ≤ W1.heap.size) (hd : W1.heap[w1.heap.size]? = some (.deferred (some []))) (hs : s.oneCell' = true) (he : e = J4 0) : ∃ T, qT C w w1 bc b6 b7 J J4 T 0 W1 := by
 have hlt := sZ H1
 refine ⟨fun b => b = bc ∨ (w.heap.size ≤ b ∧ b < w1.heap.size + 2), ?_, fun b hb => hb, fun b hb => hb.imp id fun h => h.1, ?_, hsz, hd, ⟨m, (H1.o 0 (e := aO.blk bc 213 [.int .i64 m]) rfl).of_eq (hO.block _ hlt.1 id)⟩, ⟨s, hs, (H1.l 1 (e := aO.blk b6 41 [s]) rfl).of_eq (hO.block _ hlt.2.1 id)⟩, he ▸ (H1.l 0 (e := aO.blk b7 30 (kc e)) rfl).of_eq (hO.block _ hlt.2.2 id)⟩
 ·
  exact hst _ _ (H1.cM.trans (hO.mono fun _ _ h => h.elim)) (fun b hb => hb.imp id fun h => ⟨h.1, by omega⟩) (.inl rfl)
 ·
  exact ⟨hO.os, hO.tape, hO.output, hO.size, fun b hb _ => hO.block b hb id⟩
theorem y7 (H1 : St C w w1 [aO.blk bc 213 lc] [aO.blk b7 30 l7, aO.blk b6 41 l6] Ps) (ho : Ong (CW C bc b6 b7) w1 W) {m : Int} {e : List UInt8} {s : Value} (hc : aK W bc 213 [.int .i64 m]) (he : aK W b7 30 (kc e)) (hs : aK W b6 41 [s])
  (hd : W.heap[w1.heap.size]? = some (.deferred (some []))) :
  St C W W [aO.blk bc 213 [.int .i64 m], aO.blk b7 30 (kc e), aO.blk b6 41 [s], aO.obj w1.heap.size (.deferred (some []))] [] Ps := by
 have hlt := sZ H1
 have aHl := H1.tI _ (List.mem_of_getElem? (i := 0) rfl) bc rfl
 have aHk := H1.jR _ (List.mem_of_getElem? (i := 0) rfl) b7 rfl
 have aHj := H1.jR _ (List.mem_of_getElem? (i := 1) rfl) b6 rfl
 have aHi : b7 ≠ b6 := fun h => eP H1.gY (i := 0) (j := 1) (by decide) rfl rfl b7 ⟨rfl, h⟩
 refine St.FZ H1 ho (lB H1) _ ?_ (tG _ [bc, b7, b6, w1.heap.size] rfl (by simp; omega)) ?_
 ·
  intro x hx
  simp only [List.mem_cons, List.not_mem_nil, or_false] at hx
  rcases hx with rfl | rfl | rfl | rfl
  ·
   exact hc
  ·
   exact he
  ·
   exact hs
  ·
   exact hd
 ·
  intro x hx b hb hf
  simp only [List.mem_cons, List.not_mem_nil, or_false] at hx
  rcases hx with rfl | rfl | rfl | rfl
  ·
   exact lB H1 b (.inr (.inl hf))
  ·
   exact lB H1 b (.inr (.inr (.inr hf)))
  ·
   exact lB H1 b (.inr (.inr (.inl hf)))
  ·
   have D0 : b = w1.heap.size := hf
   omega
theorem TZ {i : Nat} {Wb W4 : World} (H1 : St C w w1 [aO.blk bc 213 lc] [aO.blk b7 30 l7, aO.blk b6 41 l6] Ps) (hb : qT C w w1 bc b6 b7 J J4 T i Wb) {m : Int} {e : List UInt8} {s : Value} {L4 : List aO} {P4 : List (World → Prop)}
  (H : St C W' W4 [aO.blk bc 213 [.int .i64 m], aO.blk b7 30 (kc e), aO.blk b6 41 [s], aO.set (· = w1.heap.size)] L4 P4) : Out T W' W4 := by
 have hlt := sZ H1
 have g7 := H1.jR _ (List.mem_of_getElem? (i := 0) rfl) b7 rfl
 have g6 := H1.jR _ (List.mem_of_getElem? (i := 1) rfl) b6 rfl
 have h01 := H1.size
 refine H.l5.mono fun b _ h => ?_
 obtain ⟨x, hx, hf⟩ := h
 simp only [List.mem_cons, List.not_mem_nil, or_false] at hx
 rcases hx with rfl | rfl | rfl | rfl
 ·
  exact hb.tb b (.inl hf)
 ·
  have D0 : b = b7 := hf
  exact hb.tb b (.inr (by omega))
 ·
  have D0 : b = b6 := hf
  exact hb.tb b (.inr (by omega))
 ·
  have D0 : b = w1.heap.size := hf
  exact hb.tb b (.inr (by omega))
end
theorem KQ {C : Nat → Prop} {w : World} {bh bc c1 c2 c3 c4 : Nat} {bits n0 : Int} {kd dp : Nat} {lk lv B k : List UInt8} {sl s : Value} {ds : List (List UInt8)} (hC : ∀ b, C b → b < w.heap.size) (eR : aK w bc 213 ([.int .i64 n0])) (bU : aH (fun c_ => C c_ ∨ c_ = bc) (fJ bh bc bits) w) (dA : aH (fun c_ => C c_ ∨ c_ = bc) (fun w => cX w ⟨c1, 0, none⟩ (fH kd dp lk lv B sl)) w) (fO : aH (fun c_ => C c_ ∨ c_ = bc) (fun w => cX w ⟨c2, 0, none⟩ [.pointer (some ⟨bh, 0, none⟩)]) w) (jM : aH (fun c_ => C c_ ∨ c_ = bc) (fun w => cX w ⟨c3, 0, none⟩ [s]) w) (oC : aH (fun c_ => C c_ ∨ c_ = bc) (fun w => cX w ⟨c4, 0, none⟩ (kc k)) w) (sU : aH (fun c_ => C c_ ∨ c_ = bc) (eN s ds) w) (CH : aH (fun c_ => C c_ ∨ c_ = bc) (aW) w) (bS : 0 ≤ bits ∧ bits ≤ 256) (lW : lk.length = 32) (hlv : lv.length = 32) (o5 : B.length = 32) (hsl : sl.oneCell' = true) (hk : k.length = 32) (tM : ∀ d ∈ ds, d.length = 32) (hlen : ds.length ≤ 256) : aGk Tryz.prog 213 [] [.pointer (some ⟨c1, 0, none⟩), .pointer (some ⟨c2, 0, none⟩), .pointer (some ⟨c3, 0, none⟩), .pointer (some ⟨c4, 0, none⟩)] (ds.length + 1) (aGG (eW bits k ds (dS (cR (dY kd lk lv)) bits))) bc 213 C w := by
 intro f J hst pJ mG hf
 show bD Tryz.prog 213 ([f, .pointer (some ⟨c1, 0, none⟩), .pointer (some ⟨c2, 0, none⟩), .pointer (some ⟨c3, 0, none⟩), .pointer (some ⟨c4, 0, none⟩)] : List Value).toArray w _
 refine bD.aI (N := 45) Tryz.func213 rfl rfl (by simp) ?_
 have H := St.c6 (X := C) (b := bc) (t := 213) (l := [.int .i64 n0]) hC eR
 replace H := H.add (bY CH)
 replace H := H.add (bY sU)
 replace H := H.add (bY oC)
 replace H := H.add (bY jM)
 replace H := H.add (bY fO)
 replace H := H.add (bY dA)
 replace H := H.add (bY bU)
 have vC : (fH kd dp lk lv B sl).length = 99 := gA lW hlv o5
 have hfo := MW.one hf
 refine WE.aA ?_
 refine WL.box (l := [f]) H rfl (cells_one hfo) rfl ?_
 intro b5 w1 H
 refine WL.nil (WE.aA ?_)
 refine WL.bG rfl lZ rfl rfl (by exact H.p 1 rfl) (cI jU (by simp only [aR, aU, aB, aD]; omega)) ?_
 refine WL.call aEN rfl (LZ (kd := kd) (dp := dp) (lk := lk) (lv := lv) (B := B) (sl := sl) H.aS lW hlv o5 hsl) ?_
 rintro v12 w2 ⟨hO, hR⟩
 have aA0 := cS.fG (hR.here)
 replace H := (H.out hO).add hR
 refine WL.alloc H rfl aCi rfl ?_
 intro b6 w3 H
 refine WL.aT H 0 rfl rfl rfl (new := [v12]) (cells_one aA0) (by exact AW) (dV aA0) (Laid.at (Laid.all (by simp only [aR, aU, aB, aD])) (by rfl)) rfl ?_
 intro w4 H
 refine WL.nil (WE.aA ?_)
 refine WL.aZ rfl u4 rfl rfl (by exact H.p 3 rfl) ?_
 refine WL.aZ rfl eL rfl rfl (by exact aK.aF (H.l 0 rfl) (aJ.all _) (by rfl)) ?_
 refine WL.call GX rfl (rL (la := dY kd lk lv) (bits := bits) H.aS (H.o 0 rfl) (by exact (H.aL 0 rfl 1 rfl : aH _ (fJ bh bc bits) _)) (by exact (H.aL 0 rfl 0 rfl : aH _ (bI v12 (dY kd lk lv)) _)) (by exact (H.aL 0 rfl 7 rfl : aH _ (aW) _)) bS (by unfold dY; split <;> simp [lW, hlv])) ?_
 rintro _ w5 ⟨rfl, hO, hB⟩
 replace H := H.eS 0 rfl hO hB
 refine WL.alloc H rfl nP rfl ?_
 intro b7 w6 H
 refine WL.aT H 0 rfl rfl rfl (new := kc (dS (cR (dY kd lk lv)) bits)) rfl (by exact dK) (by exact bK _) (Laid.at (Laid.all (by simp only [aR, aU, aB, aD])) (by rfl)) rfl ?_
 intro w7 H
 refine WL.nil (WE.seq (WE.aA ?_))
 refine WL.aZ rfl sL rfl rfl (by exact H.p 4 rfl) ?_
 refine WL.call aEM rfl (FG (s := s) (ds := ds) H.aS (by exact (H.bN 6 rfl : aH _ (eN s ds) _))) ?_
 rintro _ w8 ⟨aFV, rfl, hO, hR⟩
 replace H := (H.out hO).add hR
 refine WL.nil (WE.block ?_)
 replace H := H.freeze (i := 2) rfl
 have H1 : St C w w8 [aO.blk bc 213 [.int .i64 (IntKind.i64.wrap (n0 + 1))]] [aO.blk b7 30 (kc (dS (cR (dY kd lk lv)) bits)), aO.blk b6 41 [v12]] _ := H
 have LO := sZ H1
 have aEn := H1.size
 have aEh := lB H1
 have aDJ := H1.jR _ (List.mem_of_getElem? (i := 0) rfl) b7 rfl
 have aDK := H1.jR _ (List.mem_of_getElem? (i := 1) rfl) b6 rfl
 refine WE.aAI (C := (CW C bc b6 b7)) (fun i W => ∃ T, qT C w w8 bc b6 b7 J (eW bits k ds (dS (cR (dY kd lk lv)) bits)) T i W) rfl aEK (fun b hb => H1.aS b (aEh b hb)) (fun W0 hO => MJ (b1 := aFV) (s := s) (ds := ds) (T2 H1 hO) (by exact ID H1 hO 1 rfl) (by exact ID H1 hO 8 rfl) tM (by omega)) (fun i xs W h => by obtain ⟨_, rfl⟩ := h; rfl) (fun W1 hO hsz hd => KR H1 hst hO hsz hd aA0 rfl) (fun i W W2 hS ho => by obtain ⟨T, h⟩ := hS; exact ⟨T, h.step pJ LO aEn ho (fun _ h => h) (fun _ h => .inl h)⟩) ?_ ?_
 ·
  intro i xs_ Wa_ iU aHG QV aIG
  obtain ⟨Ta_, hWa⟩ := aHG
  obtain ⟨aA8, rfl⟩ := QV
  have hkx : ds[ds.length - 1 - i].length = 32 := tM _ (List.getElem_mem aA8)
  have ZF : ((eW bits k ds (dS (cR (dY kd lk lv)) bits)) i).length = 32 := nL (cY _ _) i
  have hb2 := eA k (ds.length - 1 - i)
  have hp0 : (M6 (bH k (ds.length - 1 - i)) ds[ds.length - 1 - i] ((eW bits k ds (dS (cR (dY kd lk lv)) bits)) i)).length = 32 := UW hkx ZF
  have hp1 : (M5 (bH k (ds.length - 1 - i)) ds[ds.length - 1 - i] ((eW bits k ds (dS (cR (dY kd lk lv)) bits)) i)).length = 32 := UU hkx ZF
  have aIJ := hWa.sz
  have H := St.FZ H1 hWa.F7 aEh [] (fun _ h => by cases h) .nil (fun _ h => by cases h)
  refine WE.aA (WL.as rfl rfl (WL.nil (WE.eM ?_)))
  refine WL.alloc H rfl nP rfl ?_
  intro b9 w9 H
  refine WL.aT H 0 rfl rfl rfl (new := kc ds[ds.length - 1 - i]) rfl (cI dK (by simp only [aR, aU, aB, aD]; omega)) (by exact bK _) (Laid.at (Laid.all (by simp only [aR, aU, aB, aD]; omega)) (by rfl)) rfl ?_
  intro vT H
  refine WL.nil ?_
  have aEd := H.aM
  have aEk : aK vT b9 30 (kc ds[ds.length - 1 - i]) := H.l 0 rfl
  have aDH := H.jR _ (List.mem_of_getElem? (i := 0) rfl) b9 rfl
  have Y9 := aEk.lt
  refine ⟨rfl, rfl, aEd, ?_⟩
  intro Wb aA5
  have sV := hWa.step (T' := fun b => Ta_ b ∨ b = b9) pJ LO aEn ((aEd.mono fun _ _ h => h.elim).trans aA5) (fun _ h => .inl h) (fun b h => h.imp id fun e => by subst e; exact ⟨aDH, Nat.lt_of_lt_of_le Y9 aA5.size⟩)
  have hB9 : aK Wb b9 30 (kc ds[ds.length - 1 - i]) := aEk.of_eq (aA5.block _ Y9 (fun h => by have h_ : b9 = w8.heap.size + 1 := h; omega))
  obtain ⟨mb_, aEj⟩ := sV.c
  obtain ⟨sb_, aJd, aEl⟩ := sV.s
  have aII := sV.sz
  replace H := CP (Wl := Wb) H1 sV.F7 aEj sV.e aEl ⟨by omega, rfl⟩ sV.d hB9 (by omega)
  refine WE.block (WE.seq (WE.aA ?_))
  refine WL.aZ rfl aAb rfl rfl (by exact (show aK _ b5 _ [f] from H.p 0 rfl).rd) ?_
  refine WL.aZ rfl eL rfl rfl (by exact aK.aF (H.o 2 rfl) (aJ.all _) (by rfl)) ?_
  refine WL.bG rfl iD rfl rfl (by exact aK.aF (H.o 1 rfl) (aJ.all _) (by rfl)) (cI dK (by simp only [aR, aU, aB, aD]; omega)) ?_
  refine WL.iK rfl rfl (mG _ i _ Wb Wb (by omega) sV.j (Out.refl _ _) (aH.pure ⟨sb_, rfl⟩)) ?_
  rintro _ Wk_ ⟨LQ, rfl, aBn⟩
  have VZ := sV.kept H1 LQ
  replace H := CP (W := Wk_) (Wl := Wb) H1 VZ (aEj.of_eq (LQ.blk bc (sV.tb _ (.inl rfl))).2) (sV.e.of_eq (LQ.blk b7 (sV.tb _ (.inr ⟨aDJ, by omega⟩))).2) (aEl.of_eq (LQ.blk b6 (sV.tb _ (.inr ⟨aDK, by omega⟩))).2) (LQ.blk _ (sV.tb _ (.inr ⟨by omega, by omega⟩))) ((LQ.blk _ (sV.tb _ (.inr ⟨by omega, by omega⟩))).2.trans sV.d) (hB9.of_eq (LQ.blk b9 (.inr rfl)).2) (by omega)
  refine WL.pv (PV.not rfl rfl) rfl (WL.nil ?_)
  refine WE.bB rfl rfl ?_
  refine WE.skip (WE.aA ?_)
  refine WL.bG rfl iD rfl rfl (by exact aK.aF (H.o 5 rfl) (aJ.all _) (by rfl)) (cI dK (by simp only [aR, aU, aB, aD]; omega)) ?_
  refine WL.bG rfl iD rfl rfl (by exact aK.aF (H.o 5 rfl) (aJ.all _) (by rfl)) (cI dK (by simp only [aR, aU, aB, aD]; omega)) ?_
  refine WL.pv (PV.mM rfl xW dK NI (Fl.cons rfl (by rfl) (by simp only [aR, aU, aB, aD]; omega) (Laid.left (Laid.all (by simp only [aR, aU, aB, aD]; omega))) (Fl.cons rfl (by rfl) (by simp only [aR, aU, aB, aD]; omega) (Laid.right (Laid.all (by simp only [aR, aU, aB, aD]; omega)) (by simp only [aR, aU, aB, aD]; omega)) Fl.nil))) rfl ?_
  refine WL.alloc H rfl NI rfl ?_
  intro pQ NR H
  refine WL.aT H 0 rfl rfl rfl (new := kc ds[ds.length - 1 - i] ++ kc ds[ds.length - 1 - i]) rfl (cI aCB (by simp only [aR, aU, aB, aD]; omega)) (by exact bO (bK _) (bK _)) (Laid.at (Laid.all (by simp only [aR, aU, aB, aD]; omega)) (by rfl)) rfl ?_
  intro TK H
  refine WL.nil ?_
  refine WE.bF (.take 0 (.take 1 (.take 3 (.aG 2 (.take 4 (.aG 5 .done)))))) mixed (by kernel_rfl) ?_
  replace H := H.out (Out.drew _)
  refine WP.dF rfl rfl rfl cU rfl (by exact H.p 7 rfl) (cI cN (by simp only [aR, aU, aB, aD]; omega)) ?_
  refine WP.mv rfl rfl rfl ?_
  refine WP.dF rfl rfl rfl iD rfl (by exact aK.aF (H.o 1 rfl) (aJ.all _) (by rfl)) (cI dK (by simp only [aR, aU, aB, aD]; omega)) ?_
  refine WP.aG rfl ?_
  refine WL.call ED rfl (jH (k := k) (d := ds.length - 1 - i) H.aS  (by assumption) (by omega)) ?_
  rintro _ TJ ⟨rfl, hO⟩
  replace H := H.out hO
  refine WL.nil ⟨(fa (fun _ _ => (by exact aK.aF (H.o 1 rfl) (aJ.all _) (by rfl))) (fa (nw 2 0 (by decide +kernel)) cV)), ?_⟩
  refine WP.aC rfl rfl (PV.eq (v' := .pointer (some ⟨pQ, (bH k (ds.length - 1 - i)) * 32, none⟩)) (PV.cG rfl xW dK rfl rfl (by omega) (by omega)) (by simp)) ?_
  refine WP.aG rfl ?_
  refine WL.aT H 0 rfl rfl rfl (new := _) rfl (cI dK (by simp only [aR, aU, aB, aD]; omega)) (by exact bK _) (UT hb2 hkx ZF) rfl ?_
  intro TI H
  refine WL.nil ⟨(fa (nw 5 3 (by decide +kernel)) (fa (nw 5 0 (by decide +kernel)) cV)), ?_⟩
  refine WP.done (WE.aA (WL.pv (PV.cG rfl xW dK rfl rfl (by omega) (by omega)) rfl ?_))
  refine WL.bG rfl iD rfl rfl (by exact aK.aF (H.l 0 rfl) (aJ.l (aJ.all _)) (by rfl)) (cI dK (by simp only [aR, aU, aB, aD]; omega)) ?_
  refine WL.pv (PV.cG rfl xW dK rfl rfl (by omega) (by omega)) rfl ?_
  refine WL.bG rfl iD rfl rfl (by exact aK.aF (H.l 0 rfl) (aJ.r (aJ.all _) (by with_reducible rfl)) (by (simp [aN, bA, *]; done))) (cI dK (by simp only [aR, aU, aB, aD]; omega)) ?_
  refine WL.call ZQ rfl (SV (k := (M6 (bH k (ds.length - 1 - i)) ds[ds.length - 1 - i] ((eW bits k ds (dS (cR (dY kd lk lv)) bits)) i))) (l := (M5 (bH k (ds.length - 1 - i)) ds[ds.length - 1 - i] ((eW bits k ds (dS (cR (dY kd lk lv)) bits)) i))) H.aS hp0 hp1) ?_
  rintro v37 YF ⟨hO, hR⟩
  have aAZ := cS.fG (hR.here)
  replace H := (H.out hO).add hR
  refine WL.kV H 2 rfl rfl rfl (new := [v37]) (cells_one aAZ) (by exact AW) (dV aAZ) (Laid.at (Laid.all (by simp only [aR, aU, aB, aD])) (by rfl)) rfl ?_
  intro w20 H
  refine WL.nil (WE.eM ?_)
  refine WL.aZ rfl u4 rfl rfl (by exact H.p 6 rfl) ?_
  refine WL.aZ rfl eL rfl rfl (by exact aK.aF (H.o 2 rfl) (aJ.all _) (by rfl)) ?_
  refine WL.call GX rfl (rL (la := 1 :: ((M6 (bH k (ds.length - 1 - i)) ds[ds.length - 1 - i] ((eW bits k ds (dS (cR (dY kd lk lv)) bits)) i)) ++ (M5 (bH k (ds.length - 1 - i)) ds[ds.length - 1 - i] ((eW bits k ds (dS (cR (dY kd lk lv)) bits)) i)))) (bits := bits) H.aS (H.o 0 rfl) (by exact (H.aL 0 rfl 4 rfl : aH _ (fJ bh bc bits) _)) (by exact (H.aL 0 rfl 0 rfl : aH _ (bI v37 (1 :: ((M6 (bH k (ds.length - 1 - i)) ds[ds.length - 1 - i] ((eW bits k ds (dS (cR (dY kd lk lv)) bits)) i)) ++ (M5 (bH k (ds.length - 1 - i)) ds[ds.length - 1 - i] ((eW bits k ds (dS (cR (dY kd lk lv)) bits)) i))))) _)) (by exact (H.aL 0 rfl 10 rfl : aH _ (aW) _)) bS (by simp; omega)) ?_
  rintro _ w21 ⟨rfl, hO, hB⟩
  replace H := H.eS 0 rfl hO hB
  refine WL.kV H 1 rfl rfl rfl (new := kc (dS (cR (1 :: ((M6 (bH k (ds.length - 1 - i)) ds[ds.length - 1 - i] ((eW bits k ds (dS (cR (dY kd lk lv)) bits)) i)) ++ (M5 (bH k (ds.length - 1 - i)) ds[ds.length - 1 - i] ((eW bits k ds (dS (cR (dY kd lk lv)) bits)) i))))) bits)) rfl (by exact dK) (by exact bK _) (Laid.at (Laid.all (by simp only [aR, aU, aB, aD]; omega)) (by rfl)) rfl ?_
  intro w22 H
  refine WL.nil ?_
  exact T0 H1 sV VZ pJ aBn H aAZ (.inr rfl) (by omega) (by show uL bits (M6 (bH k (ds.length - 1 - i)) ds[ds.length - 1 - i] ((eW bits k ds (dS (cR (dY kd lk lv)) bits)) i)) (M5 (bH k (ds.length - 1 - i)) ds[ds.length - 1 - i] ((eW bits k ds (dS (cR (dY kd lk lv)) bits)) i)) = rS bits k (ds.length - 1 - i) (ds.getD (ds.length - 1 - i) []) ((eW bits k ds (dS (cR (dY kd lk lv)) bits)) i); rw [UF, jQ aA8])
 ·
  intro w23 hS_
  obtain ⟨Tz_, rA⟩ := hS_
  obtain ⟨mz_, aEi⟩ := rA.c
  obtain ⟨sz_, aI9, ZM⟩ := rA.s
  have aIH := rA.sz
  have aJr : ((eW bits k ds (dS (cR (dY kd lk lv)) bits)) ds.length).length = 32 := nL (cY _ _) _
  replace H := y7 H1 rA.F7 aEi rA.e ZM rA.d
  refine WE.eM ?_
  refine WL.aZ rfl aAb rfl rfl (by exact (show aK _ b5 _ [f] from H.p 0 rfl).rd) ?_
  refine WL.aZ rfl eL rfl rfl (by exact aK.aF (H.o 2 rfl) (aJ.all _) (by rfl)) ?_
  refine WL.bG rfl iD rfl rfl (by exact aK.aF (H.o 1 rfl) (aJ.all _) (by rfl)) (cI dK (by simp only [aR, aU, aB, aD]; omega)) ?_
  refine WL.iK rfl rfl (mG _ ds.length _ _ _ (by omega) rA.j (Out.refl _ _) (aH.pure ⟨sz_, rfl⟩)) ?_
  rintro _ Wk_ ⟨LQ, rfl, aBn⟩
  have VZ := rA.kept H1 LQ
  replace H := y7 (W := Wk_) H1 VZ (aEi.of_eq (LQ.blk bc (rA.tb _ (.inl rfl))).2) (rA.e.of_eq (LQ.blk b7 (rA.tb _ (.inr ⟨aDJ, by omega⟩))).2) (ZM.of_eq (LQ.blk b6 (rA.tb _ (.inr ⟨aDK, by omega⟩))).2) ((LQ.blk _ (rA.tb _ (.inr ⟨by omega, by omega⟩))).2.trans rA.d)
  refine WL.nil ?_
  (obtain ⟨w28, wY, H⟩ := H.T6 3 rfl)
  refine ⟨[], _, (wY _ (.nil _)), trivial, ?_⟩
  exact ⟨rfl, ⟨_, H.o 0 rfl⟩, Tz_, pJ Tz_ Tz_ _ _ _ aBn (TZ H1 rA H) (fun _ h => h) (fun _ h => .inl h)⟩
def aCt (c1 c2 c3 c4 : Nat) : Value := .func (.func 213) [].toArray [.pointer (some ⟨c1, 0, none⟩), .pointer (some ⟨c2, 0, none⟩), .pointer (some ⟨c3, 0, none⟩), .pointer (some ⟨c4, 0, none⟩)].toArray
theorem aAo {X : Nat → Prop} {w : World} {bh : Nat} {kd dp : Nat} {lk lv B k : List UInt8} {sl s : Value} (hX : cW X w) (lW : lk.length = 32) (hlv : lv.length = 32) (o5 : B.length = 32) (hsl : sl.oneCell' = true) (hs : s.oneCell' = true) (hk : k.length = 32) :
  bD Tryz.prog 208 [.pointer (some ⟨bh, 0, none⟩), .agg (fH kd dp lk lv B sl).toArray, s, .agg (kc k).toArray].toArray w fun v w' => ∃ c1 c2 c3 c4, v = aCt c1 c2 c3 c4 ∧ Out Nil w w' ∧ aH X (fun w => cX w ⟨c1, 0, none⟩ (fH kd dp lk lv B sl)) w' ∧ aH X (fun w => cX w ⟨c2, 0, none⟩ [.pointer (some ⟨bh, 0, none⟩)]) w' ∧ aH X (fun w => cX w ⟨c3, 0, none⟩ [s]) w' ∧ aH X (fun w => cX w ⟨c4, 0, none⟩ (kc k)) w' := by
 refine bD.aI (N := 10) Tryz.func208 rfl rfl (by simp) ?_
 have H := St.begin hX
 refine WE.aA ?_
 refine WL.box (l := [.pointer (some ⟨bh, 0, none⟩)]) H rfl (rfl) rfl ?_
 intro b4 w1 H
 refine WL.box (l := fH kd dp lk lv B sl) H rfl (by rfl) rfl ?_
 intro b5 w2 H
 refine WL.box (l := [s]) H rfl (cells_one hs) rfl ?_
 intro b6 w3 H
 refine WL.box (l := kc k) H rfl (by rfl) rfl ?_
 intro b7 w4 H
 refine WL.as rfl rfl (WL.nil (WE.aA (WL.pv (PV.makeFunc rfl) rfl (WL.as rfl rfl (WL.nil (WE.ret ⟨[_], _, .nil _, ⟨rfl, trivial⟩, ?_⟩))))))
 replace H := H.freeze (i := 0) rfl
 replace H := H.freeze (i := 0) rfl
 replace H := H.freeze (i := 0) rfl
 replace H := H.freeze (i := 0) rfl
 exact ⟨_, _, _, _, rfl, H.aM, (H.gU (H.bN 1 rfl)).imp fun _ h => h.rd, (H.gU (H.bN 0 rfl)).imp fun _ h => h.rd, (H.gU (H.bN 2 rfl)).imp fun _ h => h.rd, (H.gU (H.bN 3 rfl)).imp fun _ h => h.rd⟩
theorem XK {X : Nat → Prop} {w : World} {bh bc : Nat} {bits n0 : Int} {kd dp : Nat} {lk lv B k : List UInt8} {sl : Value} {sb : List (List UInt8)} (hX : cW X w) (eR : aK w bc 213 ([.int .i64 n0])) (bU : aH (fun c_ => X c_ ∨ c_ = bc) (fJ bh bc bits) w) (dA : aH (fun c_ => X c_ ∨ c_ = bc) (eN sl sb) w) (fO : aH (fun c_ => X c_ ∨ c_ = bc) (aW) w) (bS : 0 ≤ bits ∧ bits ≤ 256) (hp : iG kd dp lk lv B sb) (hk : k.length = 32) :
  bD Tryz.prog 196 [.pointer (some ⟨bh, 0, none⟩), .agg (fH kd dp lk lv B sl).toArray, .agg (kc k).toArray].toArray w fun v w' => ∃ (m : Int) (s : Value), v = .tuple [s, .int .i64 0].toArray ∧ Out (· = bc) w w' ∧ aK w' bc 213 [.int .i64 m] ∧ aH (fun c => X c ∨ c = bc) (eN s ((List.range (dp + 1)).map (eW bits k (fN bits dp B sb) (dS (cR (dY kd lk lv)) bits)))) w' := by
 refine bD.aI (N := 34) Tryz.func196 rfl rfl (by simp) ?_
 have H := St.c6 (b := bc) (t := 213) (l := [.int .i64 n0]) hX eR
 replace H := H.add (bY fO)
 replace H := H.add (bY dA)
 replace H := H.add (bY bU)
 have vE := hp.kd
 have yR := hp.L8
 have lW := hp.tJ
 have hlv := hp.lvl
 have o5 := hp.bl
 have oW := hp.NC
 have vC : (fH kd dp lk lv B sl).length = 99 := gA hp.tJ hp.lvl hp.bl
 have hs1 : sl.oneCell' = true := cS.fG (dA.here)
 have QH := sK bits dp B sb
 have hdk := xI (bits := bits) (dp := dp) (B := B) hp.sl
 refine WE.aA ?_
 refine WL.box (l := fH kd dp lk lv B sl) H rfl (by rfl) rfl ?_
 intro b4 w1 H
 refine WL.box (l := kc k) H rfl (by rfl) rfl ?_
 intro b5 w2 H
 refine WL.as rfl rfl (WL.as rfl rfl (WL.nil (WE.aA (WL.mv rfl rfl ?_))))
 refine WL.bG rfl lZ rfl rfl (by exact aK.aF (H.l 1 rfl) (aJ.all _) (by rfl)) (cI jU (by simp only [aR, aU, aB, aD]; omega)) ?_
 refine WL.call aES rfl (TA (kd := kd) (dp := dp) (lk := lk) (lv := lv) (B := B) (sl := sl) (sb := sb) (bits := bits) H.aS (H.o 0 rfl) (by exact (H.aL 0 rfl 0 rfl : aH _ (fJ bh bc bits) _)) (by exact (H.aL 0 rfl 1 rfl : aH _ (eN sl sb) _)) (by exact (H.aL 0 rfl 2 rfl : aH _ (aW) _)) bS hp) ?_
 rintro _ w3 ⟨m16, KW, rfl, hO, hB, hR⟩
 have aIK := cS.fG (hR.here)
 replace H := H.c9 0 rfl hO hB hR
 refine WL.mv rfl rfl (WL.pv (PV.extract rfl rfl rfl) rfl (WL.pv (PV.extract rfl rfl rfl) rfl (WL.as rfl rfl (WL.as rfl rfl (WL.nil (WE.seq (WE.aA ?_)))))))
 refine WL.mv rfl rfl (WL.pv (PV.neq rfl rfl rfl) rfl (WL.nil ?_))
 refine WE.bB rfl rfl ?_
 refine WE.skip (WE.aA ?_)
 refine WL.alloc H rfl aGC rfl ?_
 intro pQ w4 H
 replace H := H.lG 30 32
 refine WL.nil (WE.seq (WE.aA (WL.mv rfl rfl ?_)))
 refine WL.bG rfl lZ rfl rfl (by exact aK.aF (H.l 3 rfl) (aJ.all _) (by rfl)) (cI jU (by simp only [aR, aU, aB, aD]; omega)) ?_
 refine WL.mv rfl rfl ?_
 refine WL.bG rfl cU rfl rfl (by exact aK.aF (H.l 2 rfl) (aJ.all _) (by rfl)) (cI cN (by simp only [aR, aU, aB, aD]; omega)) ?_
 refine WL.call aER rfl (aAo (kd := kd) (dp := dp) (lk := lk) (lv := lv) (B := B) (k := k) (sl := sl) (s := KW) H.aS  (by assumption) (by assumption) (by assumption) (by assumption) (by assumption) (by assumption)) ?_
 rintro _ w5 ⟨c1_, c2_, c3_, c4_, rfl, hO, LW, JH, ZI, hR4⟩
 replace H := ((((H.out hO).add hR4).add ZI).add JH).add LW
 refine WL.nil (WE.block ?_)
 replace H := (show St X w w5 [aO.blk bc 213 [.int .i64 m16]] [aO.iA w.heap.size (.slice none 0 0) 30 32 (0) (((List.range (0)).map (eW bits k (fN bits dp B sb) (dS (cR (dY kd lk lv)) bits))).flatMap kc), aO.blk pQ 33 [(.slice none 0 0)], aO.blk b5 24 (kc k), aO.blk b4 35 (fH kd dp lk lv B sl)] [fun w => cX w ⟨c1_, 0, none⟩ (fH kd dp lk lv B sl), fun w => cX w ⟨c2_, 0, none⟩ [.pointer (some ⟨bh, 0, none⟩)], fun w => cX w ⟨c3_, 0, none⟩ [KW], fun w => cX w ⟨c4_, 0, none⟩ (kc k), eN KW (fN bits dp B sb), fJ bh bc bits, eN sl sb, aW] from H)
 refine WE.aAH (α := Value) (fun i vv => True) (fun i vv => []) (fun i vv => [aO.iA w.heap.size vv 30 32 (i) (((List.range (i)).map (eW bits k (fN bits dp B sb) (dS (cR (dY kd lk lv)) bits))).flatMap kc), aO.blk pQ 33 [vv], aO.blk b5 24 (kc k), aO.blk b4 35 (fH kd dp lk lv B sl)]) (fun i vv => [fun w => cX w ⟨c1_, 0, none⟩ (fH kd dp lk lv B sl), fun w => cX w ⟨c2_, 0, none⟩ [.pointer (some ⟨bh, 0, none⟩)], fun w => cX w ⟨c3_, 0, none⟩ [KW], fun w => cX w ⟨c4_, 0, none⟩ (kc k), eN KW (fN bits dp B sb), fJ bh bc bits, eN sl sb, aW]) (.slice none 0 0) H rfl aEO (fun W0 hO => KQ (ds := (fN bits dp B sb)) (s := KW) (bits := bits) (kd := kd) (dp := dp) (lk := lk) (lv := lv) (B := B) (k := k) (sl := sl) (H.aFP hO) ((H.o 0 (e := aO.blk bc 213 [.int .i64 m16]) rfl).of_eq (hO.block _ (H.o 0 (e := aO.blk bc 213 [.int .i64 m16]) rfl).lt id)) (H.rF hO 5 rfl) (H.rF hO 0 rfl) (H.rF hO 1 rfl) (H.rF hO 2 rfl) (H.rF hO 3 rfl) (H.rF hO 4 rfl) (H.rF hO 7 rfl) bS lW hlv o5 hs1 hk hdk (by omega)) (fun i xs W h => by obtain ⟨_, rfl⟩ := h; rfl) ⟨trivial, rfl, rfl, rfl⟩ ?_ ?_
 ·
  intro i vv xs_ l_ d_ oo_ o_ T_ sc_ w6 iU zT QV H
  obtain ⟨sx_, rfl⟩ := QV
  have ZF : ((eW bits k (fN bits dp B sb) (dS (cR (dY kd lk lv)) bits)) i).length = 32 := nL (cY _ _) i
  refine WE.eM ?_
  refine WL.alloc H rfl nP rfl ?_
  intro b12 w7 H
  refine WL.aT H 0 rfl rfl rfl (new := kc ((eW bits k (fN bits dp B sb) (dS (cR (dY kd lk lv)) bits)) i)) rfl (cI dK (by simp only [aR, aU, aB, aD]; omega)) (by exact bK _) (Laid.at (Laid.all (by simp only [aR, aU, aB, aD]; omega)) (by rfl)) rfl ?_
  intro w8 H
  refine WL.nil ?_
  refine ⟨rfl, rfl, _, [aO.blk b12 30 (kc ((eW bits k (fN bits dp B sb) (dS (cR (dY kd lk lv)) bits)) i)), aO.iA w.heap.size vv 30 32 (i) (((List.range (i)).map (eW bits k (fN bits dp B sb) (dS (cR (dY kd lk lv)) bits))).flatMap kc), aO.blk pQ 33 [vv], aO.blk b5 24 (kc k), aO.blk b4 35 (fH kd dp lk lv B sl)], _, H, ?_⟩
  intro w9 H
  refine WE.block (WE.eM ?_)
  refine WL.aZ rfl sL rfl rfl (by exact aK.aF (H.l 2 rfl) (aJ.all _) (by rfl)) ?_
  refine WL.bG rfl iD rfl rfl (by exact aK.aF (H.l 0 rfl) (aJ.all _) (by rfl)) (cI dK (by simp only [aR, aU, aB, aD]; omega)) ?_
  refine WL.bJ (l0 := (kc (List.replicate 32 0))) H rfl CX (by decide) (by rfl) (Fl.cons rfl (by rfl) (by simp only [aR, aU, aB, aD]; omega) (Laid.all (by simp only [aR, aU, aB, aD]; omega)) Fl.nil) rfl ?_
  intro b31 vT H
  refine WL.append (m := 1) H 2 CX (by decide) rfl rfl rfl (cS.cA (n := 1) (H.l 0 rfl) (by rw [aN, ZF]; simp [aN])) (bK _) (by omega) (by decide) rfl ?_
  intro v32 y8 H
  replace H := H.forget 0
  have aDn := iN (H.l 1 rfl)
  refine WL.aT H 2 rfl rfl rfl (new := [v32]) (cells_one aDn) (by exact aAx) (dV aDn) (Laid.at (Laid.all (by simp only [aR, aU, aB, aD])) (by rfl)) rfl ?_
  intro IE H
  refine WL.nil ?_
  replace H := H.forget 0
  replace H := H.conv (L' := [aO.iA w.heap.size v32 30 32 (i + 1) (((List.range (i + 1)).map (eW bits k (fN bits dp B sb) (dS (cR (dY kd lk lv)) bits))).flatMap kc), aO.blk pQ 33 [v32], aO.blk b5 24 (kc k), aO.blk b4 35 (fH kd dp lk lv B sl), aO.obj l_ o_, aO.obj d_ (.deferred (some [])), aO.sn T_ w9]) (by rw [List.range_succ, List.map_append, List.flatMap_append]; simp only [List.map_cons, List.map_nil, List.flatMap_cons, List.flatMap_nil, List.append_nil]; rfl)
  replace H := H.drop (fun p hp => List.mem_cons_of_mem _ hp)
  exact ⟨v32, trivial, H⟩
 ·
  intro vv WR FI mc_ zT H
  refine WE.aA ?_
  refine WL.aZ rfl sL rfl rfl (by exact aK.aF (H.l 2 rfl) (aJ.all _) (by rfl)) ?_
  refine WL.as rfl rfl (WL.as rfl rfl (WL.nil (WE.ret ?_)))
  (obtain ⟨KT, wY, H⟩ := H.vU 0 rfl)
  refine ⟨[_, _], _, (wY _ (.nil _)), ⟨rfl, rfl, trivial⟩, ?_⟩
  rw [QH] at H
  replace H := H.freeze (i := 0) rfl
  refine ⟨_, vv, rfl, H.cM, H.o 0 rfl, (H.fM (H.bN 0 rfl)).imp fun _ h => ?_⟩
  have h_ := cS.eH h
  unfold eN; rw [List.length_map, List.length_range]; exact h_
theorem CB {X : Nat → Prop} {w : World} {bh bc : Nat} {bits n0 : Int} {kd dp : Nat} {lk lv B k : List UInt8} {sl : Value} {sb : List (List UInt8)} (hX : cW X w) (eR : aK w bc 213 ([.int .i64 n0])) (bU : aH (fun c_ => X c_ ∨ c_ = bc) (fJ bh bc bits) w) (dA : aH (fun c_ => X c_ ∨ c_ = bc) (eN sl sb) w) (fO : aH (fun c_ => X c_ ∨ c_ = bc) (aW) w) (bS : 0 ≤ bits ∧ bits ≤ 256) (hp : iG kd dp lk lv B sb) (hk : k.length = 32) :
  bD Tryz.prog 170 [.pointer (some ⟨bh, 0, none⟩), .agg (fH kd dp lk lv B sl).toArray, .agg (kc k).toArray].toArray w fun v w' => ∃ (m : Int), v = .tuple [.agg (kc (eW bits k (fN bits dp B sb) (dS (cR (dY kd lk lv)) bits) dp)).toArray, .int .i64 0].toArray ∧ Out (· = bc) w w' ∧ aK w' bc 213 [.int .i64 m] := by
 refine bD.aI (N := 27) Tryz.func170 rfl rfl (by simp) ?_
 have H := St.c6 (b := bc) (t := 213) (l := [.int .i64 n0]) hX eR
 replace H := H.add (bY fO)
 replace H := H.add (bY dA)
 replace H := H.add (bY bU)
 have vE := hp.kd
 have yR := hp.L8
 have lW := hp.tJ
 have hlv := hp.lvl
 have o5 := hp.bl
 have oW := hp.NC
 have vC : (fH kd dp lk lv B sl).length = 99 := gA hp.tJ hp.lvl hp.bl
 have hs1 : sl.oneCell' = true := cS.fG (dA.here)
 have QH := sK bits dp B sb
 have hdk := xI (bits := bits) (dp := dp) (B := B) hp.sl
 have hrl : (eW bits k (fN bits dp B sb) (dS (cR (dY kd lk lv)) bits) dp).length = 32 := nL (cY _ _) _
 refine WE.aA ?_
 refine WL.box (l := fH kd dp lk lv B sl) H rfl (by rfl) rfl ?_
 intro b4 w1 H
 refine WL.box (l := kc k) H rfl (by rfl) rfl ?_
 intro b5 w2 H
 refine WL.alloc H rfl nP rfl ?_
 intro b6 w3 H
 refine WL.as rfl rfl (WL.nil (WE.aA (WL.mv rfl rfl ?_)))
 refine WL.bG rfl lZ rfl rfl (by exact aK.aF (H.l 2 rfl) (aJ.all _) (by rfl)) (cI jU (by simp only [aR, aU, aB, aD]; omega)) ?_
 refine WL.bG rfl cU rfl rfl (by exact aK.aF (H.l 1 rfl) (aJ.all _) (by rfl)) (cI cN (by simp only [aR, aU, aB, aD]; omega)) ?_
 refine WL.call aEV rfl (XK (kd := kd) (dp := dp) (lk := lk) (lv := lv) (B := B) (sl := sl) (sb := sb) (bits := bits) (k := k) H.aS (H.o 0 rfl) (by exact (H.aL 0 rfl 0 rfl : aH _ (fJ bh bc bits) _)) (by exact (H.aL 0 rfl 1 rfl : aH _ (eN sl sb) _)) (by exact (H.aL 0 rfl 2 rfl : aH _ (aW) _)) bS hp hk) ?_
 rintro _ w4 ⟨m14, aAy, rfl, hO, hB, hR⟩
 replace H := H.c9 0 rfl hO hB hR
 refine WL.mv rfl rfl (WL.pv (PV.extract rfl rfl rfl) rfl (WL.pv (PV.extract rfl rfl rfl) rfl (WL.as rfl rfl (WL.as rfl rfl (WL.nil (WE.seq (WE.aA ?_)))))))
 refine WL.mv rfl rfl (WL.pv (PV.neq rfl rfl rfl) rfl (WL.nil ?_))
 refine WE.bB rfl rfl ?_
 refine WE.skip (WE.aA (WL.mv rfl rfl (WL.mv rfl rfl ?_)))
 refine WL.pv (PV.eq (v' := .int .i64 ((dp + 1 : Nat) : Int)) (PV.dO (by exact (H.p 0 rfl : (eN aAy ((List.range (dp + 1)).map (eW bits k (fN bits dp B sb) (dS (cR (dY kd lk lv)) bits)))) _)) mS rfl) (by rw [List.length_map, List.length_range])) rfl ?_
 refine WL.pv (PV.eq (v' := .int .i64 ((dp : Nat) : Int)) (PV.iT rfl rfl rfl (by omega) (by omega)) (by (congr 1; omega))) rfl ?_
 refine WL.pv (PV.eQ rfl (by exact (H.p 0 rfl : (eN aAy ((List.range (dp + 1)).map (eW bits k (fN bits dp B sb) (dS (cR (dY kd lk lv)) bits)))) _)) mS dK rfl rfl (by omega) (by rw [List.length_map, List.length_range]; omega)) rfl ?_
 refine WL.bG rfl iD rfl rfl ((by have h_ := eN.rd (by exact (H.p 0 rfl : (eN aAy ((List.range (dp + 1)).map (eW bits k (fN bits dp B sb) (dS (cR (dY kd lk lv)) bits)))) _)) (fun x hx => by obtain ⟨j, _, rfl⟩ := List.mem_map.1 hx; exact nL (cY _ _) _) dp (by rw [List.length_map, List.length_range]; omega); rw [List.getElem_map, List.getElem_range] at h_; exact h_)) (cI dK (by simp only [aR, aU, aB, aD]; omega)) ?_
 refine WL.aT H 0 rfl rfl rfl (new := kc (eW bits k (fN bits dp B sb) (dS (cR (dY kd lk lv)) bits) dp)) rfl (cI dK (by simp only [aR, aU, aB, aD]; omega)) (by exact bK _) (Laid.at (Laid.all (by simp only [aR, aU, aB, aD]; omega)) (by rfl)) rfl ?_
 intro w5 H
 refine WL.as rfl rfl (WL.nil (WE.ret ⟨[_, _], _, .nil _, ⟨⟨_, rfl, aV iD (by exact aK.aF (H.l 0 rfl) (aJ.all _) rfl) (cI dK (by simp only [aR, aU, aB, aD]; omega))⟩, rfl, trivial⟩, ?_⟩))
 exact ⟨_, rfl, H.cM, H.o 0 rfl⟩
theorem V3 {bits : Int} {T : Tr} {k : List UInt8} : dS (cR (dY (pK T k) (T.fin k).key ((T.fin k).vd bits))) bits = (T.fin k).er.lV bits := by
 have h2 : (T.fin k).er.kind ≠ 2 := Tr.qA _ 0 T rfl
 unfold pK
 revert h2
 cases (T.fin k) with
 | nil => intro _; exact congrArg (fun x => dS (cR x) bits) (show dY 0 _ _ = [3] from if_neg (by decide))
 | leaf a q v s => intro _; exact congrArg (fun x => dS (cR x) bits) (show dY 1 _ _ = 0 :: (q ++ mQ bits v) from if_pos rfl)
 | inner => intro h; exact absurd rfl h
theorem wI {bits : Int} {T : Tr} {k : List UInt8} (hd : T.dp k 0 ≤ 256) : eW bits k (fN bits (T.dp k 0) (lF T k (T.dp k 0)) (fZ bits T k (T.dp k 0))) (dS (cR (dY (pK T k) (T.fin k).key ((T.fin k).vd bits))) bits) (T.dp k 0) = T.er.lV bits := by
 have e1 : fN bits (T.dp k 0) (lF T k (T.dp k 0)) (fZ bits T k (T.dp k 0)) = (List.range (T.dp k 0)).map fun d => (o8 T k d).er.lV bits := by
  unfold fN
  rw [wK hd, RE]
 rw [e1, V3]
 have hl : ((List.range (T.dp k 0)).map fun d => (o8 T k d).er.lV bits).length = T.dp k 0 := by simp
 have h := R3 (bits := bits) (k := k) (ds := (List.range (T.dp k 0)).map fun d => (o8 T k d).er.lV bits) (e := (T.fin k).er.lV bits)
 rw [hl] at h
 rw [h]
 refine CS (T.dp k 0) (Nat.le_refl _) fun d hd => ?_
 rw [jQ (by rw [hl]; exact hd), List.getElem_map, List.getElem_range]
def uT (kd dp : Nat) (lk lv k vd : List UInt8) (IX : Bool) : Prop :=
 (IX = true → kd = 1 ∧ lk = k ∧ lv = vd) ∧ (IX = false → kd = 1 → lk ≠ k ∧ dp ≤ fF lk k)
theorem J6 {k : List UInt8} {m : List En} : ∀ {i : Nat} {e : En}, e ∈ B6 k 0 m i → ∀ j, j < i → bH e.k j = bH k j
 | 0, _, _, j, h => absurd h (Nat.not_lt_zero _)
 | i + 1, e, h, j, hj => by
  have h1 := hZ.1 h
  rcases Nat.lt_or_ge j i with h2 | h2
  ·
   exact J6 h1.1 j h2
  ·
   have h3 : j = i := by omega
   subst h3; exact h1.2
theorem K6 {bits : Int} {T : Tr} {m : List En} {k : List UInt8} (hT : T.er = grow 0 m) (hp : Pm 0 m) (hd : T.dp k 0 ≤ 256) :
  uT (pK T k) (T.dp k 0) (T.fin k).key ((T.fin k).vd bits) k (mQ bits (gV m k)) (iQ m k) := by
 have hg := EA (k := k) hT hp
 constructor
 ·
  intro h
  unfold iQ at h
  obtain ⟨e, he⟩ := Option.isSome_iff_exists.1 h
  have hv : gV m k = e.v := by unfold gV; rw [he]
  rw [he] at hg
  unfold Tr.GS at hg
  unfold pK
  rw [hv]
  revert hg
  cases (T.fin k) with
  | nil => intro h; cases h
  | inner => intro h; cases h
  | leaf a q v s =>
   intro h
   dsimp only at h
   split at h
   ·
    rename_i hq
    injection h with h
    have h' : v = e.v := h
    exact ⟨rfl, hq, by show mQ bits v = _; rw [h']⟩
   ·
    cases h
 ·
  intro h h1
  have hn : getM m k = none := by
   unfold iQ at h
   cases hh : getM m k with
   | none => rfl
   | some e => rw [hh] at h; cases h
  have ha := AM (k := k) hT hp _ (Nat.le_refl _)
  have hl := B5 (k := k) hT hp
  have hf : (T.fin k).er = _ := ha.1
  rw [hn] at hg
  have hgm := BT (k := k) (d := 0) (m := m) (T.dp k 0)
  rw [hn] at hgm
  match hm : B6 k 0 m (T.dp k 0), hl with
  | [], _ =>
   rw [hm, eD] at hf
   have e0 := Tr.PB hf
   unfold pK at h1
   rw [e0] at h1
   exact absurd h1 (by decide)
  | [e], _ =>
   rw [hm, dI] at hf
   obtain ⟨a, s, e2⟩ := Tr.vA hf
   rw [e2]
   have hne : e.k ≠ k := fun hk => by
    rw [hm] at hgm
    unfold getM at hgm
    rw [List.find?_cons] at hgm
    simp [hk] at hgm
   refine ⟨hne, ?_⟩
   show T.dp k 0 ≤ fF e.k k
   have hb := J6 (k := k) (m := m) (i := T.dp k 0) (e := e) (by rw [hm]; simp)
   obtain ⟨hc1, _, hc3⟩ := oJ e.k k
   rcases Nat.lt_or_ge (fF e.k k) (T.dp k 0) with h5 | h5
   ·
    exact absurd (hb _ h5) (hc3 (by omega))
   ·
    exact h5
  | _ :: _ :: _, h => simp at h
theorem _root_.Go.Sp.aCr : cH Tryz.prog 168 = some ([.pointer none] ++ ([.slice none 0 0] ++ ([.slice none 0 0, .slice none 0 0, .bool false] ++ ([.slice none 0 0] ++ ([.int .i64 0] ++ ([.int .i64 0] ++ ((kc (List.replicate 32 0) ++ kc (List.replicate 32 0)) ++ (kc (List.replicate 32 0) ++ [.slice none 0 0])))))))) := by kernel_rfl
def G0 (bh : Nat) (sr sk sv : Value) (pr : Bool) (se : Value) (pf : List Value) : List Value := [.pointer (some ⟨bh, 0, none⟩)] ++ ([sr] ++ ([sk, sv, .bool pr] ++ ([se] ++ pf)))
def TH : List Value := ([.int .i64 0] ++ ([.int .i64 0] ++ ((kc (List.replicate 32 0) ++ kc (List.replicate 32 0)) ++ (kc (List.replicate 32 0) ++ [.slice none 0 0]))))
theorem H9 : TH.length = 99 := by rfl
theorem sY {X : Nat → Prop} {w : World} {c : Bool} {e : Int} (hX : cW X w) :
  bD Tryz.prog 122 [.bool c, .int .i64 e].toArray w fun v w' => v = .int .i64 (if c = true then e else 0) ∧ Out Nil w w' := by
 refine bD.aI (N := 7) Tryz.func122 rfl rfl (by simp) ?_
 have H := St.begin hX
 refine WE.aA (WL.as rfl rfl (WL.nil (WE.seq (WE.aA (WL.mv rfl rfl (WL.nil ?_))))))
 refine WE.cond rfl (fun tN => ?_) (fun tN => ?_)
 ·
  try simp only [bW] at tN
  refine WE.aA (WL.mv rfl rfl (WL.as rfl rfl (WL.nil (WE.ret ⟨[_], _, .nil _, ⟨rfl, trivial⟩, ?_⟩))))
  refine ⟨?_, H.aM⟩
  rw [if_pos tN]
  rfl
 ·
  try simp only [bW] at tN
  refine WE.skip (WE.aA (WL.as rfl rfl (WL.nil (WE.ret ⟨[_], _, .nil _, ⟨rfl, trivial⟩, ?_⟩))))
  refine ⟨?_, H.aM⟩
  rw [if_neg (by simp [tN])]
  rfl
theorem aCM {X : Nat → Prop} {w : World} {bk bh : Nat} {sr sk sv se : Value} {pr : Bool} {pf : List Value} {rb : List UInt8} (hX : cW X w) (bU : aH X (fun w => aK w bk 168 (G0 bh sr sk sv pr se pf)) w) (dA : aH X (bI sr rb) w) (hr : rb.length = 32) :
  bD Tryz.prog 121 [.pointer (some ⟨bk, 0, none⟩)].toArray w fun v w' => v = .int .i64 0 ∧ Out Nil w w' := by
 refine bD.aI (N := 10) Tryz.func121 rfl rfl (by simp) ?_
 have H := St.begin hX
 replace H := H.add (cF dA)
 replace H := H.add (cF bU)
 refine WE.aA (WL.as rfl rfl (WL.nil (WE.aA (WL.mv rfl rfl (WL.pv (PV.nilCheck rfl rfl) rfl (WL.pv (PV.fieldAddr rfl vJ rfl) rfl ?_))))))
 refine WL.aZ rfl eL rfl rfl (by exact aK.aF (H.p 0 rfl) (aJ.r (aJ.l (aJ.all _)) (by with_reducible rfl)) (by rfl)) ?_
 refine WL.pv (PV.dO (by exact (H.p 1 rfl : (bI sr rb) _)) eV rfl) rfl ?_
 refine WL.pv (PV.neq rfl rfl rfl) rfl ?_
 refine WL.call zZ rfl (sY (c := _) (e := 4) H.aS) ?_
 rintro _ w1 ⟨rfl, hO⟩
 replace H := H.out hO
 refine WL.as rfl rfl (WL.nil (WE.ret ⟨[_], _, .nil _, ⟨rfl, trivial⟩, ?_⟩))
 refine ⟨?_, H.aM⟩
 show Value.int .i64 _ = Value.int .i64 0
 congr 1
 simp [hr]
theorem aCK {X : Nat → Prop} {w : World} {bk bh : Nat} {sr sk sv se : Value} {pr : Bool} {pf : List Value} {k : List UInt8} (hX : cW X w) (bU : aH X (fun w => aK w bk 168 (G0 bh sr sk sv pr se pf)) w) (dA : aH X (bI sk k) w) (hk : k.length = 32) :
  bD Tryz.prog 123 [.pointer (some ⟨bk, 0, none⟩)].toArray w fun v w' => v = .int .i64 0 ∧ Out Nil w w' := by
 refine bD.aI (N := 11) Tryz.func123 rfl rfl (by simp) ?_
 have H := St.begin hX
 replace H := H.add (cF dA)
 replace H := H.add (cF bU)
 refine WE.aA (WL.as rfl rfl (WL.nil (WE.aA (WL.mv rfl rfl (WL.pv (PV.nilCheck rfl rfl) rfl (WL.pv (PV.fieldAddr rfl kJ rfl) rfl (WL.pv (PV.fieldAddr rfl B1 rfl) rfl ?_)))))))
 refine WL.aZ rfl eL rfl rfl (by exact aK.aF (H.p 0 rfl) (aJ.r (aJ.r (aJ.l aJ.hd) (by with_reducible rfl)) (by with_reducible rfl)) (by rfl)) ?_
 refine WL.pv (PV.dO (by exact (H.p 1 rfl : (bI sk k) _)) eV rfl) rfl ?_
 refine WL.pv (PV.neq rfl rfl rfl) rfl ?_
 refine WL.call zZ rfl (sY (c := _) (e := 2) H.aS) ?_
 rintro _ w1 ⟨rfl, hO⟩
 replace H := H.out hO
 refine WL.as rfl rfl (WL.nil (WE.ret ⟨[_], _, .nil _, ⟨rfl, trivial⟩, ?_⟩))
 refine ⟨?_, H.aM⟩
 show Value.int .i64 _ = Value.int .i64 0
 congr 1
 simp [hk]
theorem aCJ {X : Nat → Prop} {w : World} {bk bh : Nat} {sr sk sv se : Value} {pr : Bool} {pf : List Value} {vv : List UInt8} (hX : cW X w) (bU : aH X (fun w => aK w bk 168 (G0 bh sr sk sv pr se pf)) w) (dA : aH X (bI sv vv) w) (hv : vv.length ≤ 65535) :
  bD Tryz.prog 124 [.pointer (some ⟨bk, 0, none⟩)].toArray w fun v w' => v = .int .i64 0 ∧ Out Nil w w' := by
 refine bD.aI (N := 18) Tryz.func124 rfl rfl (by simp) ?_
 have H := St.begin hX
 replace H := H.add (cF dA)
 replace H := H.add (cF bU)
 refine WE.aA (WL.as rfl rfl (WL.nil (WE.aA (WL.mv rfl rfl (WL.pv (PV.nilCheck rfl rfl) rfl (WL.pv (PV.fieldAddr rfl kJ rfl) rfl (WL.pv (PV.fieldAddr rfl B0 rfl) rfl ?_)))))))
 refine WL.aZ rfl uD rfl rfl (by exact aK.aF (H.p 0 rfl) (aJ.r (aJ.r (aJ.l (aJ.tl (aJ.tl aJ.hd rfl) rfl)) (by with_reducible rfl)) (by with_reducible rfl)) (by rfl)) ?_
 refine WL.mv rfl rfl ?_
 refine WL.split (t := 8) rfl (fun DY => ?_) (fun DY => ?_)
 ·
  refine WL.known (t := 7) (c := true) rfl DY ?_
  try simp only [bW] at DY
  refine WL.mv rfl rfl (WL.pv (PV.nilCheck rfl rfl) rfl (WL.pv (PV.fieldAddr rfl kJ rfl) rfl (WL.pv (PV.fieldAddr rfl Q5 rfl) rfl ?_)))
  refine WL.aZ rfl eL rfl rfl (by exact aK.aF (H.p 0 rfl) (aJ.r (aJ.r (aJ.l (aJ.tl aJ.hd rfl)) (by with_reducible rfl)) (by with_reducible rfl)) (by rfl)) ?_
  refine WL.pv (PV.dO (by exact (H.p 1 rfl : (bI sv vv) _)) eV rfl) rfl ?_
  refine WL.pv (PV.gtr rfl rfl rfl) rfl (WL.pv (PV.dH rfl rfl rfl) rfl ?_)
  refine WL.call zZ rfl (sY (c := _) (e := 3) H.aS) ?_
  rintro _ w1 ⟨rfl, hO⟩
  replace H := H.out hO
  refine WL.as rfl rfl (WL.nil (WE.ret ⟨[_], _, .nil _, ⟨rfl, trivial⟩, ?_⟩))
  refine ⟨?_, H.aM⟩
  show Value.int .i64 _ = Value.int .i64 0
  congr 1
  try ((simp; omega))
 ·
  refine WL.known (t := 7) (c := false) rfl DY ?_
  try simp only [bW] at DY
  refine WL.off rfl (WL.off rfl (WL.off rfl (WL.off rfl (WL.off rfl (WL.off rfl (WL.off rfl (WL.pv (PV.c5 rfl rfl rfl) rfl ?_)))))))
  refine WL.call zZ rfl (sY (c := _) (e := 3) H.aS) ?_
  rintro _ w2 ⟨rfl, hO⟩
  replace H := H.out hO
  refine WL.as rfl rfl (WL.nil (WE.ret ⟨[_], _, .nil _, ⟨rfl, trivial⟩, ?_⟩))
  refine ⟨?_, H.aM⟩
  show Value.int .i64 _ = Value.int .i64 0
  congr 1
  try (first | rfl | (simp; done) | (simp; omega))
theorem aCI {X : Nat → Prop} {w : World} {bk bh : Nat} {sr sk sv se : Value} {pr : Bool} {kd dp : Nat} {lk lv B : List UInt8} {sb : List (List UInt8)} (hX : cW X w) (eR : aK w bk 168 (G0 bh sr sk sv pr se TH)) (bU : aH (fun c_ => X c_ ∨ c_ = bk) (bI se (fA kd dp lk lv B sb)) w) (hp : iG kd dp lk lv B sb) :
  bD Tryz.prog 125 [.pointer (some ⟨bk, 0, none⟩)].toArray w fun v w' => ∃ sl, v = .int .i64 0 ∧ sl.oneCell' = true ∧ Out (· = bk) w w' ∧ aK w' bk 168 (G0 bh sr sk sv pr se (fH kd dp lk lv B sl)) ∧ aH (fun c => X c ∨ c = bk) (eN sl sb) w' := by
 refine bD.aI (N := 15) Tryz.func125 rfl rfl (by simp) ?_
 have H := St.c6 (b := bk) (t := 168) (l := G0 bh sr sk sv pr se TH) hX eR
 replace H := H.add (bY bU)
 have lW := hp.tJ
 have hlv := hp.lvl
 have o5 := hp.bl
 refine WE.aA (WL.as rfl rfl (WL.nil (WE.aA (WL.mv rfl rfl (WL.mv rfl rfl (WL.pv (PV.nilCheck rfl rfl) rfl (WL.pv (PV.fieldAddr rfl V8 rfl) rfl ?_)))))))
 refine WL.aZ rfl eL rfl rfl (by exact aK.aF (H.o 0 rfl) (aJ.r (aJ.r (aJ.r (aJ.l (aJ.all _)) (by with_reducible rfl)) (by with_reducible rfl)) (by with_reducible rfl)) (by rfl)) ?_
 refine WL.call aFs rfl (TD (s := se) (kd := kd) (dp := dp) (lk := lk) (lv := lv) (B := B) (sb := sb) H.aS (by exact (H.bN 0 rfl : aH _ (bI se (fA kd dp lk lv B sb)) _)) hp) ?_
 rintro _ w1 ⟨sl, rfl, hO, hR⟩
 have hsl := cS.fG (hR.here)
 replace H := (H.out hO).add hR
 have vC : (fH kd dp lk lv B sl).length = 99 := gA lW hlv o5
 have hzl := H9
 refine WL.mv rfl rfl (WL.pv (PV.extract rfl rfl rfl) rfl (WL.pv (PV.extract rfl rfl rfl) rfl (WL.pv (PV.nilCheck rfl rfl) rfl (WL.pv (PV.fieldAddr rfl vI rfl) rfl ?_))))
 refine WL.kV H 0 rfl rfl rfl (new := fH kd dp lk lv B sl) rfl (cI jU (by simp only [aR, aU, aB, aD]; omega)) (pU hsl) (Laid.at (Laid.right (Laid.right (Laid.right (Laid.right (Laid.all (by simp only [aR, aU, aB, aD]; omega)) (by with_reducible rfl)) (by with_reducible rfl)) (by with_reducible rfl)) (by with_reducible rfl)) (by rfl)) rfl ?_
 intro w2 H
 refine WL.as rfl rfl (WL.nil (WE.aA (WL.mv rfl rfl (WL.as rfl rfl (WL.nil (WE.ret ⟨[_], _, .nil _, ⟨rfl, trivial⟩, ?_⟩))))))
 exact ⟨sl, rfl, hsl, H.cM, H.o 0 rfl, H.fM (by exact (H.bN 0 rfl : aH _ (eN sl sb) _))⟩
theorem aAh {X : Nat → Prop} {w : World} {kd dp : Nat} {lk lv B k vd : List UInt8} {sl : Value} {pr : Bool} (hX : cW X w) (vE : kd = 0 ∨ kd = 1) (lW : lk.length = 32) (hlv : lv.length = 32) (o5 : B.length = 32) (hs1 : sl.oneCell' = true) (hk : k.length = 32) (hvd : vd.length = 32) (tL : uT kd dp lk lv k vd pr) :
  bD Tryz.prog 169 [.agg (fH kd dp lk lv B sl).toArray, .agg (kc k).toArray, .agg (kc vd).toArray, .bool pr].toArray w fun v w' => v = .bool true ∧ Out Nil w w' := by
 refine bD.aI (N := 44) Tryz.func169 rfl rfl (by simp) ?_
 have H := St.begin hX
 have vC : (fH kd dp lk lv B sl).length = 99 := gA lW hlv o5
 refine WE.aA ?_
 refine WL.box (l := fH kd dp lk lv B sl) H rfl (by rfl) rfl ?_
 intro b4 w1 H
 refine WL.box (l := kc k) H rfl (by rfl) rfl ?_
 intro b5 w2 H
 refine WL.box (l := kc vd) H rfl (by rfl) rfl ?_
 intro b6 w3 H
 refine WL.as rfl rfl (WL.nil (WE.seq (WE.block (WE.aA (WL.mv rfl rfl (WL.as rfl rfl (WL.nil ?_)))))))
 refine WE.cond rfl (fun xA => ?_) (fun xA => ?_)
 ·
  try simp only [bW] at xA
  obtain ⟨vF, aHs, aHq⟩ := tL.1 xA
  subst aHs
  subst aHq
  refine WE.aA (WL.pv (PV.fieldAddr rfl mI rfl) rfl ?_)
  refine WL.aZ rfl oZ rfl rfl (by exact aK.aF (H.l 2 rfl) (aJ.l (aJ.all _)) (by rfl)) ?_
  refine WL.pv (PV.eql rfl rfl rfl) rfl (WL.mv rfl rfl ?_)
  refine WL.known (t := 14) (c := true) rfl (by (simp [vF]; done)) ?_
  refine WL.pv (PV.fieldAddr rfl oG rfl) rfl ?_
  refine WL.bG rfl HH rfl rfl (by exact aK.aF (H.l 2 rfl) (aJ.r (aJ.r (aJ.l (aJ.all _)) (by with_reducible rfl)) (by with_reducible rfl)) (by rfl)) (cI AX (by simp only [aR, aU, aB, aD]; omega)) ?_
  refine WL.bG rfl cU rfl rfl (by exact aK.aF (H.l 1 rfl) (aJ.all _) (by rfl)) (cI cN (by simp only [aR, aU, aB, aD]; omega)) ?_
  refine WL.bG rfl iD rfl rfl (by exact aK.aF (H.l 0 rfl) (aJ.all _) (by rfl)) (cI dK (by simp only [aR, aU, aB, aD]; omega)) ?_
  refine WL.pv (PV.dD rfl aAL NF (Fl.cons rfl (by rfl) (by simp only [aR, aU, aB, aD]; omega) (Laid.left (Laid.all (by simp only [aR, aU, aB, aD]; omega))) (Fl.cons rfl (by rfl) (by simp only [aR, aU, aB, aD]; omega) (Laid.right (Laid.all (by simp only [aR, aU, aB, aD]; omega)) (by simp only [aR, aU, aB, aD]; omega)) Fl.nil))) rfl ?_
  refine WL.pv (PV.aFI rfl aFJ rfl rfl (CD.struct (n := 3) aFK (TB.cons (dR.agg cU (cI cN (by simp only [aR, aU, aB, aD]; omega)) (aJ.l (aJ.all _))) (dR.agg cU (cI cN (by simp only [aR, aU, aB, aD]; omega)) (aJ.l (aJ.all _))) (CD.mono (CD.bytes gQ pI iB (by assumption) (by assumption)) (by decide)) (TB.cons (dR.agg iD (cI dK (by simp only [aR, aU, aB, aD]; omega)) (aJ.r (aJ.all _) (by simp only [aR, aU, aB, aD]; omega))) (dR.agg iD (cI dK (by simp only [aR, aU, aB, aD]; omega)) (aJ.r (aJ.all _) (by simp only [aR, aU, aB, aD]; omega))) (CD.mono (CD.bytes oY pI iB (by assumption) (by assumption)) (by decide)) TB.nil))) (by decide)) rfl ?_
  refine WL.pv (PV.dH rfl rfl rfl) rfl (WL.as rfl rfl (WL.nil (WE.ret ⟨[_], _, .nil _, ⟨rfl, trivial⟩, ?_⟩)))
  refine ⟨?_, H.aM⟩
  show Value.bool _ = Value.bool true
  congr 1
  try ((simp; done))
 ·
  try simp only [bW] at xA
  have hsf := tL.2 xA
  refine WE.aA (WL.pv (PV.fieldAddr rfl mI rfl) rfl ?_)
  refine WL.aZ rfl oZ rfl rfl (by exact aK.aF (H.l 2 rfl) (aJ.l (aJ.all _)) (by rfl)) ?_
  refine WL.pv (PV.eql rfl rfl rfl) rfl (WL.as rfl rfl (WL.nil ?_))
  refine WE.cond rfl (fun D2 => ?_) (fun D2 => ?_)
  ·
   try simp only [bW] at D2
   have vF : kd = 1 := by omega
   obtain ⟨TR, hc1⟩ := hsf vF
   refine WE.bF (.take 0 (.take 1 (.take 2 (.take 3 (.take 4 (.take 5 (.take 6 (.take 7 (.take 8 (.take 9 (.take 11 (.take 12 (.aG 10 (.take 13 (.take 14 (.take 15 .done)))))))))))))))) mixed (by kernel_rfl) ?_
   replace H := H.out (Out.drew _)
   refine WP.aC rfl rfl (PV.fieldAddr rfl oG rfl) (WP.aC rfl rfl (PV.fieldAddr rfl kD rfl) ?_)
   refine WP.dF rfl rfl rfl cU rfl (by exact aK.aF (H.l 2 rfl) (aJ.r (aJ.r (aJ.l (aJ.l (aJ.all _))) (by with_reducible rfl)) (by with_reducible rfl)) (by rfl)) (cI cN (by simp only [aR, aU, aB, aD]; omega)) ?_
   refine WP.dF rfl rfl rfl cU rfl (by exact aK.aF (H.l 1 rfl) (aJ.all _) (by rfl)) (cI cN (by simp only [aR, aU, aB, aD]; omega)) ?_
   refine WP.aC rfl rfl (PV.PD rfl gQ pI iB (by kernel_rfl) rfl rfl (by assumption) (by assumption)) (WP.mv rfl rfl rfl ?_)
   refine WP.known (t := 31) (c := true) rfl (by (simp [TR]; done)) ?_
   refine WP.aC rfl rfl (PV.fieldAddr rfl oG rfl) (WP.aC rfl rfl (PV.fieldAddr rfl kD rfl) ?_)
   refine WP.dF rfl rfl rfl cU rfl (by exact aK.aF (H.l 2 rfl) (aJ.r (aJ.r (aJ.l (aJ.l (aJ.all _))) (by with_reducible rfl)) (by with_reducible rfl)) (by rfl)) (cI cN (by simp only [aR, aU, aB, aD]; omega)) ?_
   refine WP.dF rfl rfl rfl cU rfl (by exact aK.aF (H.l 1 rfl) (aJ.all _) (by rfl)) (cI cN (by simp only [aR, aU, aB, aD]; omega)) ?_
   refine WP.aC rfl rfl (PV.fieldAddr rfl rC rfl) ?_
   refine WP.aQ rfl rfl (RV.aY rfl oZ rfl) (by exact aK.aF (H.l 2 rfl) (aJ.r (aJ.l (aJ.all _)) (by with_reducible rfl)) (by rfl)) ?_
   refine WP.aG rfl ?_
   refine WL.call Q9 rfl (yA (a := lk) (b := k) H.aS lW hk) ?_
   rintro _ w4 ⟨rfl, hO⟩
   replace H := H.out hO
   refine WL.nil ⟨(fa (fun _ _ => (by exact aK.aF (H.l 2 rfl) (aJ.r (aJ.l (aJ.all _)) (by with_reducible rfl)) (by rfl))) (fa (nw 10 9 (by decide +kernel)) (fa (nw 10 8 (by decide +kernel)) (fa (nw 10 3 (by decide +kernel)) (fa (nw 10 2 (by decide +kernel)) cV))))), ?_⟩
   refine WP.aC rfl rfl (PV.geq rfl rfl rfl) (WP.aC rfl rfl (PV.dH rfl rfl rfl) (WP.as rfl rfl rfl (WP.done (WE.ret ⟨[_], _, .nil _, ⟨rfl, trivial⟩, ?_⟩))))
   refine ⟨?_, H.aM⟩
   (show Value.bool _ = Value.bool true; congr 1; exact decide_eq_true (by omega))
  ·
   try simp only [bW] at D2
   have NA : kd = 0 := by omega
   refine WE.skip (WE.aA (WL.pv (PV.fieldAddr rfl mI rfl) rfl ?_))
   refine WL.aZ rfl oZ rfl rfl (by exact aK.aF (H.l 2 rfl) (aJ.l (aJ.all _)) (by rfl)) ?_
   refine WL.pv (PV.eql rfl rfl rfl) rfl (WL.as rfl rfl (WL.nil (WE.ret ⟨[_], _, .nil _, ⟨rfl, trivial⟩, ?_⟩)))
   refine ⟨?_, H.aM⟩
   show Value.bool _ = Value.bool true
   congr 1
   try ((simp [NA]; done))
theorem FV {X : Nat → Prop} {w : World} {bk bh bc : Nat} {bits n0 : Int} {sr sk sv se : Value} {pr : Bool} {k vv rb : List UInt8} {kd dp : Nat} {lk lv B : List UInt8} {sl : Value} {sb : List (List UInt8)} (hX : cW X w) (eR : aK w bc 213 ([.int .i64 n0])) (bU : aH (fun c_ => X c_ ∨ c_ = bc) (fJ bh bc bits) w) (dA : aH (fun c_ => X c_ ∨ c_ = bc) (fun w => aK w bk 168 (G0 bh sr sk sv pr se (fH kd dp lk lv B sl))) w) (fO : aH (fun c_ => X c_ ∨ c_ = bc) (bI sk k) w) (jM : aH (fun c_ => X c_ ∨ c_ = bc) (bI sv vv) w) (oC : aH (fun c_ => X c_ ∨ c_ = bc) (eN sl sb) w) (sU : aH (fun c_ => X c_ ∨ c_ = bc) (aW) w) (bS : 0 ≤ bits ∧ bits ≤ 256) (hp : iG kd dp lk lv B sb) (hk : k.length = 32) (hv : vv.length ≤ 65535) (tL : uT kd dp lk lv k (mQ bits vv) pr) :
  bD Tryz.prog 128 [.pointer (some ⟨bk, 0, none⟩)].toArray w fun v w' => ∃ m, v = .bool true ∧ Out (· = bc) w w' ∧ aK w' bc 213 [.int .i64 m] := by
 refine bD.aI (N := 38) Tryz.func128 rfl rfl (by simp) ?_
 have H := St.c6 (b := bc) (t := 213) (l := [.int .i64 n0]) hX eR
 replace H := H.add (bY sU)
 replace H := H.add (bY oC)
 replace H := H.add (bY jM)
 replace H := H.add (bY fO)
 replace H := H.add (bY dA)
 replace H := H.add (bY bU)
 have vE := hp.kd
 have lW := hp.tJ
 have hlv := hp.lvl
 have o5 := hp.bl
 have vC : (fH kd dp lk lv B sl).length = 99 := gA lW hlv o5
 have aDl := fY bits vv
 have hs1 : sl.oneCell' = true := cS.fG (oC.here)
 have BI : (List.replicate 32 (0 : UInt8)).length = 32 := List.length_replicate
 obtain ⟨ka, kcp, rfl⟩ := bI.some (fO.here) (by omega)
 have aDr : pr = false → uT kd dp lk lv k (List.replicate 32 0) pr := fun h => ⟨fun h2 => by (rw [h] at h2; cases h2), tL.2⟩
 refine WE.aA (WL.as rfl rfl (WL.nil (WE.aA ?_)))
 refine WL.alloc H rfl nP rfl ?_
 intro b3 w1 H
 refine WL.nil (WE.seq (WE.aA (WL.mv rfl rfl (WL.pv (PV.nilCheck rfl rfl) rfl (WL.pv (PV.fieldAddr rfl kJ rfl) rfl (WL.pv (PV.fieldAddr rfl B0 rfl) rfl ?_))))))
 refine WL.aZ rfl uD rfl rfl (by exact aK.aF (H.p 1 rfl) (aJ.r (aJ.r (aJ.l (aJ.tl (aJ.tl aJ.hd rfl) rfl)) (by with_reducible rfl)) (by with_reducible rfl)) (by rfl)) ?_
 refine WL.nil ?_
 refine WE.cond rfl (fun mO => ?_) (fun mO => ?_)
 ·
  try simp only [bW] at mO
  refine WE.draw (.take 0 (.take 1 (.take 2 (.take 3 (.take 4 (.take 5 (.take 6 (.take 7 (.take 8 (.aG 9 (.aG 10 (.aG 11 .done)))))))))))) mixed (by kernel_rfl) ?_
  replace H := H.out (Out.drew _)
  refine WP.mv rfl rfl rfl (WP.aC rfl rfl (PV.nilCheck rfl rfl) (WP.aC rfl rfl (PV.fieldAddr rfl JQ rfl) ?_))
  refine WP.aQ rfl rfl (RV.aY rfl u4 rfl) (by exact aK.aF (H.p 1 rfl) (aJ.l (aJ.all _)) (by rfl)) ?_
  refine WP.mv rfl rfl rfl (WP.aC rfl rfl (PV.nilCheck rfl rfl) (WP.aC rfl rfl (PV.fieldAddr rfl kJ rfl) (WP.aC rfl rfl (PV.fieldAddr rfl Q5 rfl) ?_)))
  refine WP.aQ rfl rfl (RV.aY rfl eL rfl) (by exact aK.aF (H.p 1 rfl) (aJ.r (aJ.r (aJ.l (aJ.tl aJ.hd rfl)) (by with_reducible rfl)) (by with_reducible rfl)) (by rfl)) ?_
  refine WP.aG rfl ?_
  refine WL.call ZV rfl (KB (la := vv) H.aS (by exact (H.bN 3 rfl : aH _ (bI sv vv) _)) (by omega)) ?_
  rintro v18 w2 ⟨hO, hR⟩
  replace H := (H.out hO).add hR
  refine WL.nil ⟨(fa (nw 9 8 (by decide +kernel)) (fa (fun _ _ => (by exact aK.aF (H.p 2 rfl) (aJ.l (aJ.all _)) (by rfl))) cV)), ?_⟩
  refine WP.aG rfl ?_
  refine WL.call GX rfl (rL (la := 2 :: vv) (bits := bits) H.aS (H.o 0 rfl) (by exact (H.aL 0 rfl 1 rfl : aH _ (fJ bh bc bits) _)) (by exact (H.aL 0 rfl 0 rfl : aH _ (bI v18 (2 :: vv)) _)) (by exact (H.aL 0 rfl 6 rfl : aH _ (aW) _)) bS (by simp; omega)) ?_
  rintro _ w3 ⟨rfl, hO, hB⟩
  replace H := H.eS 0 rfl hO hB
  refine WL.nil ⟨(fa (nw 10 8 (by decide +kernel)) (fa (nw 10 3 (by decide +kernel)) cV)), ?_⟩
  refine WP.aG rfl ?_
  refine WL.aT H 0 rfl rfl rfl (new := kc (mQ bits vv)) rfl (by exact dK) (by exact bK _) (Laid.at (Laid.all (by simp only [aR, aU, aB, aD])) (by rfl)) rfl ?_
  intro w4 H
  refine WL.nil ⟨(fa (nw 11 8 (by decide +kernel)) (fa (nw 11 3 (by decide +kernel)) cV)), ?_⟩
  refine WP.done ?_
  refine WE.bF (.take 0 (.take 1 (.take 2 (.take 3 (.take 4 (.take 5 (.take 6 (.take 7 (.take 8 (.take 11 (.take 12 (.take 13 (.take 14 (.take 15 (.take 16 (.aG 9 (.take 10 (.aG 17 (.take 18 .done))))))))))))))))))) mixed (by kernel_rfl) ?_
  replace H := H.out (Out.drew _)
  refine WP.mv rfl rfl rfl (WP.aC rfl rfl (PV.nilCheck rfl rfl) (WP.aC rfl rfl (PV.fieldAddr rfl vI rfl) ?_))
  refine WP.dF rfl rfl rfl lZ rfl (by exact aK.aF (H.p 2 rfl) (aJ.r (aJ.r (aJ.r (aJ.r (aJ.all _) (by with_reducible rfl)) (by with_reducible rfl)) (by with_reducible rfl)) (by with_reducible rfl)) (by rfl)) (cI jU (by simp only [aR, aU, aB, aD]; omega)) ?_
  refine WP.mv rfl rfl rfl (WP.aC rfl rfl (PV.nilCheck rfl rfl) (WP.aC rfl rfl (PV.fieldAddr rfl kJ rfl) (WP.aC rfl rfl (PV.fieldAddr rfl B1 rfl) ?_)))
  refine WP.aQ rfl rfl (RV.aY rfl eL rfl) (by exact aK.aF (H.p 2 rfl) (aJ.r (aJ.r (aJ.l aJ.hd) (by with_reducible rfl)) (by with_reducible rfl)) (by rfl)) ?_
  refine WP.dF rfl rfl rfl iD rfl (by exact aK.aF (H.l 0 rfl) (aJ.all _) (by rfl)) (by exact dK) ?_
  refine WP.mv rfl rfl rfl (WP.aC rfl rfl (PV.nilCheck rfl rfl) (WP.aC rfl rfl (PV.fieldAddr rfl kJ rfl) (WP.aC rfl rfl (PV.fieldAddr rfl B0 rfl) ?_)))
  refine WP.aQ rfl rfl (RV.aY rfl uD rfl) (by exact aK.aF (H.p 2 rfl) (aJ.r (aJ.r (aJ.l (aJ.tl (aJ.tl aJ.hd rfl) rfl)) (by with_reducible rfl)) (by with_reducible rfl)) (by rfl)) ?_
  refine WP.aG rfl ?_
  refine WL.pv (PV.uR (n := 32) rfl gQ (by rw [hk]; rfl)) rfl ?_
  refine WL.nil ⟨(fa (fun _ _ => (by exact aK.aF (H.p 2 rfl) (aJ.r (aJ.r (aJ.l (aJ.tl (aJ.tl aJ.hd rfl) rfl)) (by with_reducible rfl)) (by with_reducible rfl)) (by rfl))) (fa (fun _ _ => (by exact aK.aF (H.l 0 rfl) (aJ.all _) (by rfl))) (fa (nw 9 8 (by decide +kernel)) (fa (fun _ _ => (by exact aK.aF (H.p 2 rfl) (aJ.r (aJ.r (aJ.r (aJ.r (aJ.all _) (by with_reducible rfl)) (by with_reducible rfl)) (by with_reducible rfl)) (by with_reducible rfl)) (by rfl))) cV)))), ?_⟩
  refine WP.dF rfl rfl rfl cU rfl ((bI.whole (by exact (H.p 3 rfl : (bI _ k) _)))) (cI cN (by simp only [aR, aU, aB, aD]; omega)) ?_
  refine WP.aG rfl ?_
  refine WL.call ZU rfl (aAh (kd := kd) (dp := dp) (lk := lk) (lv := lv) (B := B) (k := k) (sl := sl) (pr := pr) H.aS vE lW hlv o5 hs1 hk (by with_reducible exact aDl) (by with_reducible exact tL)) ?_
  rintro _ w5 ⟨rfl, hO⟩
  replace H := H.out hO
  refine WL.nil ⟨(fa (nw 17 10 (by decide +kernel)) (fa (nw 17 16 (by decide +kernel)) (fa (nw 17 11 (by decide +kernel)) (fa (nw 17 8 (by decide +kernel)) (fa (nw 17 3 (by decide +kernel)) cV))))), ?_⟩
  refine WP.as rfl rfl rfl (WP.done (WE.ret ⟨[_], _, .nil _, ⟨rfl, trivial⟩, ?_⟩))
  exact ⟨_, rfl, H.cM, H.o 0 rfl⟩
 ·
  try simp only [bW] at mO
  refine WE.skip ?_
  refine WE.bF (.take 0 (.take 1 (.take 2 (.take 3 (.take 4 (.take 5 (.take 6 (.take 7 (.take 8 (.take 11 (.take 12 (.take 13 (.take 14 (.take 15 (.take 16 (.aG 9 (.take 10 (.aG 17 (.take 18 .done))))))))))))))))))) mixed (by kernel_rfl) ?_
  replace H := H.out (Out.drew _)
  refine WP.mv rfl rfl rfl (WP.aC rfl rfl (PV.nilCheck rfl rfl) (WP.aC rfl rfl (PV.fieldAddr rfl vI rfl) ?_))
  refine WP.dF rfl rfl rfl lZ rfl (by exact aK.aF (H.p 1 rfl) (aJ.r (aJ.r (aJ.r (aJ.r (aJ.all _) (by with_reducible rfl)) (by with_reducible rfl)) (by with_reducible rfl)) (by with_reducible rfl)) (by rfl)) (cI jU (by simp only [aR, aU, aB, aD]; omega)) ?_
  refine WP.mv rfl rfl rfl (WP.aC rfl rfl (PV.nilCheck rfl rfl) (WP.aC rfl rfl (PV.fieldAddr rfl kJ rfl) (WP.aC rfl rfl (PV.fieldAddr rfl B1 rfl) ?_)))
  refine WP.aQ rfl rfl (RV.aY rfl eL rfl) (by exact aK.aF (H.p 1 rfl) (aJ.r (aJ.r (aJ.l aJ.hd) (by with_reducible rfl)) (by with_reducible rfl)) (by rfl)) ?_
  refine WP.dF rfl rfl rfl iD rfl (by exact aK.aF (H.l 0 rfl) (aJ.all _) (by rfl)) (by exact dK) ?_
  refine WP.mv rfl rfl rfl (WP.aC rfl rfl (PV.nilCheck rfl rfl) (WP.aC rfl rfl (PV.fieldAddr rfl kJ rfl) (WP.aC rfl rfl (PV.fieldAddr rfl B0 rfl) ?_)))
  refine WP.aQ rfl rfl (RV.aY rfl uD rfl) (by exact aK.aF (H.p 1 rfl) (aJ.r (aJ.r (aJ.l (aJ.tl (aJ.tl aJ.hd rfl) rfl)) (by with_reducible rfl)) (by with_reducible rfl)) (by rfl)) ?_
  refine WP.aG rfl ?_
  refine WL.pv (PV.uR (n := 32) rfl gQ (by rw [hk]; rfl)) rfl ?_
  refine WL.nil ⟨(fa (fun _ _ => (by exact aK.aF (H.p 1 rfl) (aJ.r (aJ.r (aJ.l (aJ.tl (aJ.tl aJ.hd rfl) rfl)) (by with_reducible rfl)) (by with_reducible rfl)) (by rfl))) (fa (fun _ _ => (by exact aK.aF (H.l 0 rfl) (aJ.all _) (by rfl))) (fa (nw 9 8 (by decide +kernel)) (fa (fun _ _ => (by exact aK.aF (H.p 1 rfl) (aJ.r (aJ.r (aJ.r (aJ.r (aJ.all _) (by with_reducible rfl)) (by with_reducible rfl)) (by with_reducible rfl)) (by with_reducible rfl)) (by rfl))) cV)))), ?_⟩
  refine WP.dF rfl rfl rfl cU rfl ((bI.whole (by exact (H.p 2 rfl : (bI _ k) _)))) (cI cN (by simp only [aR, aU, aB, aD]; omega)) ?_
  refine WP.aG rfl ?_
  refine WL.call ZU rfl (aAh (kd := kd) (dp := dp) (lk := lk) (lv := lv) (B := B) (k := k) (sl := sl) (pr := pr) H.aS vE lW hlv o5 hs1 hk (by with_reducible exact BI) (by with_reducible exact aDr mO)) ?_
  rintro _ w6 ⟨rfl, hO⟩
  replace H := H.out hO
  refine WL.nil ⟨(fa (nw 17 10 (by decide +kernel)) (fa (nw 17 16 (by decide +kernel)) (fa (nw 17 11 (by decide +kernel)) (fa (nw 17 8 (by decide +kernel)) (fa (nw 17 3 (by decide +kernel)) cV))))), ?_⟩
  refine WP.as rfl rfl rfl (WP.done (WE.ret ⟨[_], _, .nil _, ⟨rfl, trivial⟩, ?_⟩))
  exact ⟨_, rfl, H.cM, H.o 0 rfl⟩
theorem VA {X : Nat → Prop} {w : World} {bk bh bc : Nat} {bits n0 : Int} {sr sk sv se : Value} {pr : Bool} {k vv rb : List UInt8} {kd dp : Nat} {lk lv B : List UInt8} {sl : Value} {sb : List (List UInt8)} (hX : cW X w) (eR : aK w bc 213 ([.int .i64 n0])) (bU : aH (fun c_ => X c_ ∨ c_ = bc) (fJ bh bc bits) w) (dA : aH (fun c_ => X c_ ∨ c_ = bc) (fun w => aK w bk 168 (G0 bh sr sk sv pr se (fH kd dp lk lv B sl))) w) (fO : aH (fun c_ => X c_ ∨ c_ = bc) (bI sk k) w) (jM : aH (fun c_ => X c_ ∨ c_ = bc) (bI sr rb) w) (oC : aH (fun c_ => X c_ ∨ c_ = bc) (eN sl sb) w) (sU : aH (fun c_ => X c_ ∨ c_ = bc) (aW) w) (bS : 0 ≤ bits ∧ bits ≤ 256) (hp : iG kd dp lk lv B sb) (hk : k.length = 32) (hr : rb.length = 32) :
  bD Tryz.prog 130 [.pointer (some ⟨bk, 0, none⟩)].toArray w fun v w' => ∃ m, v = .bool (decide ((eW bits k (fN bits dp B sb) (dS (cR (dY kd lk lv)) bits) dp) = rb)) ∧ Out (· = bc) w w' ∧ aK w' bc 213 [.int .i64 m] := by
 refine bD.aI (N := 36) Tryz.func130 rfl rfl (by simp) ?_
 have H := St.c6 (b := bc) (t := 213) (l := [.int .i64 n0]) hX eR
 replace H := H.add (bY sU)
 replace H := H.add (bY oC)
 replace H := H.add (bY jM)
 replace H := H.add (bY fO)
 replace H := H.add (bY dA)
 replace H := H.add (bY bU)
 have vE := hp.kd
 have lW := hp.tJ
 have hlv := hp.lvl
 have o5 := hp.bl
 have vC : (fH kd dp lk lv B sl).length = 99 := gA lW hlv o5
 have aDl := fY bits vv
 have hrl : (eW bits k (fN bits dp B sb) (dS (cR (dY kd lk lv)) bits) dp).length = 32 := nL (cY _ _) _
 obtain ⟨ka, kcp, rfl⟩ := bI.some (fO.here) (by omega)
 obtain ⟨ra, rcp, rfl⟩ := bI.some (jM.here) (by omega)
 refine WE.aA (WL.as rfl rfl (WL.nil ?_))
 refine WE.bF (.take 0 (.take 1 (.take 2 (.take 3 (.take 4 (.take 5 (.take 6 (.take 7 (.take 8 (.take 9 (.take 10 (.take 11 (.take 12 (.gN 13 (.take 14 (.gN 15 (.take 16 (.take 17 (.take 18 (.aG 19 (.aG 20 (.take 21 .done)))))) 19 (.aG 15 (.take 16 (.take 17 (.take 18 (.aG 20 (.take 21 .done)))))))) 19 (.aG 13 (.take 14 (.aG 15 (.take 16 (.take 17 (.take 18 (.aG 20 (.take 21 .done)))))))))))))))))))))) mixed (by kernel_rfl) ?_
 replace H := H.out (Out.drew _)
 refine WP.mv rfl rfl rfl (WP.aC rfl rfl (PV.nilCheck rfl rfl) (WP.aC rfl rfl (PV.fieldAddr rfl JQ rfl) ?_))
 refine WP.aQ rfl rfl (RV.aY rfl u4 rfl) (by exact aK.aF (H.p 1 rfl) (aJ.l (aJ.all _)) (by rfl)) ?_
 refine WP.mv rfl rfl rfl (WP.aC rfl rfl (PV.nilCheck rfl rfl) (WP.aC rfl rfl (PV.fieldAddr rfl vI rfl) ?_))
 refine WP.dF rfl rfl rfl lZ rfl (by exact aK.aF (H.p 1 rfl) (aJ.r (aJ.r (aJ.r (aJ.r (aJ.all _) (by with_reducible rfl)) (by with_reducible rfl)) (by with_reducible rfl)) (by with_reducible rfl)) (by rfl)) (cI jU (by simp only [aR, aU, aB, aD]; omega)) ?_
 refine WP.mv rfl rfl rfl (WP.aC rfl rfl (PV.nilCheck rfl rfl) (WP.aC rfl rfl (PV.fieldAddr rfl kJ rfl) (WP.aC rfl rfl (PV.fieldAddr rfl B1 rfl) ?_)))
 refine WP.aQ rfl rfl (RV.aY rfl eL rfl) (by exact aK.aF (H.p 1 rfl) (aJ.r (aJ.r (aJ.l aJ.hd) (by with_reducible rfl)) (by with_reducible rfl)) (by rfl)) ?_
 refine WP.gN rfl rfl ?_ ?_ 
 ·
  refine WL.pv (PV.uR (n := 32) rfl gQ (by rw [hk]; rfl)) rfl ?_
  refine WL.nil ⟨(fa (nw 13 12 (by decide +kernel)) (fa (fun _ _ => (by exact aK.aF (H.p 1 rfl) (aJ.r (aJ.r (aJ.r (aJ.r (aJ.all _) (by with_reducible rfl)) (by with_reducible rfl)) (by with_reducible rfl)) (by with_reducible rfl)) (by rfl))) (fa (fun _ _ => (by exact aK.aF (H.p 1 rfl) (aJ.l (aJ.all _)) (by rfl))) cV))), ?_⟩
  refine WP.dF rfl rfl rfl cU rfl ((bI.whole (by exact (H.p 2 rfl : (bI _ k) _)))) (cI cN (by simp only [aR, aU, aB, aD]; omega)) ?_
  refine WP.gN rfl rfl ?_ ?_ 
  ·
   refine WL.call Q8 rfl (CB (kd := kd) (dp := dp) (lk := lk) (lv := lv) (B := B) (sl := sl) (sb := sb) (bits := bits) (k := k) H.aS (H.o 0 rfl) (by exact (H.aL 0 rfl 0 rfl : aH _ (fJ bh bc bits) _)) (by exact (H.aL 0 rfl 4 rfl : aH _ (eN sl sb) _)) (by exact (H.aL 0 rfl 5 rfl : aH _ (aW) _)) bS hp hk) ?_
   rintro _ w1 ⟨m21, rfl, hO, hB⟩
   replace H := H.eS 0 rfl hO hB
   refine WL.nil ⟨(fa (nw 15 14 (by decide +kernel)) (fa (nw 15 12 (by decide +kernel)) (fa (nw 15 7 (by decide +kernel)) (fa (nw 15 3 (by decide +kernel)) cV)))), ?_⟩
   refine WP.mv rfl rfl rfl (WP.aC rfl rfl (PV.extract rfl rfl rfl) (WP.aC rfl rfl (PV.extract rfl rfl rfl) (WP.aG rfl ?_)))
   refine WL.alloc H rfl nP rfl ?_
   intro b3 w2 H
   refine WL.nil ⟨(fa (fun _ _ => ((bI.whole (by exact (H.p 2 rfl : (bI _ k) _))))) (fa (fun _ _ => (by exact aK.aF (H.p 1 rfl) (aJ.r (aJ.r (aJ.l aJ.hd) (by with_reducible rfl)) (by with_reducible rfl)) (by rfl))) (fa (fun _ _ => (by exact aK.aF (H.p 1 rfl) (aJ.r (aJ.r (aJ.r (aJ.r (aJ.all _) (by with_reducible rfl)) (by with_reducible rfl)) (by with_reducible rfl)) (by with_reducible rfl)) (by rfl))) (fa (fun _ _ => (by exact aK.aF (H.p 1 rfl) (aJ.l (aJ.all _)) (by rfl))) cV)))), ?_⟩
   refine WP.aG rfl ?_
   refine WL.aT H 0 rfl rfl rfl (new := kc (eW bits k (fN bits dp B sb) (dS (cR (dY kd lk lv)) bits) dp)) rfl (cI dK (by simp only [aR, aU, aB, aD]; omega)) (by exact bK _) (Laid.at (Laid.all (by simp only [aR, aU, aB, aD]; omega)) (by rfl)) rfl ?_
   intro w3 H
   refine WL.nil ⟨(fa (nw 20 14 (by decide +kernel)) (fa (nw 20 12 (by decide +kernel)) (fa (nw 20 7 (by decide +kernel)) (fa (nw 20 3 (by decide +kernel)) cV)))), ?_⟩
   refine WP.as rfl rfl rfl (WP.done ?_)
   refine WE.bF (.take 0 (.take 1 (.take 2 (.take 3 (.take 4 (.take 5 (.take 6 (.take 7 (.aG 8 (.take 9 (.take 10 (.take 11 (.take 12 .done))))))))))))) mixed (by kernel_rfl) ?_
   replace H := H.out (Out.drew _)
   refine WP.mv rfl rfl rfl (WP.aC rfl rfl (PV.eql rfl rfl rfl) (WP.mv rfl rfl rfl ?_))
   refine WP.known (t := 26) (c := true) rfl (by rfl) ?_
   refine WP.dF rfl rfl rfl iD rfl (by exact aK.aF (H.l 0 rfl) (aJ.all _) (by rfl)) (cI dK (by simp only [aR, aU, aB, aD]; omega)) ?_
   refine WP.mv rfl rfl rfl (WP.aC rfl rfl (PV.nilCheck rfl rfl) (WP.aC rfl rfl (PV.fieldAddr rfl vJ rfl) ?_))
   refine WP.aQ rfl rfl (RV.aY rfl eL rfl) (by exact aK.aF (H.p 1 rfl) (aJ.r (aJ.l (aJ.all _)) (by with_reducible rfl)) (by rfl)) ?_
   refine WP.aG rfl ?_
   refine WL.pv (PV.uR (n := 32) rfl oY (by rw [hr]; rfl)) rfl ?_
   refine WL.nil ⟨(fa (nw 8 7 (by decide +kernel)) (fa (fun _ _ => (by exact aK.aF (H.l 0 rfl) (aJ.all _) (by rfl))) cV)), ?_⟩
   refine WP.dF rfl rfl rfl iD rfl ((bI.whole (by exact (H.p 3 rfl : (bI _ rb) _)))) (cI dK (by simp only [aR, aU, aB, aD]; omega)) ?_
   refine WP.aC rfl rfl (PV.EI rfl oY pI iB (by kernel_rfl) rfl rfl (by assumption) (by assumption)) (WP.aC rfl rfl (PV.dH rfl rfl rfl) (WP.as rfl rfl rfl (WP.done (WE.ret ⟨[_], _, .nil _, ⟨rfl, trivial⟩, ?_⟩))))
   exact ⟨_, rfl, H.cM, H.o 0 rfl⟩
  ·
   refine WL.alloc H rfl nP rfl ?_
   intro b3 w4 H
   refine WL.nil ⟨(fa (fun _ _ => ((bI.whole (by exact (H.p 2 rfl : (bI _ k) _))))) (fa (fun _ _ => (by exact aK.aF (H.p 1 rfl) (aJ.r (aJ.r (aJ.l aJ.hd) (by with_reducible rfl)) (by with_reducible rfl)) (by rfl))) (fa (fun _ _ => (by exact aK.aF (H.p 1 rfl) (aJ.r (aJ.r (aJ.r (aJ.r (aJ.all _) (by with_reducible rfl)) (by with_reducible rfl)) (by with_reducible rfl)) (by with_reducible rfl)) (by rfl))) (fa (fun _ _ => (by exact aK.aF (H.p 1 rfl) (aJ.l (aJ.all _)) (by rfl))) cV)))), ?_⟩
   refine WP.aG rfl ?_
   refine WL.call Q8 rfl (CB (kd := kd) (dp := dp) (lk := lk) (lv := lv) (B := B) (sl := sl) (sb := sb) (bits := bits) (k := k) H.aS (H.o 0 rfl) (by exact (H.aL 0 rfl 0 rfl : aH _ (fJ bh bc bits) _)) (by exact (H.aL 0 rfl 4 rfl : aH _ (eN sl sb) _)) (by exact (H.aL 0 rfl 5 rfl : aH _ (aW) _)) bS hp hk) ?_
   rintro _ w5 ⟨m21, rfl, hO, hB⟩
   replace H := H.eS 0 rfl hO hB
   refine WL.nil ⟨(fa (nw 15 14 (by decide +kernel)) (fa (nw 15 12 (by decide +kernel)) (fa (nw 15 7 (by decide +kernel)) (fa (nw 15 3 (by decide +kernel)) cV)))), ?_⟩
   refine WP.mv rfl rfl rfl (WP.aC rfl rfl (PV.extract rfl rfl rfl) (WP.aC rfl rfl (PV.extract rfl rfl rfl) (WP.aG rfl ?_)))
   refine WL.aT H 0 rfl rfl rfl (new := kc (eW bits k (fN bits dp B sb) (dS (cR (dY kd lk lv)) bits) dp)) rfl (cI dK (by simp only [aR, aU, aB, aD]; omega)) (by exact bK _) (Laid.at (Laid.all (by simp only [aR, aU, aB, aD]; omega)) (by rfl)) rfl ?_
   intro w6 H
   refine WL.nil ⟨(fa (nw 20 14 (by decide +kernel)) (fa (nw 20 12 (by decide +kernel)) (fa (nw 20 7 (by decide +kernel)) (fa (nw 20 3 (by decide +kernel)) cV)))), ?_⟩
   refine WP.as rfl rfl rfl (WP.done ?_)
   refine WE.bF (.take 0 (.take 1 (.take 2 (.take 3 (.take 4 (.take 5 (.take 6 (.take 7 (.aG 8 (.take 9 (.take 10 (.take 11 (.take 12 .done))))))))))))) mixed (by kernel_rfl) ?_
   replace H := H.out (Out.drew _)
   refine WP.mv rfl rfl rfl (WP.aC rfl rfl (PV.eql rfl rfl rfl) (WP.mv rfl rfl rfl ?_))
   refine WP.known (t := 26) (c := true) rfl (by rfl) ?_
   refine WP.dF rfl rfl rfl iD rfl (by exact aK.aF (H.l 0 rfl) (aJ.all _) (by rfl)) (cI dK (by simp only [aR, aU, aB, aD]; omega)) ?_
   refine WP.mv rfl rfl rfl (WP.aC rfl rfl (PV.nilCheck rfl rfl) (WP.aC rfl rfl (PV.fieldAddr rfl vJ rfl) ?_))
   refine WP.aQ rfl rfl (RV.aY rfl eL rfl) (by exact aK.aF (H.p 1 rfl) (aJ.r (aJ.l (aJ.all _)) (by with_reducible rfl)) (by rfl)) ?_
   refine WP.aG rfl ?_
   refine WL.pv (PV.uR (n := 32) rfl oY (by rw [hr]; rfl)) rfl ?_
   refine WL.nil ⟨(fa (nw 8 7 (by decide +kernel)) (fa (fun _ _ => (by exact aK.aF (H.l 0 rfl) (aJ.all _) (by rfl))) cV)), ?_⟩
   refine WP.dF rfl rfl rfl iD rfl ((bI.whole (by exact (H.p 3 rfl : (bI _ rb) _)))) (cI dK (by simp only [aR, aU, aB, aD]; omega)) ?_
   refine WP.aC rfl rfl (PV.EI rfl oY pI iB (by kernel_rfl) rfl rfl (by assumption) (by assumption)) (WP.aC rfl rfl (PV.dH rfl rfl rfl) (WP.as rfl rfl rfl (WP.done (WE.ret ⟨[_], _, .nil _, ⟨rfl, trivial⟩, ?_⟩))))
   exact ⟨_, rfl, H.cM, H.o 0 rfl⟩
 ·
  refine WL.alloc H rfl nP rfl ?_
  intro b3 w7 H
  refine WL.nil ⟨(fa (fun _ _ => (by exact aK.aF (H.p 1 rfl) (aJ.r (aJ.r (aJ.l aJ.hd) (by with_reducible rfl)) (by with_reducible rfl)) (by rfl))) (fa (fun _ _ => (by exact aK.aF (H.p 1 rfl) (aJ.r (aJ.r (aJ.r (aJ.r (aJ.all _) (by with_reducible rfl)) (by with_reducible rfl)) (by with_reducible rfl)) (by with_reducible rfl)) (by rfl))) (fa (fun _ _ => (by exact aK.aF (H.p 1 rfl) (aJ.l (aJ.all _)) (by rfl))) cV))), ?_⟩
  refine WP.aG rfl ?_
  refine WL.pv (PV.uR (n := 32) rfl gQ (by rw [hk]; rfl)) rfl ?_
  refine WL.nil ⟨(fa (nw 13 12 (by decide +kernel)) (fa (fun _ _ => (by exact aK.aF (H.p 1 rfl) (aJ.r (aJ.r (aJ.r (aJ.r (aJ.all _) (by with_reducible rfl)) (by with_reducible rfl)) (by with_reducible rfl)) (by with_reducible rfl)) (by rfl))) (fa (fun _ _ => (by exact aK.aF (H.p 1 rfl) (aJ.l (aJ.all _)) (by rfl))) cV))), ?_⟩
  refine WP.dF rfl rfl rfl cU rfl ((bI.whole (by exact (H.p 2 rfl : (bI _ k) _)))) (cI cN (by simp only [aR, aU, aB, aD]; omega)) ?_
  refine WP.aG rfl ?_
  refine WL.call Q8 rfl (CB (kd := kd) (dp := dp) (lk := lk) (lv := lv) (B := B) (sl := sl) (sb := sb) (bits := bits) (k := k) H.aS (H.o 0 rfl) (by exact (H.aL 0 rfl 0 rfl : aH _ (fJ bh bc bits) _)) (by exact (H.aL 0 rfl 4 rfl : aH _ (eN sl sb) _)) (by exact (H.aL 0 rfl 5 rfl : aH _ (aW) _)) bS hp hk) ?_
  rintro _ w8 ⟨m21, rfl, hO, hB⟩
  replace H := H.eS 0 rfl hO hB
  refine WL.nil ⟨(fa (nw 15 14 (by decide +kernel)) (fa (nw 15 12 (by decide +kernel)) (fa (nw 15 7 (by decide +kernel)) (fa (nw 15 3 (by decide +kernel)) cV)))), ?_⟩
  refine WP.mv rfl rfl rfl (WP.aC rfl rfl (PV.extract rfl rfl rfl) (WP.aC rfl rfl (PV.extract rfl rfl rfl) (WP.aG rfl ?_)))
  refine WL.aT H 0 rfl rfl rfl (new := kc (eW bits k (fN bits dp B sb) (dS (cR (dY kd lk lv)) bits) dp)) rfl (cI dK (by simp only [aR, aU, aB, aD]; omega)) (by exact bK _) (Laid.at (Laid.all (by simp only [aR, aU, aB, aD]; omega)) (by rfl)) rfl ?_
  intro w9 H
  refine WL.nil ⟨(fa (nw 20 14 (by decide +kernel)) (fa (nw 20 12 (by decide +kernel)) (fa (nw 20 7 (by decide +kernel)) (fa (nw 20 3 (by decide +kernel)) cV)))), ?_⟩
  refine WP.as rfl rfl rfl (WP.done ?_)
  refine WE.bF (.take 0 (.take 1 (.take 2 (.take 3 (.take 4 (.take 5 (.take 6 (.take 7 (.aG 8 (.take 9 (.take 10 (.take 11 (.take 12 .done))))))))))))) mixed (by kernel_rfl) ?_
  replace H := H.out (Out.drew _)
  refine WP.mv rfl rfl rfl (WP.aC rfl rfl (PV.eql rfl rfl rfl) (WP.mv rfl rfl rfl ?_))
  refine WP.known (t := 26) (c := true) rfl (by rfl) ?_
  refine WP.dF rfl rfl rfl iD rfl (by exact aK.aF (H.l 0 rfl) (aJ.all _) (by rfl)) (cI dK (by simp only [aR, aU, aB, aD]; omega)) ?_
  refine WP.mv rfl rfl rfl (WP.aC rfl rfl (PV.nilCheck rfl rfl) (WP.aC rfl rfl (PV.fieldAddr rfl vJ rfl) ?_))
  refine WP.aQ rfl rfl (RV.aY rfl eL rfl) (by exact aK.aF (H.p 1 rfl) (aJ.r (aJ.l (aJ.all _)) (by with_reducible rfl)) (by rfl)) ?_
  refine WP.aG rfl ?_
  refine WL.pv (PV.uR (n := 32) rfl oY (by rw [hr]; rfl)) rfl ?_
  refine WL.nil ⟨(fa (nw 8 7 (by decide +kernel)) (fa (fun _ _ => (by exact aK.aF (H.l 0 rfl) (aJ.all _) (by rfl))) cV)), ?_⟩
  refine WP.dF rfl rfl rfl iD rfl ((bI.whole (by exact (H.p 3 rfl : (bI _ rb) _)))) (cI dK (by simp only [aR, aU, aB, aD]; omega)) ?_
  refine WP.aC rfl rfl (PV.EI rfl oY pI iB (by kernel_rfl) rfl rfl (by assumption) (by assumption)) (WP.aC rfl rfl (PV.dH rfl rfl rfl) (WP.as rfl rfl rfl (WP.done (WE.ret ⟨[_], _, .nil _, ⟨rfl, trivial⟩, ?_⟩))))
  exact ⟨_, rfl, H.cM, H.o 0 rfl⟩
theorem aCH {X : Nat → Prop} {w : World} {bk bh bc : Nat} {bits n0 : Int} {sr sk sv se : Value} {pr : Bool} {k vv rb : List UInt8} {kd dp : Nat} {lk lv B : List UInt8} {sl : Value} {sb : List (List UInt8)} (hX : cW X w) (eR : aK w bc 213 ([.int .i64 n0])) (bU : aH (fun c_ => X c_ ∨ c_ = bc) (fJ bh bc bits) w) (dA : aH (fun c_ => X c_ ∨ c_ = bc) (fun w => aK w bk 168 (G0 bh sr sk sv pr se (fH kd dp lk lv B sl))) w) (fO : aH (fun c_ => X c_ ∨ c_ = bc) (bI sk k) w) (jM : aH (fun c_ => X c_ ∨ c_ = bc) (bI sv vv) w) (oC : aH (fun c_ => X c_ ∨ c_ = bc) (eN sl sb) w) (sU : aH (fun c_ => X c_ ∨ c_ = bc) (aW) w) (bS : 0 ≤ bits ∧ bits ≤ 256) (hp : iG kd dp lk lv B sb) (hk : k.length = 32) (hv : vv.length ≤ 65535) (tL : uT kd dp lk lv k (mQ bits vv) pr) :
  bD Tryz.prog 127 [.pointer (some ⟨bk, 0, none⟩)].toArray w fun v w' => ∃ m, v = .int .i64 0 ∧ Out (· = bc) w w' ∧ aK w' bc 213 [.int .i64 m] := by
 refine bD.aI (N := 7) Tryz.func127 rfl rfl (by simp) ?_
 have H := St.c6 (b := bc) (t := 213) (l := [.int .i64 n0]) hX eR
 replace H := H.add (bY sU)
 replace H := H.add (bY oC)
 replace H := H.add (bY jM)
 replace H := H.add (bY fO)
 replace H := H.add (bY dA)
 replace H := H.add (bY bU)
 refine WE.aA (WL.as rfl rfl (WL.nil (WE.aA (WL.mv rfl rfl ?_))))
 refine WL.call aFq rfl (FV (bk := bk) (bh := bh) (bits := bits) (k := k) (vv := vv) (rb := []) (sr := sr) (sk := sk) (sv := sv) (se := se) (pr := pr) (kd := kd) (dp := dp) (lk := lk) (lv := lv) (B := B) (sl := sl) (sb := sb) H.aS (H.o 0 rfl) (by exact (H.aL 0 rfl 0 rfl : aH _ (fJ bh bc bits) _)) (by exact (H.aL 0 rfl 1 rfl : aH _ (fun w => aK w bk 168 (G0 bh sr sk sv pr se (fH kd dp lk lv B sl))) _)) (by exact (H.aL 0 rfl 2 rfl : aH _ (bI sk k) _)) (by exact (H.aL 0 rfl 3 rfl : aH _ (bI sv vv) _)) (by exact (H.aL 0 rfl 4 rfl : aH _ (eN sl sb) _)) (by exact (H.aL 0 rfl 5 rfl : aH _ (aW) _)) bS hp hk hv tL) ?_
 rintro _ w1 ⟨m4, rfl, hO, hB⟩
 replace H := H.eS 0 rfl hO hB
 refine WL.pv (PV.not rfl rfl) rfl ?_
 refine WL.call zZ rfl (sY (c := _) (e := 12) H.aS) ?_
 rintro _ w2 ⟨rfl, hO⟩
 replace H := H.out hO
 refine WL.as rfl rfl (WL.nil (WE.ret ⟨[_], _, .nil _, ⟨rfl, trivial⟩, ?_⟩))
 exact ⟨_, rfl, H.cM, H.o 0 rfl⟩
theorem aCG {X : Nat → Prop} {w : World} {bk bh bc : Nat} {bits n0 : Int} {sr sk sv se : Value} {pr : Bool} {k vv rb : List UInt8} {kd dp : Nat} {lk lv B : List UInt8} {sl : Value} {sb : List (List UInt8)} (hX : cW X w) (eR : aK w bc 213 ([.int .i64 n0])) (bU : aH (fun c_ => X c_ ∨ c_ = bc) (fJ bh bc bits) w) (dA : aH (fun c_ => X c_ ∨ c_ = bc) (fun w => aK w bk 168 (G0 bh sr sk sv pr se (fH kd dp lk lv B sl))) w) (fO : aH (fun c_ => X c_ ∨ c_ = bc) (bI sk k) w) (jM : aH (fun c_ => X c_ ∨ c_ = bc) (bI sr rb) w) (oC : aH (fun c_ => X c_ ∨ c_ = bc) (eN sl sb) w) (sU : aH (fun c_ => X c_ ∨ c_ = bc) (aW) w) (bS : 0 ≤ bits ∧ bits ≤ 256) (hp : iG kd dp lk lv B sb) (hk : k.length = 32) (hr : rb.length = 32) :
  bD Tryz.prog 129 [.pointer (some ⟨bk, 0, none⟩)].toArray w fun v w' => ∃ m, v = .int .i64 (if (eW bits k (fN bits dp B sb) (dS (cR (dY kd lk lv)) bits) dp) = rb then 0 else 13) ∧ Out (· = bc) w w' ∧ aK w' bc 213 [.int .i64 m] := by
 refine bD.aI (N := 7) Tryz.func129 rfl rfl (by simp) ?_
 have H := St.c6 (b := bc) (t := 213) (l := [.int .i64 n0]) hX eR
 replace H := H.add (bY sU)
 replace H := H.add (bY oC)
 replace H := H.add (bY jM)
 replace H := H.add (bY fO)
 replace H := H.add (bY dA)
 replace H := H.add (bY bU)
 refine WE.aA (WL.as rfl rfl (WL.nil (WE.aA (WL.mv rfl rfl ?_))))
 refine WL.call aFn rfl (VA (bk := bk) (bh := bh) (bits := bits) (k := k) (vv := []) (rb := rb) (sr := sr) (sk := sk) (sv := sv) (se := se) (pr := pr) (kd := kd) (dp := dp) (lk := lk) (lv := lv) (B := B) (sl := sl) (sb := sb) H.aS (H.o 0 rfl) (by exact (H.aL 0 rfl 0 rfl : aH _ (fJ bh bc bits) _)) (by exact (H.aL 0 rfl 1 rfl : aH _ (fun w => aK w bk 168 (G0 bh sr sk sv pr se (fH kd dp lk lv B sl))) _)) (by exact (H.aL 0 rfl 2 rfl : aH _ (bI sk k) _)) (by exact (H.aL 0 rfl 3 rfl : aH _ (bI sr rb) _)) (by exact (H.aL 0 rfl 4 rfl : aH _ (eN sl sb) _)) (by exact (H.aL 0 rfl 5 rfl : aH _ (aW) _)) bS hp hk hr) ?_
 rintro _ w1 ⟨m4, rfl, hO, hB⟩
 replace H := H.eS 0 rfl hO hB
 refine WL.pv (PV.not rfl rfl) rfl ?_
 refine WL.call zZ rfl (sY (c := _) (e := 13) H.aS) ?_
 rintro _ w2 ⟨rfl, hO⟩
 replace H := H.out hO
 refine WL.as rfl rfl (WL.nil (WE.ret ⟨[_], _, .nil _, ⟨rfl, trivial⟩, ?_⟩))
 refine ⟨_, ?_, H.cM, H.o 0 rfl⟩
 show Value.int .i64 _ = Value.int .i64 _
 congr 1
 by_cases h_ : (eW bits k (fN bits dp B sb) (dS (cR (dY kd lk lv)) bits) dp) = rb
 ·
  simp [h_]
 ·
  simp [h_]
open Go.Extern
theorem C8 (v x : Value) : Extern.ReflectliteValue.set [v, x].toArray = (do
  let (some (dst, a, fl), some (src, b, _)) := (← Extern.ReflectliteValue.parts v, ← Extern.ReflectliteValue.parts x)
   | unsupported (.noEntry "extern/(internal/reflectlite.Value).Set.zeroValue")
  if fl / Extern.ReflectliteValue.flagAddr % 2 == 0 then unsupported (.noEntry "extern/(internal/reflectlite.Value).Set.unaddressable")
  let val ← loadVar src b
  if ← Extern.Rtype.directlyAssignable dst src then storeVar dst a val
  else if ← Extern.Rtype.implements dst src then
   if (← Extern.Rtype.kind src) == 20 then
    match val with
    | .nilIface => unsupported (.noEntry "extern/reflectlite: a nil value of one interface type handed on as a value of another")
    | _ => storeVar dst a val
   else storeVar dst a (.iface src val)
  else panicString ("reflectlite.Set: value of type " ++ (← Extern.Rtype.spelt src) ++ " is not assignable to type " ++ (← Extern.Rtype.spelt dst))
  pure (.tuple #[])) := rfl
def eE (w : World) : Prop := cX w ⟨0, 0, none⟩ [(.iface 223 (.agg [(.pointer (some ⟨3, 61, none⟩))].toArray))]
theorem meK (h : Value) (w : World) : (Go.method (Tryz.prog.types.size + Made.depth) 223 (.agg [h].toArray) "Kind").run Tryz.prog w = .ok (237, h) w := by kernel_rfl
theorem meE (h : Value) (w : World) : (Go.method (Tryz.prog.types.size + Made.depth) 223 (.agg [h].toArray) "Elem").run Tryz.prog w = .ok (253, .agg [h].toArray) w := by kernel_rfl
theorem meI (h : Value) (w : World) : (Go.method (Tryz.prog.types.size + Made.depth) 223 (.agg [h].toArray) "Implements").run Tryz.prog w = .ok (254, .agg [h].toArray) w := by kernel_rfl
theorem meA (h : Value) (w : World) : (Go.method (Tryz.prog.types.size + Made.depth) 223 (.agg [h].toArray) "AssignableTo").run Tryz.prog w = .ok (251, .agg [h].toArray) w := by kernel_rfl
theorem meC (h : Value) (w : World) : (Go.method (Tryz.prog.types.size + Made.depth) 223 (.agg [h].toArray) "Comparable").run Tryz.prog w = .ok (252, .agg [h].toArray) w := by kernel_rfl
abbrev rvV (t : TypeId) (fl : Int) (b : Nat) : Value := .agg [.pointer (some ⟨3, t, none⟩), .pointer (some ⟨b, 0, none⟩), .int .u64 fl].toArray
theorem aIq (w : World) : ((Extern.ReflectliteType.relation "AssignableTo" Extern.ReflectliteType.assignableTo) [.agg [(.pointer (some ⟨3, 219, none⟩))].toArray, (.iface 223 (.agg [(.pointer (some ⟨3, 42, none⟩))].toArray))].toArray).run Tryz.prog w = .ok (.bool false) w := by kernel_rfl
theorem voE (t : Addr) (w : World) : (Extern.ReflectliteValue.unpack (.iface 97 (.pointer (some t)))).run Tryz.prog w = .ok (.agg [(.pointer (some ⟨3, 97, none⟩)), .pointer (some ⟨w.heap.size, 0, none⟩), .int .u64 150].toArray) (w.alloc (.cells [.pointer (some t)].toArray 97)) := by kernel_rfl
theorem tyE (a : Addr) (w : World) : ((Extern.ReflectliteValue.methodAny (Extern.ReflectliteValue.valueError "reflectlite.Value.Type" 0) (fun t _ _ _ => Extern.ReflectliteType.toType t)) [(.agg [(.pointer (some ⟨3, 97, none⟩)), .pointer (some a), .int .u64 150].toArray)].toArray).run Tryz.prog w = .ok (.iface 223 (.agg [(.pointer (some ⟨3, 97, none⟩))].toArray)) w := by kernel_rfl
theorem kiE (w : World) : ((Extern.ReflectliteType.abiMethod fun t => do pure (.int .u8 (← Extern.Rtype.kind t))) [(.pointer (some ⟨3, 97, none⟩))].toArray).run Tryz.prog w = .ok (.int .u8 22) w := by kernel_rfl
theorem kjE (w : World) : ((Extern.ReflectliteType.abiMethod fun t => do pure (.int .u8 (← Extern.Rtype.kind t))) [(.pointer (some ⟨3, 42, none⟩))].toArray).run Tryz.prog w = .ok (.int .u8 2) w := by kernel_rfl
theorem paE (a : Addr) (w : World) : (Extern.ReflectliteValue.parts (.agg [(.pointer (some ⟨3, 97, none⟩)), .pointer (some a), .int .u64 150].toArray)).run Tryz.prog w = .ok (some (97, a, 150)) w := by kernel_rfl
theorem niE (a p : Addr) (W : World) (ha : W.cell? a = some (.pointer (some p))) : ((Extern.ReflectliteValue.method (Extern.ReflectliteValue.valueError "reflectlite.Value.IsNil" 0) Extern.ReflectliteValue.isNil) [(.agg [(.pointer (some ⟨3, 97, none⟩)), .pointer (some a), .int .u64 150].toArray)].toArray).run Tryz.prog W = .ok (.bool false) W := by
 have e : ∀ (z : Sem Value) (f : TypeId → Addr → Nat → Nat → Sem Value) (v : Value), Extern.ReflectliteValue.method z f [v].toArray = (do match ← Extern.ReflectliteValue.parts v with | none => z | some (t, a, fl) => f t a fl (fl % 32)) := fun _ _ _ => rfl
 rw [e]
 simp only [Sem.run_bind, paE, Result.andThen]
 simp [Extern.ReflectliteValue.isNil, loadVar, isAgg, underlying, Tryz.underlying97, ha, Result.andThen]
theorem elE (w : World) : ((Extern.ReflectliteType.method Extern.ReflectliteType.elem) [.agg [(.pointer (some ⟨3, 97, none⟩))].toArray].toArray).run Tryz.prog w = .ok (.iface 223 (.agg [(.pointer (some ⟨3, 42, none⟩))].toArray)) w := by kernel_rfl
theorem imE (w : World) : ((Extern.ReflectliteType.relation "Implements" Extern.ReflectliteType.implements_) [.agg [(.pointer (some ⟨3, 42, none⟩))].toArray, (.iface 223 (.agg [(.pointer (some ⟨3, 61, none⟩))].toArray))].toArray).run Tryz.prog w = .ok (.bool true) w := by kernel_rfl
theorem asE (w : World) : ((Extern.ReflectliteType.relation "AssignableTo" Extern.ReflectliteType.assignableTo) [.agg [(.pointer (some ⟨3, 42, none⟩))].toArray, (.iface 223 (.agg [(.pointer (some ⟨3, 42, none⟩))].toArray))].toArray).run Tryz.prog w = .ok (.bool true) w := by kernel_rfl
theorem toE (c : Int) (w : World) : (Extern.ReflectliteType.typeOf [.iface 42 (.int .i64 c)].toArray).run Tryz.prog w = .ok (.iface 223 (.agg [(.pointer (some ⟨3, 42, none⟩))].toArray)) w := by kernel_rfl
theorem vwE (c : Int) (w : World) : (Extern.ReflectliteValue.unpack (.iface 42 (.int .i64 c))).run Tryz.prog w = .ok (.agg [(.pointer (some ⟨3, 42, none⟩)), .pointer (some ⟨w.heap.size, 0, none⟩), .int .u64 130].toArray) (w.alloc (.cells [(.int .i64 c)].toArray 42)) := by kernel_rfl
theorem eoE (w : World) : (Extern.Rtype.elem? 97).run Tryz.prog w = .ok (some 42) w := by kernel_rfl
theorem mkE (p : Addr) (w : World) : (Extern.ReflectliteValue.mk 42 p Extern.ReflectliteValue.flagAddr).run Tryz.prog w = .ok (.agg [(.pointer (some ⟨3, 42, none⟩)), .pointer (some p), .int .u64 386].toArray) w := by kernel_rfl
theorem evE (a p : Addr) (W : World) (ha : W.cell? a = some (.pointer (some p))) : ((Extern.ReflectliteValue.method (Extern.ReflectliteValue.valueError "reflectlite.Value.Elem" 0) Extern.ReflectliteValue.elem) [(.agg [(.pointer (some ⟨3, 97, none⟩)), .pointer (some a), .int .u64 150].toArray)].toArray).run Tryz.prog W = .ok (.agg [(.pointer (some ⟨3, 42, none⟩)), .pointer (some p), .int .u64 386].toArray) W := by
 have e : ∀ (z : Sem Value) (f : TypeId → Addr → Nat → Nat → Sem Value) (v : Value), Extern.ReflectliteValue.method z f [v].toArray = (do match ← Extern.ReflectliteValue.parts v with | none => z | some (t, a, fl) => f t a fl (fl % 32)) := fun _ _ _ => rfl
 rw [e]
 simp only [Sem.run_bind, paE, Result.andThen]
 simp [Extern.ReflectliteValue.elem, loadVar, isAgg, underlying, Tryz.underlying97, ha, Result.andThen, eoE, mkE]
theorem pbE (a : Addr) (w : World) : (Extern.ReflectliteValue.parts (.agg [(.pointer (some ⟨3, 42, none⟩)), .pointer (some a), .int .u64 386].toArray)).run Tryz.prog w = .ok (some (42, a, 386)) w := by kernel_rfl
theorem pcE (a : Addr) (w : World) : (Extern.ReflectliteValue.parts (.agg [(.pointer (some ⟨3, 42, none⟩)), .pointer (some a), .int .u64 130].toArray)).run Tryz.prog w = .ok (some (42, a, 130)) w := by kernel_rfl
theorem diE (w : World) : (Extern.Rtype.directlyAssignable 42 42).run Tryz.prog w = .ok true w := by kernel_rfl
theorem stE (ta b : Addr) (c : Int) (old : Value) (W : World) (hb : W.cell? b = some (.int .i64 c)) (ht : W.cell? ta = some old) (hf : W.frozen? ta = false) :
  (Extern.ReflectliteValue.set [(.agg [(.pointer (some ⟨3, 42, none⟩)), .pointer (some ta), .int .u64 386].toArray), (.agg [(.pointer (some ⟨3, 42, none⟩)), .pointer (some b), .int .u64 130].toArray)].toArray).run Tryz.prog W = .ok (.tuple #[]) (W.setCell ta (.int .i64 c)) := by
 rw [C8]
 simp only [Sem.run_bind, pbE, pcE, Result.andThen]
 simp [Extern.ReflectliteValue.flagAddr, loadVar, isAgg, underlying, Tryz.underlying42, hb, Result.andThen, diE, storeVar, Value.cells, storeCells, Addr.add]
 rw [run_store Tryz.prog W ta _ _ (by rfl)]
 simp [ht, hf]
theorem voF (t : Addr) (w : World) : (Extern.ReflectliteValue.unpack (.iface 235 (.pointer (some t)))).run Tryz.prog w = .ok (.agg [(.pointer (some ⟨3, 235, none⟩)), .pointer (some ⟨w.heap.size, 0, none⟩), .int .u64 150].toArray) (w.alloc (.cells [.pointer (some t)].toArray 235)) := by kernel_rfl
theorem tyF (a : Addr) (w : World) : ((Extern.ReflectliteValue.methodAny (Extern.ReflectliteValue.valueError "reflectlite.Value.Type" 0) (fun t _ _ _ => Extern.ReflectliteType.toType t)) [(.agg [(.pointer (some ⟨3, 235, none⟩)), .pointer (some a), .int .u64 150].toArray)].toArray).run Tryz.prog w = .ok (.iface 223 (.agg [(.pointer (some ⟨3, 235, none⟩))].toArray)) w := by kernel_rfl
theorem kiF (w : World) : ((Extern.ReflectliteType.abiMethod fun t => do pure (.int .u8 (← Extern.Rtype.kind t))) [(.pointer (some ⟨3, 235, none⟩))].toArray).run Tryz.prog w = .ok (.int .u8 22) w := by kernel_rfl
theorem kjF (w : World) : ((Extern.ReflectliteType.abiMethod fun t => do pure (.int .u8 (← Extern.Rtype.kind t))) [(.pointer (some ⟨3, 219, none⟩))].toArray).run Tryz.prog w = .ok (.int .u8 22) w := by kernel_rfl
theorem paF (a : Addr) (w : World) : (Extern.ReflectliteValue.parts (.agg [(.pointer (some ⟨3, 235, none⟩)), .pointer (some a), .int .u64 150].toArray)).run Tryz.prog w = .ok (some (235, a, 150)) w := by kernel_rfl
theorem niF (a p : Addr) (W : World) (ha : W.cell? a = some (.pointer (some p))) : ((Extern.ReflectliteValue.method (Extern.ReflectliteValue.valueError "reflectlite.Value.IsNil" 0) Extern.ReflectliteValue.isNil) [(.agg [(.pointer (some ⟨3, 235, none⟩)), .pointer (some a), .int .u64 150].toArray)].toArray).run Tryz.prog W = .ok (.bool false) W := by
 have e : ∀ (z : Sem Value) (f : TypeId → Addr → Nat → Nat → Sem Value) (v : Value), Extern.ReflectliteValue.method z f [v].toArray = (do match ← Extern.ReflectliteValue.parts v with | none => z | some (t, a, fl) => f t a fl (fl % 32)) := fun _ _ _ => rfl
 rw [e]
 simp only [Sem.run_bind, paF, Result.andThen]
 simp [Extern.ReflectliteValue.isNil, loadVar, isAgg, underlying, Tryz.underlying235, ha, Result.andThen]
theorem elF (w : World) : ((Extern.ReflectliteType.method Extern.ReflectliteType.elem) [.agg [(.pointer (some ⟨3, 235, none⟩))].toArray].toArray).run Tryz.prog w = .ok (.iface 223 (.agg [(.pointer (some ⟨3, 219, none⟩))].toArray)) w := by kernel_rfl
theorem imF (w : World) : ((Extern.ReflectliteType.relation "Implements" Extern.ReflectliteType.implements_) [.agg [(.pointer (some ⟨3, 219, none⟩))].toArray, (.iface 223 (.agg [(.pointer (some ⟨3, 61, none⟩))].toArray))].toArray).run Tryz.prog w = .ok (.bool true) w := by kernel_rfl
theorem asF (w : World) : ((Extern.ReflectliteType.relation "AssignableTo" Extern.ReflectliteType.assignableTo) [.agg [(.pointer (some ⟨3, 219, none⟩))].toArray, (.iface 223 (.agg [(.pointer (some ⟨3, 219, none⟩))].toArray))].toArray).run Tryz.prog w = .ok (.bool true) w := by kernel_rfl
theorem toF (p_ : Addr) (w : World) : (Extern.ReflectliteType.typeOf [.iface 219 (.pointer (some p_))].toArray).run Tryz.prog w = .ok (.iface 223 (.agg [(.pointer (some ⟨3, 219, none⟩))].toArray)) w := by kernel_rfl
theorem vwF (p_ : Addr) (w : World) : (Extern.ReflectliteValue.unpack (.iface 219 (.pointer (some p_)))).run Tryz.prog w = .ok (.agg [(.pointer (some ⟨3, 219, none⟩)), .pointer (some ⟨w.heap.size, 0, none⟩), .int .u64 150].toArray) (w.alloc (.cells [(.pointer (some p_))].toArray 219)) := by kernel_rfl
theorem eoF (w : World) : (Extern.Rtype.elem? 235).run Tryz.prog w = .ok (some 219) w := by kernel_rfl
theorem mkF (p : Addr) (w : World) : (Extern.ReflectliteValue.mk 219 p Extern.ReflectliteValue.flagAddr).run Tryz.prog w = .ok (.agg [(.pointer (some ⟨3, 219, none⟩)), .pointer (some p), .int .u64 406].toArray) w := by kernel_rfl
theorem evF (a p : Addr) (W : World) (ha : W.cell? a = some (.pointer (some p))) : ((Extern.ReflectliteValue.method (Extern.ReflectliteValue.valueError "reflectlite.Value.Elem" 0) Extern.ReflectliteValue.elem) [(.agg [(.pointer (some ⟨3, 235, none⟩)), .pointer (some a), .int .u64 150].toArray)].toArray).run Tryz.prog W = .ok (.agg [(.pointer (some ⟨3, 219, none⟩)), .pointer (some p), .int .u64 406].toArray) W := by
 have e : ∀ (z : Sem Value) (f : TypeId → Addr → Nat → Nat → Sem Value) (v : Value), Extern.ReflectliteValue.method z f [v].toArray = (do match ← Extern.ReflectliteValue.parts v with | none => z | some (t, a, fl) => f t a fl (fl % 32)) := fun _ _ _ => rfl
 rw [e]
 simp only [Sem.run_bind, paF, Result.andThen]
 simp [Extern.ReflectliteValue.elem, loadVar, isAgg, underlying, Tryz.underlying235, ha, Result.andThen, eoF, mkF]
theorem pbF (a : Addr) (w : World) : (Extern.ReflectliteValue.parts (.agg [(.pointer (some ⟨3, 219, none⟩)), .pointer (some a), .int .u64 406].toArray)).run Tryz.prog w = .ok (some (219, a, 406)) w := by kernel_rfl
theorem pcF (a : Addr) (w : World) : (Extern.ReflectliteValue.parts (.agg [(.pointer (some ⟨3, 219, none⟩)), .pointer (some a), .int .u64 150].toArray)).run Tryz.prog w = .ok (some (219, a, 150)) w := by kernel_rfl
theorem diF (w : World) : (Extern.Rtype.directlyAssignable 219 219).run Tryz.prog w = .ok true w := by kernel_rfl
theorem stF (ta b : Addr) (p_ : Addr) (old : Value) (W : World) (hb : W.cell? b = some (.pointer (some p_))) (ht : W.cell? ta = some old) (hf : W.frozen? ta = false) :
  (Extern.ReflectliteValue.set [(.agg [(.pointer (some ⟨3, 219, none⟩)), .pointer (some ta), .int .u64 406].toArray), (.agg [(.pointer (some ⟨3, 219, none⟩)), .pointer (some b), .int .u64 150].toArray)].toArray).run Tryz.prog W = .ok (.tuple #[]) (W.setCell ta (.pointer (some p_))) := by
 rw [C8]
 simp only [Sem.run_bind, pbF, pcF, Result.andThen]
 simp [Extern.ReflectliteValue.flagAddr, loadVar, isAgg, underlying, Tryz.underlying219, hb, Result.andThen, diF, storeVar, Value.cells, storeCells, Addr.add]
 rw [run_store Tryz.prog W ta _ _ (by rfl)]
 simp [ht, hf]
theorem taA (v : Value) (w : World) : (Instr.typeAssert (.iface 219 v) 61 227 true).run Tryz.prog w = .ok (.tuple [.nilIface, .bool false].toArray) w := Go.run_typeAssert_lacksB Tryz.underlying227 (by kernel_rfl) (by kernel_rfl) v 61 w
theorem taU (v : Value) (w : World) : (Instr.typeAssert (.iface 219 v) 61 230 true).run Tryz.prog w = .ok (.tuple [.iface 219 v, .bool true].toArray) w := Go.run_typeAssert_hasB Tryz.underlying230 (by kernel_rfl) v 61 w
theorem aF1 {X : Nat → Prop} {w : World} {bt uQ : Nat} {old : Value} {bf : Nat} {op : List UInt8} {ix code : Int} (hX : cW X w) (eR : aK w bt 42 ([old])) (bU : aH (fun c_ => X c_ ∨ c_ = bt) (fun w => cX w ⟨uQ, 0, none⟩ [.pointer (some ⟨bt, 0, none⟩)]) w) (dA : aH (fun c_ => X c_ ∨ c_ = bt) (fun w => aK w bf 221 (dM op ix code)) w) :
  bD Tryz.prog 84 [.iface 219 (.pointer (some ⟨bf, 0, none⟩)), .iface 97 (.pointer (some ⟨bt, 0, none⟩)), (.agg [(.pointer (some ⟨3, 97, none⟩)), .pointer (some ⟨uQ, 0, none⟩), .int .u64 150].toArray), (.iface 223 (.agg [(.pointer (some ⟨3, 42, none⟩))].toArray))].toArray w fun v w' => v = .bool true ∧ Out (· = bt) w w' ∧ aK w' bt 42 [.int .i64 code] := by
 refine bD.aI (N := 62) Tryz.func84 rfl rfl (by simp) ?_
 have H := St.c6 (b := bt) (t := 42) (l := [old]) hX eR
 replace H := H.add (bY dA)
 replace H := H.add (bY bU)
 refine WE.aA ?_
 refine WL.box (l := [(.pointer (some ⟨3, 97, none⟩)), .pointer (some ⟨uQ, 0, none⟩), .int .u64 150]) H rfl (by rfl) rfl ?_
 intro b6 w1 H
 refine WL.as rfl rfl (WL.nil (WE.block ?_))
 refine WE.jE 2 ?_
 refine dN.step ?_
 refine WE.block (WE.seq (WE.aA (WL.mv rfl rfl ?_)))
 refine WL.extern (e := Extern.ReflectliteType.typeOf) Tryz.func97 (by kernel_rfl) (by kernel_rfl) (by kernel_rfl) (by kernel_rfl) rfl (toF _ _) ?_
 refine WL.mv rfl rfl ?_
 refine WL.iY (e := (Extern.ReflectliteType.relation "AssignableTo" Extern.ReflectliteType.assignableTo)) rfl (fun w => meA _ w) Tryz.func251 (by kernel_rfl) (by kernel_rfl) (by kernel_rfl) (by kernel_rfl) rfl (aIq _) ?_
 refine WL.nil ?_
 refine WE.bB rfl rfl ?_
 refine WE.skip (WE.seq (WE.aA (WL.mv rfl rfl ?_)))
 refine WL.pv (PV.J7 rfl (fun w => taA _ w)) rfl ?_
 refine WL.mv rfl rfl (WL.pv (PV.extract rfl rfl rfl) rfl (WL.pv (PV.extract rfl rfl rfl) rfl (WL.as rfl rfl (WL.as rfl rfl (WL.nil (WE.aA (WL.mv rfl rfl ?_)))))))
 refine WL.mv rfl rfl (WL.known (t := 31) (c := false) rfl rfl (WL.off rfl (WL.off rfl (WL.off rfl (WL.pv (PV.c5 rfl rfl rfl) rfl (WL.nil (WE.iJ rfl ?_)))))))
 refine WE.skip (WE.aA (WL.mv rfl rfl (WL.nil (WE.block (WE.aA ?_)))))
 refine WL.pv (PV.J7 rfl (fun w => taU _ w)) rfl ?_
 refine WL.pv (PV.extract rfl rfl rfl) rfl (WL.pv (PV.extract rfl rfl rfl) rfl (WL.nil ?_))
 refine WE.cO rfl rfl ?_
 refine WE.aA (WL.as rfl rfl (WL.nil (WE.aA (WL.mv rfl rfl ?_))))
 refine WL.VG rfl (by kernel_rfl) YO aEG rfl (SJ (bf := bf) (op := op) (ix := ix) (code := code) H.aS (by exact (H.bN 1 rfl : aH _ (fun w => aK w bf 221 (dM op ix code)) _))) ?_
 rintro _ w5 ⟨rfl, hO⟩
 replace H := H.out hO
 refine WL.as rfl rfl (WL.nil (WE.aA (WL.mv rfl rfl ?_)))
 refine WL.pv (PV.pN rfl (by kernel_rfl) (by exact yF.of)) rfl ?_
 refine WL.nil ?_
 refine WE.bB rfl rfl ?_
 refine WE.skip ?_
 refine dN.step ?_
 refine WE.block (WE.seq (WE.aA (WL.mv rfl rfl ?_)))
 refine WL.extern (e := Extern.ReflectliteType.typeOf) Tryz.func97 (by kernel_rfl) (by kernel_rfl) (by kernel_rfl) (by kernel_rfl) rfl (toE code _) ?_
 refine WL.mv rfl rfl ?_
 refine WL.iY (e := (Extern.ReflectliteType.relation "AssignableTo" Extern.ReflectliteType.assignableTo)) rfl (fun w => meA _ w) Tryz.func251 (by kernel_rfl) (by kernel_rfl) (by kernel_rfl) (by kernel_rfl) rfl (asE _) ?_
 refine WL.nil ?_
 refine WE.cO rfl rfl ?_
 refine WE.aA ?_
 refine WL.bG rfl uS rfl rfl (by exact aK.aF (H.l 0 rfl) (aJ.all _) (by rfl)) (by exact qE) ?_
 refine WL.extern (e := (Extern.ReflectliteValue.method (Extern.ReflectliteValue.valueError "reflectlite.Value.Elem" 0) Extern.ReflectliteValue.elem)) Tryz.func131 (by kernel_rfl) (by kernel_rfl) (by kernel_rfl) (by kernel_rfl) rfl (evE _ _ _ (by exact (by have h_ := (H.p 0 rfl : cX _ ⟨uQ, 0, none⟩ [.pointer (some ⟨bt, 0, none⟩)]) 0 _ rfl; rwa [show ((⟨uQ, 0, none⟩ : Addr).add 0) = ⟨uQ, 0, none⟩ from rfl] at h_))) ?_
 refine WL.mv rfl rfl ?_
 refine WL.vM (avs := [.iface 42 (.int .i64 code)]) (e := (fun args => Extern.ReflectliteValue.unpack (args.getD 0 (.tuple #[])))) (rvV 42 130) [.int .i64 code] 42 H Tryz.func81 (by kernel_rfl) (by kernel_rfl) (by kernel_rfl) (by kernel_rfl) rfl (vwE code _) rfl ?_
 intro b23 y8 H
 refine WL.extern (e := Extern.ReflectliteValue.set) Tryz.func132 (by kernel_rfl) (by kernel_rfl) (by kernel_rfl) (by kernel_rfl) rfl (stE ⟨bt, 0, none⟩ ⟨b23, 0, none⟩ code old _ (aK.cell (H.l 0 rfl) 0) (aK.cell (H.o 0 rfl) 0) (aK.frozen (H.o 0 rfl) _ rfl)) ?_
 replace H := H.uY (i := 0) rfl (Out.set _ ⟨bt, 0, none⟩ _) (aO.blk bt 42 [.int .i64 code]) (aK.aCS (H.o 0 rfl)) (fun _ => Iff.rfl)
 refine WL.nil (WE.aA (WL.as rfl rfl (WL.nil (WE.ret ⟨[_], _, .nil _, ⟨rfl, trivial⟩, ?_⟩))))
 exact ⟨rfl, H.cM, H.o 0 rfl⟩
theorem aAl {X : Nat → Prop} {w : World} {bt : Nat} {old : Value} {bf : Nat} {op : List UInt8} {ix code : Int} (hX : cW X w) (eR : aK w bt 42 ([old])) (bU : aH (fun c_ => X c_ ∨ c_ = bt) (eE) w) (dA : aH (fun c_ => X c_ ∨ c_ = bt) (fun w => aK w bf 221 (dM op ix code)) w) :
  bD Tryz.prog 39 [.iface 219 (.pointer (some ⟨bf, 0, none⟩)), .iface 97 (.pointer (some ⟨bt, 0, none⟩))].toArray w fun v w' => v = .bool true ∧ Out (· = bt) w w' ∧ aK w' bt 42 [.int .i64 code] := by
 refine bD.aI (N := 42) Tryz.func39 rfl rfl (by simp) ?_
 have H := St.c6 (b := bt) (t := 42) (l := [old]) hX eR
 replace H := H.add (bY dA)
 replace H := H.add (bY bU)
 refine WE.aA (WL.as rfl rfl (WL.nil (WE.seq (WE.aA (WL.mv rfl rfl ?_)))))
 refine WL.pv (PV.pN rfl (by kernel_rfl) (by exact yF.of)) rfl ?_
 refine WL.nil ?_
 refine WE.bB rfl rfl ?_
 refine WE.skip (WE.seq (WE.aA (WL.mv rfl rfl ?_)))
 refine WL.pv (PV.pN rfl (by kernel_rfl) (by exact yF.of)) rfl ?_
 refine WL.nil ?_
 refine WE.bB rfl rfl ?_
 refine WE.skip (WE.aA (WL.mv rfl rfl ?_))
 refine WL.vM (avs := [.iface 97 (.pointer (some ⟨bt, 0, none⟩))]) (e := (fun args => Extern.ReflectliteValue.unpack (args.getD 0 (.tuple #[])))) (rvV 97 150) [.pointer (some ⟨bt, 0, none⟩)] 97 H Tryz.func81 (by kernel_rfl) (by kernel_rfl) (by kernel_rfl) (by kernel_rfl) rfl (voE _ _) rfl ?_
 intro uQ w2 H
 refine WL.alloc H rfl X9 rfl ?_
 intro b5 w3 H
 refine WL.aT H 0 rfl rfl rfl (new := [(.pointer (some ⟨3, 97, none⟩)), .pointer (some ⟨uQ, 0, none⟩), .int .u64 150]) rfl (by exact qE) (by exact bC _ rfl) (Laid.at (Laid.all (by simp only [aR])) (by rfl)) rfl ?_
 intro w4 H
 refine WL.nil (WE.aA ?_)
 refine WL.bG rfl uS rfl rfl (by exact aK.aF (H.l 0 rfl) (aJ.all _) (by rfl)) (by exact qE) ?_
 refine WL.extern (e := (Extern.ReflectliteValue.methodAny (Extern.ReflectliteValue.valueError "reflectlite.Value.Type" 0) (fun t _ _ _ => Extern.ReflectliteType.toType t))) Tryz.func82 (by kernel_rfl) (by kernel_rfl) (by kernel_rfl) (by kernel_rfl) rfl (tyE _ _) ?_
 refine WL.as rfl rfl (WL.nil (WE.seq (WE.aA (WL.mv rfl rfl ?_))))
 refine WL.iY (e := (Extern.ReflectliteType.abiMethod fun t => do pure (.int .u8 (← Extern.Rtype.kind t)))) rfl (fun w => meK _ w) Tryz.func237 (by kernel_rfl) (by kernel_rfl) (by kernel_rfl) (by kernel_rfl) rfl (kiE _) ?_
 refine WL.pv (PV.neq rfl rfl rfl) rfl (WL.mv rfl rfl (WL.known (t := 20) (c := false) rfl rfl ?_))
 refine WL.bG rfl uS rfl rfl (by exact aK.aF (H.l 0 rfl) (aJ.all _) (by rfl)) (by exact qE) ?_
 refine WL.extern (e := (Extern.ReflectliteValue.method (Extern.ReflectliteValue.valueError "reflectlite.Value.IsNil" 0) Extern.ReflectliteValue.isNil)) Tryz.func83 (by kernel_rfl) (by kernel_rfl) (by kernel_rfl) (by kernel_rfl) rfl (niE _ ⟨bt, 0, none⟩ _ (by exact aK.cell (H.l 1 rfl) 0)) ?_
 refine WL.pv (PV.c5 rfl rfl rfl) rfl (WL.nil ?_)
 refine WE.bB rfl rfl ?_
 refine WE.skip (WE.aA (WL.mv rfl rfl ?_))
 refine WL.iY (e := (Extern.ReflectliteType.method Extern.ReflectliteType.elem)) rfl (fun w => meE _ w) Tryz.func253 (by kernel_rfl) (by kernel_rfl) (by kernel_rfl) (by kernel_rfl) rfl (elE _) ?_
 refine WL.as rfl rfl (WL.nil (WE.seq (WE.aA (WL.mv rfl rfl ?_))))
 refine WL.iY (e := (Extern.ReflectliteType.abiMethod fun t => do pure (.int .u8 (← Extern.Rtype.kind t)))) rfl (fun w => meK _ w) Tryz.func237 (by kernel_rfl) (by kernel_rfl) (by kernel_rfl) (by kernel_rfl) rfl (kjE _) ?_
 refine WL.pv (PV.neq rfl rfl rfl) rfl (WL.mv rfl rfl (WL.known (t := 30) (c := true) rfl rfl (WL.mv rfl rfl (WL.aZ rfl aAe rfl rfl ((H.p 0 rfl : eE _)) ?_))))
 refine WL.iY (e := (Extern.ReflectliteType.relation "Implements" Extern.ReflectliteType.implements_)) rfl (fun w => meI _ w) Tryz.func254 (by kernel_rfl) (by kernel_rfl) (by kernel_rfl) (by kernel_rfl) rfl (imE _) ?_
 refine WL.pv (PV.not rfl rfl) rfl (WL.pv (PV.dH rfl rfl rfl) rfl (WL.nil ?_))
 refine WE.bB rfl rfl ?_
 refine WE.skip (WE.aA (WL.mv rfl rfl (WL.mv rfl rfl ?_)))
 refine WL.bG rfl uS rfl rfl (by exact aK.aF (H.l 0 rfl) (aJ.all _) (by rfl)) (by exact qE) ?_
 refine WL.mv rfl rfl ?_
 replace H := H.freeze (i := 1) rfl
 replace H := H.add (show aH _ (fun w => cX w ⟨uQ, 0, none⟩ [.pointer (some ⟨bt, 0, none⟩)]) _ from (H.bN 0 rfl : aH _ (fun w => aK w uQ 97 [.pointer (some ⟨bt, 0, none⟩)]) _).imp fun _ h => h.rd)
 refine WL.call aEt rfl (aF1 (bt := bt) (uQ := uQ) (bf := bf) (op := op) (ix := ix) (code := code) H.aS (H.o 0 rfl) (H.aL 0 rfl 0 rfl) (by exact (H.aL 0 rfl 3 rfl : aH _ (fun w => aK w bf 221 (dM op ix code)) _))) ?_
 rintro _ y8 ⟨rfl, hO, hB⟩
 replace H := H.eS 0 rfl hO hB
 refine WL.as rfl rfl (WL.nil (WE.ret ⟨[_], _, .nil _, ⟨rfl, trivial⟩, ?_⟩))
 exact ⟨rfl, H.cM, H.o 0 rfl⟩
theorem aF0 {X : Nat → Prop} {w : World} {bt uQ : Nat} {old : Value} {bf : Nat} (hX : cW X w) (eR : aK w bt 219 ([old])) (bU : aH (fun c_ => X c_ ∨ c_ = bt) (fun w => cX w ⟨uQ, 0, none⟩ [.pointer (some ⟨bt, 0, none⟩)]) w) :
  bD Tryz.prog 84 [.iface 219 (.pointer (some ⟨bf, 0, none⟩)), .iface 235 (.pointer (some ⟨bt, 0, none⟩)), (.agg [(.pointer (some ⟨3, 235, none⟩)), .pointer (some ⟨uQ, 0, none⟩), .int .u64 150].toArray), (.iface 223 (.agg [(.pointer (some ⟨3, 219, none⟩))].toArray))].toArray w fun v w' => v = .bool true ∧ Out (· = bt) w w' ∧ aK w' bt 219 [.pointer (some ⟨bf, 0, none⟩)] := by
 refine bD.aI (N := 62) Tryz.func84 rfl rfl (by simp) ?_
 have H := St.c6 (b := bt) (t := 219) (l := [old]) hX eR
 replace H := H.add (bY bU)
 refine WE.aA ?_
 refine WL.box (l := [(.pointer (some ⟨3, 235, none⟩)), .pointer (some ⟨uQ, 0, none⟩), .int .u64 150]) H rfl (by rfl) rfl ?_
 intro b6 w1 H
 refine WL.as rfl rfl (WL.nil (WE.block ?_))
 refine WE.jE 1 ?_
 refine dN.step ?_
 refine WE.block (WE.seq (WE.aA (WL.mv rfl rfl ?_)))
 refine WL.extern (e := Extern.ReflectliteType.typeOf) Tryz.func97 (by kernel_rfl) (by kernel_rfl) (by kernel_rfl) (by kernel_rfl) rfl (toF ⟨bf, 0, none⟩ _) ?_
 refine WL.mv rfl rfl ?_
 refine WL.iY (e := (Extern.ReflectliteType.relation "AssignableTo" Extern.ReflectliteType.assignableTo)) rfl (fun w => meA _ w) Tryz.func251 (by kernel_rfl) (by kernel_rfl) (by kernel_rfl) (by kernel_rfl) rfl (asF _) ?_
 refine WL.nil ?_
 refine WE.cO rfl rfl ?_
 refine WE.aA ?_
 refine WL.bG rfl uS rfl rfl (by exact aK.aF (H.l 0 rfl) (aJ.all _) (by rfl)) (by exact qE) ?_
 refine WL.extern (e := (Extern.ReflectliteValue.method (Extern.ReflectliteValue.valueError "reflectlite.Value.Elem" 0) Extern.ReflectliteValue.elem)) Tryz.func131 (by kernel_rfl) (by kernel_rfl) (by kernel_rfl) (by kernel_rfl) rfl (evF _ _ _ (by exact (by have h_ := (H.p 0 rfl : cX _ ⟨uQ, 0, none⟩ [.pointer (some ⟨bt, 0, none⟩)]) 0 _ rfl; rwa [show ((⟨uQ, 0, none⟩ : Addr).add 0) = ⟨uQ, 0, none⟩ from rfl] at h_))) ?_
 refine WL.mv rfl rfl ?_
 refine WL.vM (avs := [.iface 219 (.pointer (some ⟨bf, 0, none⟩))]) (e := (fun args => Extern.ReflectliteValue.unpack (args.getD 0 (.tuple #[])))) (rvV 219 150) [.pointer (some ⟨bf, 0, none⟩)] 219 H Tryz.func81 (by kernel_rfl) (by kernel_rfl) (by kernel_rfl) (by kernel_rfl) rfl (vwF ⟨bf, 0, none⟩ _) rfl ?_
 intro b23 w6 H
 refine WL.extern (e := Extern.ReflectliteValue.set) Tryz.func132 (by kernel_rfl) (by kernel_rfl) (by kernel_rfl) (by kernel_rfl) rfl (stF ⟨bt, 0, none⟩ ⟨b23, 0, none⟩ ⟨bf, 0, none⟩ old _ (aK.cell (H.l 0 rfl) 0) (aK.cell (H.o 0 rfl) 0) (aK.frozen (H.o 0 rfl) _ rfl)) ?_
 replace H := H.uY (i := 0) rfl (Out.set _ ⟨bt, 0, none⟩ _) (aO.blk bt 219 [.pointer (some ⟨bf, 0, none⟩)]) (aK.aCS (H.o 0 rfl)) (fun _ => Iff.rfl)
 refine WL.nil (WE.aA (WL.as rfl rfl (WL.nil (WE.ret ⟨[_], _, .nil _, ⟨rfl, trivial⟩, ?_⟩))))
 exact ⟨rfl, H.cM, H.o 0 rfl⟩
theorem aGz {X : Nat → Prop} {w : World} {bt : Nat} {old : Value} {bf : Nat} (hX : cW X w) (eR : aK w bt 219 ([old])) (bU : aH (fun c_ => X c_ ∨ c_ = bt) (eE) w) :
  bD Tryz.prog 39 [.iface 219 (.pointer (some ⟨bf, 0, none⟩)), .iface 235 (.pointer (some ⟨bt, 0, none⟩))].toArray w fun v w' => v = .bool true ∧ Out (· = bt) w w' ∧ aK w' bt 219 [.pointer (some ⟨bf, 0, none⟩)] := by
 refine bD.aI (N := 42) Tryz.func39 rfl rfl (by simp) ?_
 have H := St.c6 (b := bt) (t := 219) (l := [old]) hX eR
 replace H := H.add (bY bU)
 refine WE.aA (WL.as rfl rfl (WL.nil (WE.seq (WE.aA (WL.mv rfl rfl ?_)))))
 refine WL.pv (PV.pN rfl (by kernel_rfl) (by exact yF.of)) rfl ?_
 refine WL.nil ?_
 refine WE.bB rfl rfl ?_
 refine WE.skip (WE.seq (WE.aA (WL.mv rfl rfl ?_)))
 refine WL.pv (PV.pN rfl (by kernel_rfl) (by exact yF.of)) rfl ?_
 refine WL.nil ?_
 refine WE.bB rfl rfl ?_
 refine WE.skip (WE.aA (WL.mv rfl rfl ?_))
 refine WL.vM (avs := [.iface 235 (.pointer (some ⟨bt, 0, none⟩))]) (e := (fun args => Extern.ReflectliteValue.unpack (args.getD 0 (.tuple #[])))) (rvV 235 150) [.pointer (some ⟨bt, 0, none⟩)] 235 H Tryz.func81 (by kernel_rfl) (by kernel_rfl) (by kernel_rfl) (by kernel_rfl) rfl (voF _ _) rfl ?_
 intro uQ w2 H
 refine WL.alloc H rfl X9 rfl ?_
 intro b5 w3 H
 refine WL.aT H 0 rfl rfl rfl (new := [(.pointer (some ⟨3, 235, none⟩)), .pointer (some ⟨uQ, 0, none⟩), .int .u64 150]) rfl (by exact qE) (by exact bC _ rfl) (Laid.at (Laid.all (by simp only [aR])) (by rfl)) rfl ?_
 intro w4 H
 refine WL.nil (WE.aA ?_)
 refine WL.bG rfl uS rfl rfl (by exact aK.aF (H.l 0 rfl) (aJ.all _) (by rfl)) (by exact qE) ?_
 refine WL.extern (e := (Extern.ReflectliteValue.methodAny (Extern.ReflectliteValue.valueError "reflectlite.Value.Type" 0) (fun t _ _ _ => Extern.ReflectliteType.toType t))) Tryz.func82 (by kernel_rfl) (by kernel_rfl) (by kernel_rfl) (by kernel_rfl) rfl (tyF _ _) ?_
 refine WL.as rfl rfl (WL.nil (WE.seq (WE.aA (WL.mv rfl rfl ?_))))
 refine WL.iY (e := (Extern.ReflectliteType.abiMethod fun t => do pure (.int .u8 (← Extern.Rtype.kind t)))) rfl (fun w => meK _ w) Tryz.func237 (by kernel_rfl) (by kernel_rfl) (by kernel_rfl) (by kernel_rfl) rfl (kiF _) ?_
 refine WL.pv (PV.neq rfl rfl rfl) rfl (WL.mv rfl rfl (WL.known (t := 20) (c := false) rfl rfl ?_))
 refine WL.bG rfl uS rfl rfl (by exact aK.aF (H.l 0 rfl) (aJ.all _) (by rfl)) (by exact qE) ?_
 refine WL.extern (e := (Extern.ReflectliteValue.method (Extern.ReflectliteValue.valueError "reflectlite.Value.IsNil" 0) Extern.ReflectliteValue.isNil)) Tryz.func83 (by kernel_rfl) (by kernel_rfl) (by kernel_rfl) (by kernel_rfl) rfl (niF _ ⟨bt, 0, none⟩ _ (by exact aK.cell (H.l 1 rfl) 0)) ?_
 refine WL.pv (PV.c5 rfl rfl rfl) rfl (WL.nil ?_)
 refine WE.bB rfl rfl ?_
 refine WE.skip (WE.aA (WL.mv rfl rfl ?_))
 refine WL.iY (e := (Extern.ReflectliteType.method Extern.ReflectliteType.elem)) rfl (fun w => meE _ w) Tryz.func253 (by kernel_rfl) (by kernel_rfl) (by kernel_rfl) (by kernel_rfl) rfl (elF _) ?_
 refine WL.as rfl rfl (WL.nil (WE.seq (WE.aA (WL.mv rfl rfl ?_))))
 refine WL.iY (e := (Extern.ReflectliteType.abiMethod fun t => do pure (.int .u8 (← Extern.Rtype.kind t)))) rfl (fun w => meK _ w) Tryz.func237 (by kernel_rfl) (by kernel_rfl) (by kernel_rfl) (by kernel_rfl) rfl (kjF _) ?_
 refine WL.pv (PV.neq rfl rfl rfl) rfl (WL.mv rfl rfl (WL.known (t := 30) (c := true) rfl rfl (WL.mv rfl rfl (WL.aZ rfl aAe rfl rfl ((H.p 0 rfl : eE _)) ?_))))
 refine WL.iY (e := (Extern.ReflectliteType.relation "Implements" Extern.ReflectliteType.implements_)) rfl (fun w => meI _ w) Tryz.func254 (by kernel_rfl) (by kernel_rfl) (by kernel_rfl) (by kernel_rfl) rfl (imF _) ?_
 refine WL.pv (PV.not rfl rfl) rfl (WL.pv (PV.dH rfl rfl rfl) rfl (WL.nil ?_))
 refine WE.bB rfl rfl ?_
 refine WE.skip (WE.aA (WL.mv rfl rfl (WL.mv rfl rfl ?_)))
 refine WL.bG rfl uS rfl rfl (by exact aK.aF (H.l 0 rfl) (aJ.all _) (by rfl)) (by exact qE) ?_
 refine WL.mv rfl rfl ?_
 replace H := H.freeze (i := 1) rfl
 replace H := H.add (show aH _ (fun w => cX w ⟨uQ, 0, none⟩ [.pointer (some ⟨bt, 0, none⟩)]) _ from (H.bN 0 rfl : aH _ (fun w => aK w uQ 235 [.pointer (some ⟨bt, 0, none⟩)]) _).imp fun _ h => h.rd)
 refine WL.call aEt rfl (aF0 (bt := bt) (uQ := uQ) (bf := bf) H.aS (H.o 0 rfl) (H.aL 0 rfl 0 rfl)) ?_
 rintro _ y8 ⟨rfl, hO, hB⟩
 replace H := H.eS 0 rfl hO hB
 refine WL.as rfl rfl (WL.nil (WE.ret ⟨[_], _, .nil _, ⟨rfl, trivial⟩, ?_⟩))
 exact ⟨rfl, H.cM, H.o 0 rfl⟩
theorem X0 {X : Nat → Prop} {w : World} {bf : Nat} {op : List UInt8} {ix code : Int} (hX : cW X w) (bU : aH X (eE) w) (dA : aH X (fun w => aK w bf 221 (dM op ix code)) w) :
  bD Tryz.prog 85 [.iface 219 (.pointer (some ⟨bf, 0, none⟩))].toArray w fun v w' => v = .tuple [o7 op, .int .i64 ix, .bool true].toArray ∧ Out Nil w w' := by
 refine bD.aI (N := 18) Tryz.func85 rfl rfl (by simp) ?_
 have H := St.begin hX
 replace H := H.add (cF dA)
 replace H := H.add (cF bU)
 refine WE.aA (WL.as rfl rfl (WL.as rfl rfl (WL.as rfl rfl (WL.nil (WE.aA ?_)))))
 refine WL.alloc H rfl aCo rfl ?_
 intro b5 w1 H
 refine WL.nil (WE.seq (WE.aA (WL.mv rfl rfl (WL.pv (PV.kR rfl (by kernel_rfl)) rfl ?_))))
 refine WL.call aBz rfl (aGz (bt := b5) (bf := bf) H.aS (H.l 0 rfl) (by exact (H.eX 0 rfl 0 rfl : aH _ (eE) _))) ?_
 rintro _ w2 ⟨rfl, hO, hB⟩
 replace H := H.called 0 rfl hO hB
 refine WL.pv (PV.not rfl rfl) rfl (WL.nil ?_)
 refine WE.bB rfl rfl ?_
 refine WE.skip ?_
 refine WE.bF (.take 0 (.take 1 (.take 2 (.take 3 (.take 4 (.take 5 (.take 6 (.take 7 (.take 8 (.take 9 (.take 10 .done))))))))))) mixed (by kernel_rfl) ?_
 replace H := H.out (Out.drew _)
 refine WP.aQ rfl rfl (RV.aY rfl aAd rfl) (by exact aK.aF (H.l 0 rfl) (aJ.all _) (by rfl)) ?_
 refine WP.aC rfl rfl (PV.nilCheck rfl rfl) (WP.aC rfl rfl (PV.fieldAddr rfl JO rfl) ?_)
 refine WP.aQ rfl rfl (RV.aY rfl ag9 rfl) ((dM.rd0 (by exact (H.p 1 rfl : aK _ bf 221 (dM op ix code))))) ?_
 refine WP.aQ rfl rfl (RV.aY rfl aAd rfl) (by exact aK.aF (H.l 0 rfl) (aJ.all _) (by rfl)) ?_
 refine WP.aC rfl rfl (PV.nilCheck rfl rfl) (WP.aC rfl rfl (PV.fieldAddr rfl V5 rfl) ?_)
 refine WP.aQ rfl rfl (RV.aY rfl oZ rfl) ((dM.rd1 (by exact (H.p 1 rfl : aK _ bf 221 (dM op ix code))))) ?_
 refine WP.as rfl rfl rfl (WP.as rfl rfl rfl (WP.as rfl rfl rfl (WP.done (WE.ret ⟨[_, _, _], _, .nil _, ⟨rfl, rfl, rfl, trivial⟩, ?_⟩))))
 exact ⟨rfl, H.aM⟩
theorem aCb {X : Nat → Prop} {w : World} {bf : Nat} {op : List UInt8} {ix code : Int} (hX : cW X w) (bU : aH X (eE) w) (dA : aH X (fun w => aK w bf 221 (dM op ix code)) w) :
  bD Tryz.prog 86 [.iface 219 (.pointer (some ⟨bf, 0, none⟩))].toArray w fun v w' => v = .int .i64 code ∧ Out Nil w w' := by
 refine bD.aI (N := 12) Tryz.func86 rfl rfl (by simp) ?_
 have H := St.begin hX
 replace H := H.add (cF dA)
 replace H := H.add (cF bU)
 refine WE.aA (WL.as rfl rfl (WL.nil (WE.aA ?_)))
 refine WL.alloc H rfl aCh rfl ?_
 intro b3 w1 H
 refine WL.nil (WE.seq (WE.block (WE.aA (WL.mv rfl rfl ?_))))
 refine WL.pv (PV.pN rfl (by kernel_rfl) (by exact yF.of)) rfl ?_
 refine WL.as rfl rfl (WL.nil ?_)
 refine WE.bB rfl rfl ?_
 refine WE.aA (WL.mv rfl rfl (WL.pv (PV.kR rfl (by kernel_rfl)) rfl ?_))
 refine WL.call aBz rfl (aAl (bt := b3) (bf := bf) (op := op) (ix := ix) (code := code) H.aS (H.l 0 rfl) (by exact (H.eX 0 rfl 0 rfl : aH _ (eE) _)) (by exact (H.eX 0 rfl 1 rfl : aH _ (fun w => aK w bf 221 (dM op ix code)) _))) ?_
 rintro _ w2 ⟨rfl, hO, hB⟩
 replace H := H.called 0 rfl hO hB
 refine WL.as rfl rfl (WL.nil ?_)
 refine WE.cO rfl rfl ?_
 refine WE.aA ?_
 refine WL.aZ rfl aBO rfl rfl (by exact aK.aF (H.l 0 rfl) (aJ.all _) (by rfl)) ?_
 refine WL.as rfl rfl (WL.nil (WE.ret ⟨[_], _, .nil _, ⟨rfl, trivial⟩, ?_⟩))
 exact ⟨rfl, H.aM⟩
theorem aGm {X : Nat → Prop} {w : World} {bf : Nat} {op : List UInt8} {ix code : Int} (hX : cW X w) (bU : aH X (fun w => aK w bf 221 (dM op ix code)) w) :
  bD Tryz.prog 87 [.iface 219 (.pointer (some ⟨bf, 0, none⟩))].toArray w fun v w' => Out Nil w w' ∧ aH X (fun w => cS w v 1 1 [o7 op]) w' := by
 refine bD.aI (N := 25) Tryz.func87 rfl rfl (by simp) ?_
 have H := St.begin hX
 replace H := H.add (cF bU)
 refine WE.aA (WL.as rfl rfl (WL.nil (WE.aA (WL.as rfl rfl (WL.nil (WE.block ?_))))))
 replace H := H.lG 9 1
 refine WE.jE 2 ?_
 refine dN.step ?_
 refine WE.block (WE.aA (WL.mv rfl rfl (WL.pv (PV.AN (z := .pointer none) rfl (by kernel_rfl) (by kernel_rfl) rfl) rfl (WL.mv rfl rfl (WL.pv (PV.extract rfl rfl rfl) rfl (WL.pv (PV.extract rfl rfl rfl) rfl (WL.as rfl rfl ?_)))))))
 refine WL.as rfl rfl (WL.nil (WE.seq (WE.aA (WL.mv rfl rfl (WL.pv (PV.not rfl rfl) rfl (WL.nil ?_))))))
 refine WE.bB rfl rfl ?_
 refine WE.skip (WE.aA (WL.mv rfl rfl (WL.mv rfl rfl (WL.pv (PV.nilCheck rfl rfl) rfl (WL.pv (PV.fieldAddr rfl JO rfl) rfl ?_)))))
 refine WL.aZ rfl ag9 rfl rfl ((dM.rd0 (by exact (H.p 0 rfl : aK _ bf 221 (dM op ix code))))) ?_
 refine WL.bJ (l0 := [.string ⟨#[]⟩]) H rfl YJ (by decide) (dG _ _) (Fl.cons rfl (rfl) (by simp only [aR]) Laid.head Fl.nil) rfl ?_
 intro b19 w1 H
 refine WL.append (m := 1) H 1 YJ (by decide) rfl rfl rfl (cS.cA (n := 1) (H.l 0 rfl) rfl) (bC _ rfl) (by omega) (by decide) rfl ?_
 intro v20 w2 H
 replace H := H.forget 0
 refine WL.as rfl rfl (WL.nil (WE.eM (WL.mv rfl rfl (WL.pv (PV.nilCheck rfl rfl) rfl (WL.pv (PV.fieldAddr rfl JN rfl) rfl ?_)))))
 refine WL.aZ rfl aF8 rfl rfl ((dM.rd2 (by exact (H.p 0 rfl : aK _ bf 221 (dM op ix code))))) ?_
 refine WL.as rfl rfl (WL.nil ?_)
 refine dN.step ?_
 refine WE.block (WE.aA (WL.mv rfl rfl (WL.pv (PV.AN (z := .pointer none) rfl (by kernel_rfl) (by kernel_rfl) rfl) rfl (WL.mv rfl rfl (WL.pv (PV.extract rfl rfl rfl) rfl (WL.pv (PV.extract rfl rfl rfl) rfl (WL.as rfl rfl ?_)))))))
 refine WL.as rfl rfl (WL.nil (WE.seq (WE.aA (WL.mv rfl rfl (WL.pv (PV.not rfl rfl) rfl (WL.nil ?_))))))
 refine WE.cO rfl rfl ?_
 refine WE.aA (WL.mv rfl rfl (WL.as rfl rfl (WL.nil (WE.ret ⟨[_], _, .nil _, ⟨rfl, trivial⟩, ?_⟩))))
 replace H := H.freeze (i := 0) rfl
 exact ⟨H.aM, H.gU ((H.bN 0 rfl).imp fun _ h => cS.eH h)⟩
theorem NO {X : Nat → Prop} {w : World} {op : List UInt8} {ix : Int} (hX : cW X w) :
  bD Tryz.prog 43 [.nilIface, o7 op, .int .i64 ix, .int .i64 0].toArray w fun v w' => v = .bool false ∧ Out Nil w w' := by
 refine bD.aI (N := 50) Tryz.func43 rfl rfl (by simp) ?_
 have H := St.begin hX
 refine WE.aA (WL.as rfl rfl (WL.nil (WE.seq (WE.aA (WL.mv rfl rfl (WL.pv (PV.eql rfl rfl rfl) rfl (WL.nil ?_)))))))
 refine WE.cO rfl rfl ?_
 refine WE.aA (WL.mv rfl rfl ?_)
 refine WL.pv (PV.zL rfl (by kernel_rfl) (by exact yF.nil)) rfl ?_
 refine WL.as rfl rfl (WL.nil (WE.ret ⟨[_], _, .nil _, ⟨rfl, trivial⟩, ?_⟩))
 exact ⟨rfl, H.aM⟩
theorem NN {X : Nat → Prop} {w : World} {bf : Nat} {op : List UInt8} {ix code : Int} (hX : cW X w) (bU : aH X (eE) w) (dA : aH X (fun w => aK w bf 221 (dM op ix code)) w) (hz : code ≠ 0) :
  bD Tryz.prog 43 [.iface 219 (.pointer (some ⟨bf, 0, none⟩)), o7 op, .int .i64 ix, .int .i64 code].toArray w fun v w' => v = .bool false ∧ Out Nil w w' := by
 refine bD.aI (N := 50) Tryz.func43 rfl rfl (by simp) ?_
 have H := St.begin hX
 replace H := H.add (cF dA)
 replace H := H.add (cF bU)
 refine WE.aA (WL.as rfl rfl (WL.nil (WE.seq (WE.aA (WL.mv rfl rfl (WL.pv (PV.eql rfl rfl rfl) rfl (WL.nil ?_)))))))
 refine WE.bB rfl (by simp [hz]) ?_
 refine WE.skip (WE.aA (WL.mv rfl rfl ?_))
 refine WL.call aHW rfl (X0 (bf := bf) (op := op) (ix := ix) (code := code) H.aS (by exact (H.bN 0 rfl : aH _ (eE) _)) (by exact (H.bN 1 rfl : aH _ (fun w => aK w bf 221 (dM op ix code)) _))) ?_
 rintro _ w1 ⟨rfl, hO⟩
 replace H := H.out hO
 refine WL.mv rfl rfl (WL.pv (PV.extract rfl rfl rfl) rfl (WL.pv (PV.extract rfl rfl rfl) rfl (WL.pv (PV.extract rfl rfl rfl) rfl (WL.as rfl rfl (WL.as rfl rfl (WL.as rfl rfl (WL.nil ?_)))))))
 refine WE.aA (WL.mv rfl rfl ?_)
 refine WL.pv (PV.pN rfl (by kernel_rfl) (by exact yF.of)) rfl ?_
 refine WL.mv rfl rfl ?_
 refine WL.known (t := 24) (c := false) rfl (by rfl) ?_
 refine WL.mv rfl rfl ?_
 refine WL.call aHV rfl (aCb (bf := bf) (op := op) (ix := ix) (code := code) H.aS (by exact (H.bN 0 rfl : aH _ (eE) _)) (by exact (H.bN 1 rfl : aH _ (fun w => aK w bf 221 (dM op ix code)) _))) ?_
 rintro _ w2 ⟨rfl, hO⟩
 replace H := H.out hO
 refine WL.mv rfl rfl (WL.pv (PV.neq rfl rfl rfl) rfl (WL.pv (PV.c5 rfl rfl rfl) rfl (WL.mv rfl rfl ?_)))
 refine WL.known (t := 30) (c := false) rfl (by (simp; done)) ?_
 refine WL.mv rfl rfl (WL.mv rfl rfl (WL.pv (PV.aAQ rfl rfl rfl) rfl (WL.pv (PV.c5 rfl rfl rfl) rfl (WL.mv rfl rfl ?_))))
 refine WL.known (t := 35) (c := false) rfl (by (simp; done)) ?_
 refine WL.mv rfl rfl (WL.mv rfl rfl (WL.pv (PV.neq rfl rfl rfl) rfl (WL.pv (PV.c5 rfl rfl rfl) rfl (WL.mv rfl rfl ?_))))
 refine WL.known (t := 40) (c := false) rfl (by (simp; done)) ?_
 refine WL.mv rfl rfl (WL.pv (PV.not rfl rfl) rfl (WL.pv (PV.c5 rfl rfl rfl) rfl (WL.mv rfl rfl ?_)))
 refine WL.known (t := 44) (c := false) rfl (by rfl) ?_
 refine WL.mv rfl rfl ?_
 refine WL.call aHU rfl (aGm (bf := bf) (op := op) (ix := ix) (code := code) H.aS (by exact (H.bN 1 rfl : aH _ (fun w => aK w bf 221 (dM op ix code)) _))) ?_
 rintro v46 w3 ⟨hO, hR⟩
 replace H := (H.out hO).add (show aH _ (fun w => cS w v46 1 1 [o7 op]) _ from hR)
 refine WL.pv (PV.dO (H.p 0 rfl : cS _ v46 1 1 [o7 op]) YL rfl) rfl (WL.pv (PV.neq rfl rfl rfl) rfl (WL.pv (PV.c5 rfl rfl rfl) rfl (WL.as rfl rfl (WL.nil (WE.ret ⟨[_], _, .nil _, ⟨rfl, trivial⟩, ?_⟩)))))
 refine ⟨?_, H.aM⟩
 rfl
theorem u7 {X : Nat → Prop} {w : World} {op : List UInt8} {ix code : Int} {ev : Value} (hX : cW X w) (h0 : aH X eE w) (h1 : aH X (e8 op ix code ev) w) :
  bD Tryz.prog 43 [ev, o7 op, .int .i64 ix, .int .i64 code].toArray w fun v w' => v = .bool false ∧ Out Nil w w' := by
 rcases h1.here with ⟨rfl, rfl⟩ | ⟨hz, bf, rfl, _⟩
 ·
  exact NO hX
 ·
  refine NN (bf := bf) hX h0 (h1.imp fun w_ h => ?_) hz
  rcases h with ⟨h2, _⟩ | ⟨_, b2, h3, h4⟩
  ·
   exact absurd h2 hz
  ·
   injection h3 with _ h5
   injection h5 with h6
   injection h6 with h7
   injection h7 with h8
   rw [h8]; exact h4
def gM : List Value := [vH 121, vH 123, vH 124, vH 125, vH 127, vH 129]
theorem mR {v : Value} {w : World} (h : cS w v 1 6 gM) (i : Nat) (hi : i < 6) : cX w (jD v (i * 1)) [gM[i]'hi] := by
 have h2 := cS.rd h i hi
 rw [Nat.mul_one] at h2 ⊢
 have e : (gM.drop i).take 1 = [gM[i]'hi] := by rw [List.drop_eq_getElem_cons (show i < gM.length from hi)]; rfl
 rw [e] at h2; exact h2
theorem e8.fault {X : Nat → Prop} {w : World} {op : List UInt8} {ix code : Int} {v : Value} (h : aH X (e8 op ix code v) w) (hz : code ≠ 0) : ∃ bf, v = .iface 219 (.pointer (some ⟨bf, 0, none⟩)) ∧ aH X (fun w => aK w bf 221 (dM op ix code)) w := by
 rcases h.here with ⟨h1, _⟩ | ⟨_, bf, rfl, _⟩
 ·
  exact absurd h1 hz
 ·
  refine ⟨bf, rfl, h.imp fun w_ h => ?_⟩
  rcases h with ⟨h2, _⟩ | ⟨_, b2, h3, h4⟩
  ·
   exact absurd h2 hz
  ·
   injection h3 with _ h5
   injection h5 with h6
   injection h6 with h7
   injection h7 with h8
   rw [h8]; exact h4
theorem e8.none {X : Nat → Prop} {w : World} {op : List UInt8} {ix code : Int} {v : Value} (h : aH X (e8 op ix code v) w) (hz : code = 0) : v = .nilIface := by
 rcases h.here with ⟨_, h1⟩ | ⟨h1, _⟩
 ·
  exact h1
 ·
  exact absurd hz h1
theorem UE {X : Nat → Prop} {w : World}  (hX : cW X w) :
  bD Tryz.prog 79 [].toArray w fun v w' => Out Nil w w' ∧ aH X (fun w => cS w v 1 6 gM) w' := by
 refine bD.aI (N := 8) Tryz.func79 rfl rfl (by decide +revert) ?_
 have H := St.begin hX
 refine WE.aA (WL.as rfl rfl (WL.nil (WE.aA ?_)))
 refine WL.pv (PV.dD rfl zG mP (Fl.cons rfl (by rfl) (by simp only [aR, aU, aB, aD]) Laid.head Fl.nil)) rfl ?_
 refine WL.pv (PV.dD rfl zG mP (Fl.cons rfl (by rfl) (by simp only [aR, aU, aB, aD]) Laid.head Fl.nil)) rfl ?_
 refine WL.pv (PV.dD rfl zG mP (Fl.cons rfl (by rfl) (by simp only [aR, aU, aB, aD]) Laid.head Fl.nil)) rfl ?_
 refine WL.pv (PV.dD rfl zG mP (Fl.cons rfl (by rfl) (by simp only [aR, aU, aB, aD]) Laid.head Fl.nil)) rfl ?_
 refine WL.pv (PV.dD rfl zG mP (Fl.cons rfl (by rfl) (by simp only [aR, aU, aB, aD]) Laid.head Fl.nil)) rfl ?_
 refine WL.pv (PV.dD rfl zG mP (Fl.cons rfl (by rfl) (by simp only [aR, aU, aB, aD]) Laid.head Fl.nil)) rfl ?_
 refine WL.bJ (l0 := [.nilFunc, .nilFunc, .nilFunc, .nilFunc, .nilFunc, .nilFunc]) H rfl aCN (by decide) (dG _ _) (Fl.cons rfl (rfl) (by simp only [aR, aU, aB, aD]) Laid.head (Fl.cons rfl (rfl) (by simp only [aR, aU, aB, aD]) (Laid.tail Laid.head rfl) (Fl.cons rfl (rfl) (by simp only [aR, aU, aB, aD]) (Laid.tail (Laid.tail Laid.head rfl) rfl) (Fl.cons rfl (rfl) (by simp only [aR, aU, aB, aD]) (Laid.tail (Laid.tail (Laid.tail Laid.head rfl) rfl) rfl) (Fl.cons rfl (rfl) (by simp only [aR, aU, aB, aD]) (Laid.tail (Laid.tail (Laid.tail (Laid.tail Laid.head rfl) rfl) rfl) rfl) (Fl.cons rfl (rfl) (by simp only [aR, aU, aB, aD]) (Laid.tail (Laid.tail (Laid.tail (Laid.tail (Laid.tail Laid.head rfl) rfl) rfl) rfl) rfl) Fl.nil)))))) rfl ?_
 intro b7 w1 H
 refine WL.as rfl rfl (WL.nil (WE.ret ⟨[_], _, .nil _, ⟨rfl, trivial⟩, ?_⟩))
 replace H := H.freeze (i := 0) rfl
 exact ⟨H.aM, H.gU ((H.bN 0 rfl).imp fun _ h => cS.cA (n := 6) h rfl)⟩
theorem SI {X : Nat → Prop} {w : World} {bh bc : Nat} {bits n0 : Int} {sr sk sv se : Value} {pr : Bool} {k vv rb : List UInt8} {kd dp : Nat} {lk lv B : List UInt8} {sb : List (List UInt8)} (hX : cW X w) (eR : aK w bc 213 ([.int .i64 n0])) (bU : aH (fun c_ => X c_ ∨ c_ = bc) (fJ bh bc bits) w) (dA : aH (fun c_ => X c_ ∨ c_ = bc) (bI sr rb) w) (fO : aH (fun c_ => X c_ ∨ c_ = bc) (bI sk k) w) (jM : aH (fun c_ => X c_ ∨ c_ = bc) (bI sv vv) w) (oC : aH (fun c_ => X c_ ∨ c_ = bc) (bI se (fA kd dp lk lv B sb)) w) (sU : aH (fun c_ => X c_ ∨ c_ = bc) (aW) w) (bS : 0 ≤ bits ∧ bits ≤ 256) (hp : iG kd dp lk lv B sb) (hk : k.length = 32) (hr : rb.length = 32) (hv : vv.length ≤ 65535) (tL : uT kd dp lk lv k (mQ bits vv) pr) :
  bD Tryz.prog 38 [.pointer (some ⟨bh, 0, none⟩), sr, .agg [sk, sv, .bool pr].toArray, se].toArray w fun v w' => ∃ (m : Int), Out (· = bc) w w' ∧ aK w' bc 213 [.int .i64 m] ∧ aH (fun c => X c ∨ c = bc) (e8 [118, 101, 114, 105, 102, 121] 5 (if (eW bits k (fN bits dp B sb) (dS (cR (dY kd lk lv)) bits) dp) = rb then (0 : Int) else 13) v) w' := by
 refine bD.aI (N := 37) Tryz.func38 rfl rfl (by simp) ?_
 have H := St.c6 (b := bc) (t := 213) (l := [.int .i64 n0]) hX eR
 replace H := H.add (bY sU)
 replace H := H.add (bY oC)
 replace H := H.add (bY jM)
 replace H := H.add (bY fO)
 replace H := H.add (bY dA)
 replace H := H.add (bY bU)
 have PX : sr.oneCell' = true := cS.fG (dA.here)
 have vF : sk.oneCell' = true := cS.fG (fO.here)
 have hv1 : sv.oneCell' = true := cS.fG (jM.here)
 have he1 : se.oneCell' = true := cS.fG (oC.here)
 have hpz : eC TH := bO (bC _ rfl) (bO (bC _ rfl) (bO (bO (bK _) (bK _)) (bO (bK _) (bC _ rfl))))
 obtain ⟨cd, BP⟩ : ∃ cd : Int, cd = (if (eW bits k (fN bits dp B sb) (dS (cR (dY kd lk lv)) bits) dp) = rb then (0 : Int) else 13) := ⟨_, rfl⟩
 refine WE.aA ?_
 refine WL.box (l := [sk, sv, .bool pr]) H rfl (rfl) rfl ?_
 intro b6 w1 H
 refine WL.as rfl rfl (WL.nil (WE.aA (WL.mv rfl rfl (WL.mv rfl rfl ?_))))
 refine WL.bG rfl aBN rfl rfl (by exact aK.aF (H.l 0 rfl) (aJ.all _) (by rfl)) (by exact T9) ?_
 refine WL.mv rfl rfl ?_
 refine WL.pv (PV.dD rfl aC7 aCr (Fl.cons rfl (rfl) (by simp only [aR, aU, aB, aD]) (Laid.left (Laid.all (by simp only [aR, aU, aB, aD]))) (Fl.cons rfl (cells_one PX) (by simp only [aR, aU, aB, aD]) (Laid.right (Laid.left (Laid.all (by simp only [aR, aU, aB, aD]))) (by simp only [aR, aU, aB, aD])) (Fl.cons rfl (rfl) (by simp only [aR, aU, aB, aD]) (Laid.right (Laid.right (Laid.left (Laid.all (by simp only [aR, aU, aB, aD]))) (by with_reducible rfl)) (by simp only [aR, aU, aB, aD])) (Fl.cons rfl (cells_one he1) (by simp only [aR, aU, aB, aD]) (Laid.right (Laid.right (Laid.right (Laid.left (Laid.all (by simp only [aR, aU, aB, aD]))) (by with_reducible rfl)) (by with_reducible rfl)) (by simp only [aR, aU, aB, aD])) Fl.nil))))) rfl ?_
 refine WL.box (l := G0 bh sr sk sv pr se TH) H rfl (by rfl) rfl ?_
 intro R5 w2 H
 refine WL.as rfl rfl (WL.nil (WE.seq (WE.aA ?_)))
 refine WL.call aHX rfl (UE H.aS) ?_
 rintro IF w3 ⟨hO, hR⟩
 replace H := (H.out hO).add (show aH _ (fun w => cS w IF 1 6 gM) _ from hR)
 refine WL.pv (PV.dO (by exact (H.p 0 rfl : ((fun w => cS w IF 1 6 gM)) _)) uG rfl) rfl ?_
 refine WL.mv rfl rfl (WL.nil (WE.block ?_))
 refine WE.jE 7 ?_
 refine dN.step ?_
 refine WE.aA (WL.pv (PV.lss rfl rfl rfl) rfl (WL.nil (WE.seq ?_)))
 refine WE.cO rfl rfl ?_
 refine WE.skip (WE.seq (WE.block (WE.aA (WL.mv rfl rfl ?_))))
 refine WL.pv (by exact PV.eQ (i := 0) rfl (by exact (H.p 0 rfl : ((fun w => cS w IF 1 6 gM)) _)) uG jN rfl rfl (by omega) (by decide)) rfl ?_
 refine WL.bG rfl AQ rfl rfl (by exact mR (by exact (H.p 0 rfl : ((fun w => cS w IF 1 6 gM)) _)) 0 (by decide)) (by exact jN) ?_
 refine WL.alloc H rfl mP rfl ?_
 intro XC w4 H
 refine WL.as rfl rfl ?_
 refine WL.aT H 0 rfl rfl rfl (new := _) rfl (by exact jN) (bC _ rfl) (Laid.at (Laid.all (by simp only [aR, aU, aB, aD])) (by rfl)) rfl ?_
 intro w5 H
 refine WL.nil (WE.aA (WL.pv (PV.fieldAddr rfl pZ rfl) rfl ?_))
 refine WL.aZ rfl AR rfl rfl (by exact aK.aF (H.l 0 rfl) aJ.hd (by rfl)) ?_
 refine WL.mv rfl rfl ?_
 (refine WL.iK rfl rfl (eU.iV (fs := []) (cs := []) aFw (aCM (X := Nil) (bk := R5) (bh := bh) (sr := sr) (sk := sk) (sv := sv) (se := se) (pr := pr) (pf := TH) (rb := rb) (fun _ h => h.elim) (by exact H.UN 1 rfl) (by exact (H.bN 2 rfl : aH _ (bI sr rb) _).nil) hr)) ?_; rintro _ w6 ⟨rfl, hO⟩; replace H := H.out hO)
 refine WL.as rfl rfl (WL.nil (WE.aA (WL.mv rfl rfl (WL.pv (PV.neq rfl rfl rfl) rfl (WL.nil ?_)))))
 refine WE.bB rfl rfl ?_
 refine WE.skip (WE.eM (WL.pv (PV.bZ rfl rfl rfl (by omega) (by omega)) rfl (WL.mv rfl rfl (WL.nil ?_))))
 replace H := H.forget 0
 refine dN.step ?_
 refine WE.aA (WL.pv (PV.lss rfl rfl rfl) rfl (WL.nil (WE.seq ?_)))
 refine WE.cO rfl rfl ?_
 refine WE.skip (WE.seq (WE.block (WE.aA (WL.mv rfl rfl ?_))))
 refine WL.pv (by exact PV.eQ (i := 1) rfl (by exact (H.p 0 rfl : ((fun w => cS w IF 1 6 gM)) _)) uG jN rfl rfl (by omega) (by decide)) rfl ?_
 refine WL.bG rfl AQ rfl rfl (by exact mR (by exact (H.p 0 rfl : ((fun w => cS w IF 1 6 gM)) _)) 1 (by decide)) (by exact jN) ?_
 refine WL.alloc H rfl mP rfl ?_
 intro XC w7 H
 refine WL.as rfl rfl ?_
 refine WL.aT H 0 rfl rfl rfl (new := _) rfl (by exact jN) (bC _ rfl) (Laid.at (Laid.all (by simp only [aR, aU, aB, aD])) (by rfl)) rfl ?_
 intro w8 H
 refine WL.nil (WE.aA (WL.pv (PV.fieldAddr rfl pZ rfl) rfl ?_))
 refine WL.aZ rfl AR rfl rfl (by exact aK.aF (H.l 0 rfl) aJ.hd (by rfl)) ?_
 refine WL.mv rfl rfl ?_
 (refine WL.iK rfl rfl (eU.iV (fs := []) (cs := []) aFv (aCK (X := Nil) (bk := R5) (bh := bh) (sr := sr) (sk := sk) (sv := sv) (se := se) (pr := pr) (pf := TH) (k := k) (fun _ h => h.elim) (by exact H.UN 1 rfl) (by exact (H.bN 3 rfl : aH _ (bI sk k) _).nil) hk)) ?_; rintro _ w9 ⟨rfl, hO⟩; replace H := H.out hO)
 refine WL.as rfl rfl (WL.nil (WE.aA (WL.mv rfl rfl (WL.pv (PV.neq rfl rfl rfl) rfl (WL.nil ?_)))))
 refine WE.bB rfl rfl ?_
 refine WE.skip (WE.eM (WL.pv (PV.bZ rfl rfl rfl (by omega) (by omega)) rfl (WL.mv rfl rfl (WL.nil ?_))))
 replace H := H.forget 0
 refine dN.step ?_
 refine WE.aA (WL.pv (PV.lss rfl rfl rfl) rfl (WL.nil (WE.seq ?_)))
 refine WE.cO rfl rfl ?_
 refine WE.skip (WE.seq (WE.block (WE.aA (WL.mv rfl rfl ?_))))
 refine WL.pv (by exact PV.eQ (i := 2) rfl (by exact (H.p 0 rfl : ((fun w => cS w IF 1 6 gM)) _)) uG jN rfl rfl (by omega) (by decide)) rfl ?_
 refine WL.bG rfl AQ rfl rfl (by exact mR (by exact (H.p 0 rfl : ((fun w => cS w IF 1 6 gM)) _)) 2 (by decide)) (by exact jN) ?_
 refine WL.alloc H rfl mP rfl ?_
 intro XC vT H
 refine WL.as rfl rfl ?_
 refine WL.aT H 0 rfl rfl rfl (new := _) rfl (by exact jN) (bC _ rfl) (Laid.at (Laid.all (by simp only [aR, aU, aB, aD])) (by rfl)) rfl ?_
 intro y8 H
 refine WL.nil (WE.aA (WL.pv (PV.fieldAddr rfl pZ rfl) rfl ?_))
 refine WL.aZ rfl AR rfl rfl (by exact aK.aF (H.l 0 rfl) aJ.hd (by rfl)) ?_
 refine WL.mv rfl rfl ?_
 (refine WL.iK rfl rfl (eU.iV (fs := []) (cs := []) aFu (aCJ (X := Nil) (bk := R5) (bh := bh) (sr := sr) (sk := sk) (sv := sv) (se := se) (pr := pr) (pf := TH) (vv := vv) (fun _ h => h.elim) (by exact H.UN 1 rfl) (by exact (H.bN 4 rfl : aH _ (bI sv vv) _).nil) hv)) ?_; rintro _ IE ⟨rfl, hO⟩; replace H := H.out hO)
 refine WL.as rfl rfl (WL.nil (WE.aA (WL.mv rfl rfl (WL.pv (PV.neq rfl rfl rfl) rfl (WL.nil ?_)))))
 refine WE.bB rfl rfl ?_
 refine WE.skip (WE.eM (WL.pv (PV.bZ rfl rfl rfl (by omega) (by omega)) rfl (WL.mv rfl rfl (WL.nil ?_))))
 replace H := H.forget 0
 refine dN.step ?_
 refine WE.aA (WL.pv (PV.lss rfl rfl rfl) rfl (WL.nil (WE.seq ?_)))
 refine WE.cO rfl rfl ?_
 refine WE.skip (WE.seq (WE.block (WE.aA (WL.mv rfl rfl ?_))))
 refine WL.pv (by exact PV.eQ (i := 3) rfl (by exact (H.p 0 rfl : ((fun w => cS w IF 1 6 gM)) _)) uG jN rfl rfl (by omega) (by decide)) rfl ?_
 refine WL.bG rfl AQ rfl rfl (by exact mR (by exact (H.p 0 rfl : ((fun w => cS w IF 1 6 gM)) _)) 3 (by decide)) (by exact jN) ?_
 refine WL.alloc H rfl mP rfl ?_
 intro XC FI H
 refine WL.as rfl rfl ?_
 refine WL.aT H 0 rfl rfl rfl (new := _) rfl (by exact jN) (bC _ rfl) (Laid.at (Laid.all (by simp only [aR, aU, aB, aD])) (by rfl)) rfl ?_
 intro KT H
 refine WL.nil (WE.aA (WL.pv (PV.fieldAddr rfl pZ rfl) rfl ?_))
 refine WL.aZ rfl AR rfl rfl (by exact aK.aF (H.l 0 rfl) aJ.hd (by rfl)) ?_
 refine WL.mv rfl rfl ?_
 (refine WL.iK rfl rfl (eU.iV (fs := []) (cs := []) aFt (aCI (bk := R5) (bh := bh) (sr := sr) (sk := sk) (sv := sv) (se := se) (pr := pr) (kd := kd) (dp := dp) (lk := lk) (lv := lv) (B := B) (sb := sb) H.aS (H.l 1 rfl) (by exact (H.eX 1 rfl 5 rfl : aH _ (bI se (fA kd dp lk lv B sb)) _)) hp)) ?_; rintro _ NR ⟨slx, rfl, aJc, hO, hB, hR⟩; replace H := H.jT 1 rfl hO hB hR; replace H := H.freeze (i := 1) rfl)
 refine WL.as rfl rfl (WL.nil (WE.aA (WL.mv rfl rfl (WL.pv (PV.neq rfl rfl rfl) rfl (WL.nil ?_)))))
 refine WE.bB rfl rfl ?_
 refine WE.skip (WE.eM (WL.pv (PV.bZ rfl rfl rfl (by omega) (by omega)) rfl (WL.mv rfl rfl (WL.nil ?_))))
 replace H := H.forget 0
 refine dN.step ?_
 refine WE.aA (WL.pv (PV.lss rfl rfl rfl) rfl (WL.nil (WE.seq ?_)))
 refine WE.cO rfl rfl ?_
 refine WE.skip (WE.seq (WE.block (WE.aA (WL.mv rfl rfl ?_))))
 refine WL.pv (by exact PV.eQ (i := 4) rfl (by exact (H.p 2 rfl : ((fun w => cS w IF 1 6 gM)) _)) uG jN rfl rfl (by omega) (by decide)) rfl ?_
 refine WL.bG rfl AQ rfl rfl (by exact mR (by exact (H.p 2 rfl : ((fun w => cS w IF 1 6 gM)) _)) 4 (by decide)) (by exact jN) ?_
 refine WL.alloc H rfl mP rfl ?_
 intro XC TK H
 refine WL.as rfl rfl ?_
 refine WL.aT H 0 rfl rfl rfl (new := _) rfl (by exact jN) (bC _ rfl) (Laid.at (Laid.all (by simp only [aR, aU, aB, aD])) (by rfl)) rfl ?_
 intro TJ H
 refine WL.nil (WE.aA (WL.pv (PV.fieldAddr rfl pZ rfl) rfl ?_))
 refine WL.aZ rfl AR rfl rfl (by exact aK.aF (H.l 0 rfl) aJ.hd (by rfl)) ?_
 refine WL.mv rfl rfl ?_
 (refine WL.iK rfl rfl (eU.iV (fs := []) (cs := []) aFr (aCH (bk := R5) (bh := bh) (sr := sr) (sk := sk) (sv := sv) (se := se) (pr := pr) (kd := kd) (dp := dp) (lk := lk) (lv := lv) (B := B) (sb := sb) (sl := slx) (bits := bits) (k := k) (vv := vv) (rb := rb) H.aS (H.o 0 rfl) (by exact (H.aL 0 rfl 3 rfl : aH _ (fJ bh bc bits) _)) (by exact (H.aL 0 rfl 0 rfl : aH _ (fun w => aK w R5 168 (G0 bh sr sk sv pr se (fH kd dp lk lv B slx))) _)) (by exact (H.aL 0 rfl 5 rfl : aH _ (bI sk k) _)) (by exact (H.aL 0 rfl 6 rfl : aH _ (bI sv vv) _)) (by exact (H.aL 0 rfl 1 rfl : aH _ (eN slx sb) _)) (by exact (H.aL 0 rfl 8 rfl : aH _ (aW) _)) bS hp hk hv tL)) ?_; rintro _ TI ⟨TM, rfl, hO, hB⟩; replace H := H.eS 0 rfl hO hB)
 refine WL.as rfl rfl (WL.nil (WE.aA (WL.mv rfl rfl (WL.pv (PV.neq rfl rfl rfl) rfl (WL.nil ?_)))))
 refine WE.bB rfl rfl ?_
 refine WE.skip (WE.eM (WL.pv (PV.bZ rfl rfl rfl (by omega) (by omega)) rfl (WL.mv rfl rfl (WL.nil ?_))))
 replace H := H.forget 0
 refine dN.step ?_
 refine WE.aA (WL.pv (PV.lss rfl rfl rfl) rfl (WL.nil (WE.seq ?_)))
 refine WE.cO rfl rfl ?_
 refine WE.skip (WE.seq (WE.block (WE.aA (WL.mv rfl rfl ?_))))
 refine WL.pv (by exact PV.eQ (i := 5) rfl (by exact (H.p 2 rfl : ((fun w => cS w IF 1 6 gM)) _)) uG jN rfl rfl (by omega) (by decide)) rfl ?_
 refine WL.bG rfl AQ rfl rfl (by exact mR (by exact (H.p 2 rfl : ((fun w => cS w IF 1 6 gM)) _)) 5 (by decide)) (by exact jN) ?_
 refine WL.alloc H rfl mP rfl ?_
 intro XC YF H
 refine WL.as rfl rfl ?_
 refine WL.aT H 0 rfl rfl rfl (new := _) rfl (by exact jN) (bC _ rfl) (Laid.at (Laid.all (by simp only [aR, aU, aB, aD])) (by rfl)) rfl ?_
 intro w20 H
 refine WL.nil (WE.aA (WL.pv (PV.fieldAddr rfl pZ rfl) rfl ?_))
 refine WL.aZ rfl AR rfl rfl (by exact aK.aF (H.l 0 rfl) aJ.hd (by rfl)) ?_
 refine WL.mv rfl rfl ?_
 (refine WL.iK rfl rfl (eU.iV (fs := []) (cs := []) aFp (aCG (bk := R5) (bh := bh) (sr := sr) (sk := sk) (sv := sv) (se := se) (pr := pr) (kd := kd) (dp := dp) (lk := lk) (lv := lv) (B := B) (sb := sb) (sl := slx) (bits := bits) (k := k) (vv := vv) (rb := rb) H.aS (H.o 0 rfl) (by exact (H.aL 0 rfl 3 rfl : aH _ (fJ bh bc bits) _)) (by exact (H.aL 0 rfl 0 rfl : aH _ (fun w => aK w R5 168 (G0 bh sr sk sv pr se (fH kd dp lk lv B slx))) _)) (by exact (H.aL 0 rfl 5 rfl : aH _ (bI sk k) _)) (by exact (H.aL 0 rfl 4 rfl : aH _ (bI sr rb) _)) (by exact (H.aL 0 rfl 1 rfl : aH _ (eN slx sb) _)) (by exact (H.aL 0 rfl 8 rfl : aH _ (aW) _)) bS hp hk hr)) ?_; rintro _ w21 ⟨TM, aDo, hO, hB⟩; rw [← BP] at aDo; subst aDo; replace H := H.eS 0 rfl hO hB)
 refine WL.as rfl rfl (WL.nil (WE.aA (WL.mv rfl rfl (WL.pv (PV.neq rfl rfl rfl) rfl (WL.nil ?_)))))
 refine WE.cond rfl (fun j9 => ?_) (fun j9 => ?_)
 ·
  try simp only [bW] at j9
  have hne : ¬ (eW bits k (fN bits dp B sb) (dS (cR (dY kd lk lv)) bits) dp) = rb := fun h => j9 (BP.trans (if_pos h))
  have hcd : (if (eW bits k (fN bits dp B sb) (dS (cR (dY kd lk lv)) bits) dp) = rb then (0 : Int) else 13) = 13 := if_neg hne
  have GP : cd = 13 := BP.trans hcd
  refine WE.aA (WL.mv rfl rfl (WL.mv rfl rfl (WL.pv (PV.kR rfl (by kernel_rfl)) rfl ?_)))
  refine WL.call aEu rfl (x8 (op := [118, 101, 114, 105, 102, 121]) (ix := 5) (code := cd) H.aS) ?_
  rintro _ w22 ⟨bf, rfl, hO, hge, hB⟩
  replace H := H.push hO (aO.blk bf 221 (dM [118, 101, 114, 105, 102, 121] 5 cd)) hB (fun c hc => by cases hc; exact hge)
  refine WL.as rfl rfl (WL.nil (WE.ret ⟨[_], _, .nil _, ⟨rfl, trivial⟩, ?_⟩))
  replace H := H.freeze (i := 0) rfl
  refine ⟨_, H.cM, H.o 0 rfl, (show aH _ (fun w => aK w bf 221 (dM [118, 101, 114, 105, 102, 121] 5 cd)) _ from H.fM (H.bN 0 rfl)).imp fun _ h => ?_⟩
  rw [hcd]
  rw [GP] at h
  exact .inr ⟨by decide, bf, rfl, h⟩
 ·
  try simp only [bW] at j9
  have heq : (eW bits k (fN bits dp B sb) (dS (cR (dY kd lk lv)) bits) dp) = rb := by (by_cases h : (eW bits k (fN bits dp B sb) (dS (cR (dY kd lk lv)) bits) dp) = rb; exact h; exact absurd ((BP.trans (if_neg h)).symm.trans j9) (by decide))
  have hcd : (if (eW bits k (fN bits dp B sb) (dS (cR (dY kd lk lv)) bits) dp) = rb then (0 : Int) else 13) = 0 := if_pos heq
  refine WE.skip (WE.eM (WL.pv (PV.bZ rfl rfl rfl (by omega) (by omega)) rfl (WL.mv rfl rfl (WL.nil ?_))))
  replace H := H.forget 0
  refine dN.step ?_
  refine WE.aA (WL.pv (PV.lss rfl rfl rfl) rfl (WL.nil (WE.seq ?_)))
  refine WE.bB rfl rfl ?_
  refine WE.exit (WE.aA (WL.as rfl rfl (WL.nil (WE.ret ⟨[_], _, .nil _, ⟨rfl, trivial⟩, ?_⟩))))
  refine ⟨_, H.cM, H.o 0 rfl, fun _ _ => ?_⟩
  rw [hcd]
  exact .inl ⟨rfl, rfl⟩
theorem sN {X : Nat → Prop} {w : World} {bh bc : Nat} {bits n0 : Int} {sr sk sv se : Value} {pr : Bool} {k vv rb : List UInt8} {kd dp : Nat} {lk lv B : List UInt8} {sb : List (List UInt8)} (hX : cW X w) (eR : aK w bc 213 ([.int .i64 n0])) (bU : aH (fun c_ => X c_ ∨ c_ = bc) (fJ bh bc bits) w) (dA : aH (fun c_ => X c_ ∨ c_ = bc) (bI sr rb) w) (fO : aH (fun c_ => X c_ ∨ c_ = bc) (bI sk k) w) (jM : aH (fun c_ => X c_ ∨ c_ = bc) (bI sv vv) w) (oC : aH (fun c_ => X c_ ∨ c_ = bc) (bI se (fA kd dp lk lv B sb)) w) (sU : aH (fun c_ => X c_ ∨ c_ = bc) (aW) w) (CH : aH (fun c_ => X c_ ∨ c_ = bc) (eE) w) (bS : 0 ≤ bits ∧ bits ≤ 256) (hp : iG kd dp lk lv B sb) (hk : k.length = 32) (hr : rb.length = 32) (hv : vv.length ≤ 65535) (tL : uT kd dp lk lv k (mQ bits vv) pr) :
  bD Tryz.prog 14 [.pointer (some ⟨bh, 0, none⟩), sr, .agg [sk, sv, .bool pr].toArray, se].toArray w fun v w' => ∃ (m : Int), v = .int .i64 (if (eW bits k (fN bits dp B sb) (dS (cR (dY kd lk lv)) bits) dp) = rb then (0 : Int) else 13) ∧ Out (· = bc) w w' ∧ aK w' bc 213 [.int .i64 m] := by
 refine bD.aI (N := 25) Tryz.func14 rfl rfl (by simp) ?_
 have H := St.c6 (b := bc) (t := 213) (l := [.int .i64 n0]) hX eR
 replace H := H.add (bY CH)
 replace H := H.add (bY sU)
 replace H := H.add (bY oC)
 replace H := H.add (bY jM)
 replace H := H.add (bY fO)
 replace H := H.add (bY dA)
 replace H := H.add (bY bU)
 have PX : sr.oneCell' = true := cS.fG (dA.here)
 have vF : sk.oneCell' = true := cS.fG (fO.here)
 have hv1 : sv.oneCell' = true := cS.fG (jM.here)
 have he1 : se.oneCell' = true := cS.fG (oC.here)
 have hpz : eC TH := bO (bC _ rfl) (bO (bC _ rfl) (bO (bO (bK _) (bK _)) (bO (bK _) (bC _ rfl))))
 refine WE.aA ?_
 refine WL.box (l := [sk, sv, .bool pr]) H rfl (rfl) rfl ?_
 intro b6 w1 H
 refine WL.as rfl rfl (WL.nil (WE.aA ?_))
 refine WL.alloc H rfl aCh rfl ?_
 intro b9 w2 H
 refine WL.nil (WE.seq (WE.aA (WL.mv rfl rfl (WL.mv rfl rfl ?_))))
 refine WL.bG rfl aBN rfl rfl (by exact aK.aF (H.l 1 rfl) (aJ.all _) (by rfl)) (by exact T9) ?_
 refine WL.mv rfl rfl ?_
 refine WL.call aH7 rfl (SI (bh := bh) (bits := bits) (k := k) (vv := vv) (rb := rb) (kd := kd) (dp := dp) (lk := lk) (lv := lv) (B := B) (sb := sb) (sr := sr) (sk := sk) (sv := sv) (se := se) (pr := pr) H.aS (H.o 0 rfl) (by exact (H.aL 0 rfl 0 rfl : aH _ (fJ bh bc bits) _)) (by exact (H.aL 0 rfl 1 rfl : aH _ (bI sr rb) _)) (by exact (H.aL 0 rfl 2 rfl : aH _ (bI sk k) _)) (by exact (H.aL 0 rfl 3 rfl : aH _ (bI sv vv) _)) (by exact (H.aL 0 rfl 4 rfl : aH _ (bI se (fA kd dp lk lv B sb)) _)) (by exact (H.aL 0 rfl 5 rfl : aH _ (aW) _)) bS hp hk hr hv tL) ?_
 rintro v15 w3 ⟨m15, hO, hB, hR⟩
 have aJp := (hR.here).ifv
 have aDD := (hR.here).isNil
 have JE := e8.none hR
 replace H := H.c9 0 rfl hO hB hR
 have aHz := e8.fault (show aH _ (e8 [118, 101, 114, 105, 102, 121] 5 (if (eW bits k (fN bits dp B sb) (dS (cR (dY kd lk lv)) bits) dp) = rb then (0 : Int) else 13) v15) _ from H.bN 0 rfl)
 refine WL.as rfl rfl (WL.nil (WE.aA (WL.mv rfl rfl (WL.pv (PV.zL rfl (by kernel_rfl) (by assumption)) rfl (WL.mv rfl rfl ?_)))))
 refine WL.split (t := 18) rfl (fun sF => ?_) (fun sF => ?_)
 ·
  refine WL.known (t := 17) (c := true) rfl sF ?_
  try simp only [bW] at sF
  have h_ : iE v15 = false := by exact sF
  have hz : (if (eW bits k (fN bits dp B sb) (dS (cR (dY kd lk lv)) bits) dp) = rb then (0 : Int) else 13) ≠ 0 := by rw [aDD] at h_; simpa using h_
  obtain ⟨bf, rfl, hbf⟩ := aHz hz
  replace H := H.add hbf
  refine WL.mv rfl rfl (WL.pv (PV.kR rfl (by kernel_rfl)) rfl ?_)
  refine WL.call aBz rfl (aAl (bt := b9) (bf := bf) (op := [118, 101, 114, 105, 102, 121]) (ix := 5) (code := (if (eW bits k (fN bits dp B sb) (dS (cR (dY kd lk lv)) bits) dp) = rb then (0 : Int) else 13)) H.aS (H.l 0 rfl) (by exact (H.eX 0 rfl 8 rfl : aH _ (eE) _)) (by exact (H.eX 0 rfl 0 rfl : aH _ (fun w => aK w bf 221 (dM [118, 101, 114, 105, 102, 121] 5 (if (eW bits k (fN bits dp B sb) (dS (cR (dY kd lk lv)) bits) dp) = rb then (0 : Int) else 13))) _))) ?_
  rintro _ w4 ⟨rfl, hO, hB⟩
  replace H := H.called 0 rfl hO hB
  refine WL.pv (PV.not rfl rfl) rfl (WL.pv (PV.dH rfl rfl rfl) rfl (WL.nil ?_))
  refine WE.bB rfl (by rfl) ?_
  refine WE.skip (WE.aA ?_)
  refine WL.aZ rfl aBO rfl rfl (by exact aK.aF (H.l 0 rfl) (aJ.all _) (by rfl)) ?_
  refine WL.as rfl rfl (WL.nil (WE.ret ⟨[_], _, .nil _, ⟨rfl, trivial⟩, ?_⟩))
  refine ⟨_, ?_, H.cM, H.o 0 rfl⟩
  rfl
 ·
  refine WL.known (t := 17) (c := false) rfl sF ?_
  try simp only [bW] at sF
  have h_ : iE v15 = true := by exact sF
  have hz : (if (eW bits k (fN bits dp B sb) (dS (cR (dY kd lk lv)) bits) dp) = rb then (0 : Int) else 13) = 0 := by rw [aDD] at h_; simpa using h_
  have VM := JE hz
  refine WL.off rfl (WL.off rfl (WL.off rfl (WL.off rfl (WL.pv (PV.c5 rfl rfl rfl) rfl (WL.nil (WE.iJ rfl (WE.skip ?_)))))))
  refine WE.aA ?_
  refine WL.aZ rfl aBO rfl rfl (by exact aK.aF (H.l 0 rfl) (aJ.all _) (by rfl)) ?_
  refine WL.as rfl rfl (WL.nil (WE.ret ⟨[_], _, .nil _, ⟨rfl, trivial⟩, ?_⟩))
  refine ⟨_, ?_, H.cM, H.o 0 rfl⟩
  (rw [hz]; rfl)
theorem NT {w : World} {a : Addr} {u : Up} (h : cX w a (NW u)) : cX w (a.add 0) [u.sk] := h.sub (aJ.l (aJ.all _))
theorem T4 {w : World} {a : Addr} {u : Up} (h : cX w a (NW u)) : cX w (a.add 1) [u.sv] := h.sub (aJ.r (o := 0) (aJ.l (aJ.all _)) rfl)
theorem aCu {w : World} {a : Addr} {u : Up} (h : cX w a (NW u)) : cX w (a.add 2) [.bool u.d] := h.sub (aJ.r (o := 1) (aJ.r (o := 0) (aJ.all _) rfl) rfl)
theorem dJ.k {l : List Up} {w : World} (h : dJ l w) {i : Nat} (hi : i < l.length) : bI l[i].sk l[i].k w := (h _ (List.getElem_mem hi)).1
theorem dJ.v {l : List Up} {w : World} (h : dJ l w) {i : Nat} (hi : i < l.length) : bI l[i].sv l[i].v w := (h _ (List.getElem_mem hi)).2
theorem dJ.uv {l : List Up} {w : World} (h : dJ l w) {i : Nat} (hi : i < l.length) : bI (if l[i].d then .slice none 0 0 else l[i].sv) l[i].uv w := by
 unfold Up.uv
 cases hd : l[i].d
 ·
  exact h.v hi
 ·
  exact bI.nil w
theorem I2 {o : qU} {w : World} (h : OV o w) : eC (zI o) := bO (bC _ rfl) (bO (dV (cS.fG h.1)) (bO (dV (cS.fG h.2.1)) (dV (cS.fG h.2.2.1))))
theorem UZ {u : Up} {w : World} (h : bI u.sk u.k w ∧ bI u.sv u.v w) : eC (NW u) := bO (dV (cS.fG h.1)) (bO (dV (cS.fG h.2)) (bC _ rfl))
theorem LC {l : List Up} {i : Nat} {u : Up} (h : u ∈ l.take i) : ∃ j, ∃ hj : j < l.length, j < i ∧ l[j] = u := by
 obtain ⟨j, hj, rfl⟩ := List.getElem_of_mem h
 rw [List.length_take] at hj
 exact ⟨j, by omega, by omega, by rw [List.getElem_take]⟩
theorem nZ {X : Nat → Prop} {w : World} {s sv : Value} {lb vv : List UInt8} (hX : cW X w) (bU : aH X (bI s lb) w) (dA : aH X (bI sv vv) w) :
  bD Tryz.prog 42 [s, sv].toArray w fun v w' => v = .int .i64 (bV lb vv) ∧ Out Nil w w' := by
 refine bD.aI (N := 11) Tryz.func42 rfl rfl (by simp) ?_
 have H := St.begin hX
 replace H := H.add (cF dA)
 replace H := H.add (cF bU)
 refine WE.aA (WL.as rfl rfl (WL.nil (WE.seq (WE.aA (WL.mv rfl rfl ?_)))))
 refine WL.pv (PV.dO (by exact (H.p 0 rfl : (bI s lb) _)) eV rfl) rfl ?_
 refine WL.pv (PV.neq rfl rfl rfl) rfl (WL.nil ?_)
 refine WE.cond rfl (fun yS => ?_) (fun yS => ?_)
 ·
  try simp only [bW] at yS
  have h7 : lb.length ≠ 32 := by omega
  refine WE.aA (WL.as rfl rfl (WL.nil (WE.ret ⟨[_], _, .nil _, ⟨rfl, trivial⟩, ?_⟩)))
  refine ⟨?_, H.aM⟩
  show Value.int .i64 2 = _
  rw [show bV lb vv = 2 from if_pos h7]
 ·
  try simp only [bW] at yS
  have h7 : lb.length = 32 := by omega
  refine WE.skip (WE.seq (WE.aA (WL.mv rfl rfl ?_)))
  refine WL.pv (PV.dO (by exact (H.p 1 rfl : (bI sv vv) _)) eV rfl) rfl ?_
  refine WL.pv (PV.gtr rfl rfl rfl) rfl (WL.nil ?_)
  refine WE.cond rfl (fun kS => ?_) (fun kS => ?_)
  ·
   try simp only [bW] at kS
   have h10 : 65535 < vv.length := by omega
   refine WE.aA (WL.as rfl rfl (WL.nil (WE.ret ⟨[_], _, .nil _, ⟨rfl, trivial⟩, ?_⟩)))
   refine ⟨?_, H.aM⟩
   show Value.int .i64 3 = _
   rw [show bV lb vv = 3 by unfold bV; rw [if_neg (by omega), if_pos h10]]
  ·
   try simp only [bW] at kS
   have h10 : ¬ 65535 < vv.length := by omega
   refine WE.skip (WE.aA (WL.as rfl rfl (WL.nil (WE.ret ⟨[_], _, .nil _, ⟨rfl, trivial⟩, ?_⟩))))
   refine ⟨?_, H.aM⟩
   show Value.int .i64 0 = _
   rw [show bV lb vv = 0 by unfold bV; rw [if_neg (by omega), if_neg h10]]
theorem JL {X : Nat → Prop} {w : World} {s : Value} {l : List Up} (hX : cW X w) (bU : aH X (jL s l) w) (dA : aH X (dJ l) w) (hlen : l.length ≤ 9223372036854775807) (JB : ∀ u ∈ l, u.k.length ≤ 9223372036854775807 ∧ u.v.length ≤ 9223372036854775807) :
  bD Tryz.prog 41 [s].toArray w fun v w' => ∃ b : Bool, v = .bool b ∧ (b = true → CA l) ∧ Out Nil w w' := by
 refine bD.aI (N := 41) Tryz.func41 rfl rfl (by simp) ?_
 have H := St.begin hX
 replace H := H.add (cF dA)
 replace H := H.add (cF bU)
 refine WE.aA (WL.as rfl rfl (WL.nil (WE.seq (WE.aA (WL.mv rfl rfl ?_)))))
 refine WL.pv (PV.dO (by exact (H.p 0 rfl : (jL s l) _)) nU rfl) rfl ?_
 refine WL.pv (PV.gtr rfl rfl rfl) rfl (WL.nil ?_)
 refine WE.cond rfl (fun yS => ?_) (fun yS => ?_)
 ·
  try simp only [bW] at yS
  refine WE.aA (WL.as rfl rfl (WL.nil (WE.ret ⟨[_], _, .nil _, ⟨rfl, trivial⟩, ?_⟩)))
  exact ⟨false, rfl, (fun h => by cases h), H.aM⟩
 ·
  try simp only [bW] at yS
  have aHt : l.length ≤ 20 := by omega
  refine WE.skip (WE.aA (WL.as rfl rfl (WL.nil (WE.seq (WE.aA (WL.as rfl rfl (WL.nil ?_)))))))
  refine WE.block ?_
  refine WE.loop (α := Nat × Nat) [2, 3, 4, 8, 9, 10, 11, 12, 13, 14, 15, 16, 17, 18, 19, 20, 21, 22, 23, 24, 25, 26, 27, 28, 29, 30, 31, 32, 33, 34, 35, 36, 37, 38] (fun p => [(4, .int .i64 (p.1 : Int)), (3, .int .i64 (p.2 : Int))]) (fun p wl => (p.1 ≤ l.length ∧ p.2 ≤ p.1 ∧ ∀ j (h : j < l.length), j < p.1 → l[j].k.length ≤ 100 ∧ l[j].v.length ≤ 70000) ∧ St X w wl [] [] [jL s l, dJ l]) (fun p => l.length - p.1) (0, 0) ⟨rfl, rfl, trivial⟩ ⟨⟨Nat.zero_le _, Nat.le_refl _, fun j _ h => absurd h (Nat.not_lt_zero _)⟩, H⟩ ?_
  intro ⟨i, n⟩ γ0 w1 hI
  try dsimp only at hI
  obtain ⟨⟨hi, hni, hall⟩, H⟩ := hI
  try dsimp only at hi hni hall
  refine WE.seq (WE.aA (WL.mv rfl rfl (WL.mv rfl rfl ?_)))
  refine WL.pv (PV.dO (by exact (H.p 0 rfl : (jL s l) _)) nU rfl) rfl ?_
  refine WL.pv (PV.lss rfl rfl rfl) rfl (WL.nil ?_)
  refine WE.cond rfl (fun kC => ?_) (fun kC => ?_)
  ·
   try simp only [bW] at kC
   have hlt : i < l.length := by omega
   refine WE.skip (WE.seq (WE.block (WE.seq (WE.aA (WL.mv rfl rfl (WL.mv rfl rfl ?_))))))
   refine WL.pv (PV.eQ rfl (by exact (H.p 0 rfl : (jL s l) _)) nU lD rfl rfl (by omega) (by omega)) rfl ?_
   refine WL.pv (PV.dL rfl p6 rfl) rfl ?_
   refine WL.aZ rfl eL rfl rfl ((NT (jL.rd (by exact (H.p 0 rfl : (jL s l) _)) i hlt))) ?_
   refine WL.pv (PV.dO (((by exact (H.p 1 rfl : (dJ l) _)) : dJ l _).k hlt) eV rfl) rfl ?_
   refine WL.pv (PV.gtr rfl rfl rfl) rfl (WL.mv rfl rfl ?_)
   refine WL.split (t := 21) rfl (fun QF => ?_) (fun QF => ?_)
   ·
    refine WL.known (t := 20) (c := true) rfl QF ?_
    try simp only [bW] at QF
    refine WL.off rfl (WL.off rfl (WL.off rfl (WL.off rfl (WL.off rfl (WL.off rfl (WL.off rfl (WL.pv (PV.dH rfl rfl rfl) rfl ?_)))))))
    refine WL.nil (WE.kY rfl (WE.aA (WL.as rfl rfl (WL.nil (WE.ret ⟨[_], _, .nil _, ⟨rfl, trivial⟩, ?_⟩)))))
    exact ⟨false, rfl, (fun h => by cases h), H.aM⟩
   ·
    refine WL.known (t := 20) (c := false) rfl QF ?_
    try simp only [bW] at QF
    have ZD : l[i].k.length ≤ 100 := by omega
    refine WL.mv rfl rfl (WL.mv rfl rfl ?_)
    refine WL.pv (PV.eQ rfl (by exact (H.p 0 rfl : (jL s l) _)) nU lD rfl rfl (by omega) (by omega)) rfl ?_
    refine WL.pv (PV.dL rfl p5 rfl) rfl ?_
    refine WL.aZ rfl eL rfl rfl ((T4 (jL.rd (by exact (H.p 0 rfl : (jL s l) _)) i hlt))) ?_
    refine WL.pv (PV.dO (((by exact (H.p 1 rfl : (dJ l) _)) : dJ l _).v hlt) eV rfl) rfl ?_
    refine WL.pv (PV.gtr rfl rfl rfl) rfl (WL.pv (PV.c5 rfl rfl rfl) rfl (WL.nil ?_))
    refine WE.cond rfl (fun BR => ?_) (fun BR => ?_)
    ·
     try simp only [bW] at BR
     refine WE.aA (WL.as rfl rfl (WL.nil (WE.ret ⟨[_], _, .nil _, ⟨rfl, trivial⟩, ?_⟩)))
     exact ⟨false, rfl, (fun h => by cases h), H.aM⟩
    ·
     try simp only [bW] at BR
     have hv7 : l[i].v.length ≤ 70000 := by omega
     refine WE.skip (WE.aA (WL.mv rfl rfl (WL.mv rfl rfl ?_)))
     refine WL.pv (PV.eQ rfl (by exact (H.p 0 rfl : (jL s l) _)) nU lD rfl rfl (by omega) (by omega)) rfl ?_
     refine WL.pv (PV.dL rfl p5 rfl) rfl ?_
     refine WL.aZ rfl eL rfl rfl ((T4 (jL.rd (by exact (H.p 0 rfl : (jL s l) _)) i hlt))) ?_
     refine WL.pv (PV.dO (((by exact (H.p 1 rfl : (dJ l) _)) : dJ l _).v hlt) eV rfl) rfl ?_
     refine WL.pv (PV.gtr rfl rfl rfl) rfl (WL.nil ?_)
     refine WE.cond rfl (fun oD => ?_) (fun oD => ?_)
     ·
      try simp only [bW] at oD
      let n2 := n + 1
      have hn2 : n2 ≤ i + 1 := by omega
      refine WE.eM (WL.mv rfl rfl ?_)
      refine WL.pv (PV.eq (v' := .int .i64 ((n + 1 : Nat) : Int)) (PV.bZ rfl rfl rfl (by omega) (by omega)) (by rfl)) rfl ?_
      refine WL.as rfl rfl (WL.nil (WE.eM (WL.mv rfl rfl ?_)))
      refine WL.pv (PV.eq (v' := .int .i64 ((i + 1 : Nat) : Int)) (PV.bZ rfl rfl rfl (by omega) (by omega)) (by rfl)) rfl ?_
      refine WL.as rfl rfl (WL.nil ?_)
      exact ⟨(i + 1, n2), (by repeat (first | with_reducible exact bQ.refl _ _ | refine bQ.dB rfl ?_ | refine bQ.cE rfl ?_ | refine bQ.cB rfl ?_)), ⟨rfl, rfl, trivial⟩, rfl, ⟨⟨by dsimp only; omega, by dsimp only; omega, fun j hj hji => by rcases Nat.lt_or_ge j i with h_ | h_; exact hall j hj h_; (have e_ : j = i := (by dsimp only at hji; omega)); subst e_; exact ⟨ZD, hv7⟩⟩, H⟩, (by dsimp only; omega)⟩
     ·
      try simp only [bW] at oD
      let n2 := n
      have hn2 : n2 ≤ i + 1 := by omega
      refine WE.skip (WE.eM (WL.mv rfl rfl ?_))
      refine WL.pv (PV.eq (v' := .int .i64 ((i + 1 : Nat) : Int)) (PV.bZ rfl rfl rfl (by omega) (by omega)) (by rfl)) rfl ?_
      refine WL.as rfl rfl (WL.nil ?_)
      exact ⟨(i + 1, n2), (by repeat (first | with_reducible exact bQ.refl _ _ | refine bQ.dB rfl ?_ | refine bQ.cE rfl ?_ | refine bQ.cB rfl ?_)), ⟨rfl, rfl, trivial⟩, rfl, ⟨⟨by dsimp only; omega, by dsimp only; omega, fun j hj hji => by rcases Nat.lt_or_ge j i with h_ | h_; exact hall j hj h_; (have e_ : j = i := (by dsimp only at hji; omega)); subst e_; exact ⟨ZD, hv7⟩⟩, H⟩, (by dsimp only; omega)⟩
  ·
   try simp only [bW] at kC
   have uM : i = l.length := by omega
   refine WE.exit (WE.aA (WL.mv rfl rfl (WL.pv (PV.leq rfl rfl rfl) rfl (WL.as rfl rfl (WL.nil (WE.ret ⟨[_], _, .nil _, ⟨rfl, trivial⟩, ?_⟩))))))
   exact ⟨_, rfl, (fun _ => ⟨aHt, fun u hu => by obtain ⟨j, hj, rfl⟩ := List.getElem_of_mem hu; exact hall j hj (by omega)⟩), H.aM⟩
theorem PN {X : Nat → Prop} {w : World} {s : Value} {l : List qU} (hX : cW X w) (bU : aH X (B9 s l) w) (dA : aH X (lS l) w) (hlen : l.length ≤ 9223372036854775807) (JB : ∀ o ∈ l, o.k.length ≤ 9223372036854775807 ∧ o.v.length ≤ 9223372036854775807 ∧ o.b.length ≤ 9223372036854775807 ∧ ∀ u ∈ o.b, u.k.length ≤ 9223372036854775807 ∧ u.v.length ≤ 9223372036854775807) :
  bD Tryz.prog 16 [s].toArray w fun v w' => ∃ n : Int, v = .int .i64 n ∧ (n ≠ 0 → MY l) ∧ Out Nil w w' := by
 refine bD.aI (N := 29) Tryz.func16 rfl rfl (by simp) ?_
 have H := St.begin hX
 replace H := H.add (cF dA)
 replace H := H.add (cF bU)
 refine WE.aA (WL.as rfl rfl (WL.nil (WE.seq (WE.aA (WL.mv rfl rfl ?_)))))
 refine WL.pv (PV.dO (by exact (H.p 0 rfl : (B9 s l) _)) KZ rfl) rfl ?_
 refine WL.pv (PV.gtr rfl rfl rfl) rfl (WL.nil ?_)
 refine WE.cond rfl (fun yS => ?_) (fun yS => ?_)
 ·
  try simp only [bW] at yS
  refine WE.aA (WL.as rfl rfl (WL.nil (WE.ret ⟨[_], _, .nil _, ⟨rfl, trivial⟩, ?_⟩)))
  exact ⟨0, rfl, (fun h => absurd rfl h), H.aM⟩
 ·
  try simp only [bW] at yS
  have aDA : l.length ≤ 12 := by omega
  refine WE.skip (WE.seq (WE.aA (WL.mv rfl rfl ?_)))
  refine WL.pv (PV.dO (by exact (H.p 0 rfl : (B9 s l) _)) KZ rfl) rfl ?_
  refine WL.mv rfl rfl (WL.nil (WE.block ?_))
  refine WE.loop (α := Nat) [2, 4, 10, 11, 12, 13, 14, 15, 16, 17, 18, 19, 20, 21, 22, 23, 24, 25, 26, 27, 28] (fun i => [(10, .int .i64 (i : Int))]) (fun i wl => (i ≤ l.length ∧ ∀ j (h : j < l.length), j < i → l[j].k.length ≤ 100 ∧ l[j].v.length ≤ 70000 ∧ CA l[j].b) ∧ St X w wl [] [] [B9 s l, lS l]) (fun i => l.length - i) 0 ⟨rfl, trivial⟩ ⟨⟨Nat.zero_le _, fun j _ h => absurd h (Nat.not_lt_zero _)⟩, H⟩ ?_
  intro i γ0 w1 hI
  try dsimp only at hI
  obtain ⟨⟨hi, hall⟩, H⟩ := hI
  refine WE.aA (WL.pv (PV.lss rfl rfl rfl) rfl (WL.nil (WE.seq ?_)))
  refine WE.cond rfl (fun kC => ?_) (fun kC => ?_)
  ·
   try simp only [bW] at kC
   have hlt : i < l.length := by omega
   have vD := JB _ (List.getElem_mem hlt)
   have hoi : OV l[i] _ := (by exact (H.p 1 rfl : lS l _) _ (List.getElem_mem hlt))
   have aHh : l[i].sk.oneCell' = true := cS.fG hoi.1
   have aHg : l[i].sv.oneCell' = true := cS.fG hoi.2.1
   refine WE.skip (WE.seq (WE.block (WE.aA ?_)))
   refine WL.pv (PV.eQ rfl (by exact (H.p 0 rfl : (B9 s l) _)) KZ FU rfl rfl (by omega) (by omega)) rfl ?_
   refine WL.bG rfl aBM rfl rfl ((B9.rd (by exact (H.p 0 rfl : (B9 s l) _)) i hlt)) (by exact FU) ?_
   refine WL.alloc H rfl aCg rfl ?_
   intro b4 w2 H
   refine WL.aT H 0 rfl rfl rfl (new := zI l[i]) rfl (by exact FU) (I2 (by exact (H.p 1 rfl : lS l _) _ (List.getElem_mem hlt))) (Laid.at (Laid.all (by rfl)) (by rfl)) rfl ?_
   intro w3 H
   refine WL.nil (WE.aA (WL.pv (PV.fieldAddr rfl lI rfl) rfl ?_))
   refine WL.aZ rfl eL rfl rfl (by exact aK.aF (H.l 0 rfl) (aJ.tl aJ.hd rfl) (by rfl)) ?_
   refine WL.pv (PV.fieldAddr rfl BZ rfl) rfl ?_
   refine WL.aZ rfl eL rfl rfl (by exact aK.aF (H.l 0 rfl) (aJ.tl (aJ.tl aJ.hd rfl) rfl) (by rfl)) ?_
   refine WL.pv (PV.dD rfl aC8 NJ (Fl.cons rfl ((cells_one aHh)) (by simp only [aR]) Laid.head (Fl.cons rfl ((cells_one aHg)) (by simp only [aR]) (Laid.tail Laid.head rfl) Fl.nil))) rfl ?_
   refine WL.bJ (l0 := ([.slice none 0 0, .slice none 0 0, .bool false])) H rfl aGL (by decide) (by rfl) (Fl.cons rfl (by rfl) (by simp only [aR]) (Laid.all (by simp only [aR])) Fl.nil) rfl ?_
   intro b19 w4 H
   replace H := H.freeze (i := 0) rfl
   replace H := H.add (show aH _ (jL (.slice (some ⟨b19, 0, none⟩) 1 1) [(⟨l[i].sk, l[i].k, l[i].sv, l[i].v, false⟩ : Up)]) _ from (H.bN 0 rfl).imp fun _ h => (cS.cA (n := 1) h rfl : cS _ (.slice (some ⟨b19, 0, none⟩) 1 1) 3 1 _))
   replace H := H.add (show aH _ (dJ [(⟨l[i].sk, l[i].k, l[i].sv, l[i].v, false⟩ : Up)]) _ from (by exact (H.bN 3 rfl : aH _ (lS l) _).imp fun _ h => (show dJ _ _ from fun u hu => by rw [List.mem_singleton.1 hu]; exact ⟨(h _ (List.getElem_mem hlt)).1, (h _ (List.getElem_mem hlt)).2.1⟩)))
   refine WL.call aED rfl (JL (s := (.slice (some ⟨b19, 0, none⟩) 1 1)) (l := [(⟨l[i].sk, l[i].k, l[i].sv, l[i].v, false⟩ : Up)]) H.aS (by exact (H.bN 1 rfl : aH _ (jL (.slice (some ⟨b19, 0, none⟩) 1 1) [(⟨l[i].sk, l[i].k, l[i].sv, l[i].v, false⟩ : Up)]) _)) (by exact (H.bN 0 rfl : aH _ (dJ [(⟨l[i].sk, l[i].k, l[i].sv, l[i].v, false⟩ : Up)]) _)) (by simp) (fun u hu => by rw [List.mem_singleton.1 hu]; exact ⟨vD.1, vD.2.1⟩)) ?_
   rintro _ w5 ⟨bf1, rfl, hF1, hO⟩
   replace H := H.out hO
   refine WL.pv (PV.not rfl rfl) rfl (WL.mv rfl rfl ?_)
   refine WL.split (t := 22) rfl (fun sE => ?_) (fun sE => ?_)
   ·
    refine WL.known (t := 21) (c := true) rfl sE ?_
    try simp only [bW] at sE
    refine WL.off rfl (WL.off rfl (WL.off rfl (WL.off rfl (WL.pv (PV.dH rfl rfl rfl) rfl (WL.nil (WE.kY rfl (WE.aA ?_)))))))
    refine WL.as rfl rfl (WL.nil (WE.ret ⟨[_], _, .nil _, ⟨rfl, trivial⟩, ?_⟩))
    exact ⟨0, rfl, (fun h => absurd rfl h), H.aM⟩
   ·
    refine WL.known (t := 21) (c := false) rfl sE ?_
    try simp only [bW] at sE
    have aHC := hF1 (by exact sE)
    refine WL.pv (PV.fieldAddr rfl BX rfl) rfl ?_
    refine WL.aZ rfl XH rfl rfl (by exact aK.aF (H.l 0 rfl) (aJ.tl (aJ.tl (aJ.tl aJ.hd rfl) rfl) rfl) (by rfl)) ?_
    refine WL.call aED rfl (JL (s := l[i].sb) (l := l[i].b) H.aS (by exact (H.bN 4 rfl : aH _ (lS l) _).imp fun _ h => (h _ (List.getElem_mem hlt)).2.2.1) (by exact (H.bN 4 rfl : aH _ (lS l) _).imp fun _ h => (h _ (List.getElem_mem hlt)).2.2.2) vD.2.2.1 vD.2.2.2) ?_
    rintro _ w6 ⟨bf2, rfl, hF2, hO⟩
    replace H := H.out hO
    refine WL.pv (PV.not rfl rfl) rfl (WL.pv (PV.c5 rfl rfl rfl) rfl (WL.nil ?_))
    refine WE.cond rfl (fun VW => ?_) (fun VW => ?_)
    ·
     try simp only [bW] at VW
     refine WE.aA (WL.as rfl rfl (WL.nil (WE.ret ⟨[_], _, .nil _, ⟨rfl, trivial⟩, ?_⟩)))
     exact ⟨0, rfl, (fun h => absurd rfl h), H.aM⟩
    ·
     try simp only [bW] at VW
     have aHB := hF2 (by exact VW)
     have FL := aHC.2 _ (List.mem_singleton.2 rfl)
     refine WE.skip (WE.eM ?_)
     refine WL.pv (PV.eq (v' := .int .i64 ((i + 1 : Nat) : Int)) (PV.bZ rfl rfl rfl (by omega) (by omega)) (by rfl)) rfl ?_
     refine WL.mv rfl rfl (WL.nil ?_)
     replace H := H.forget 0
     exact ⟨i + 1, (by repeat (first | with_reducible exact bQ.refl _ _ | refine bQ.dB rfl ?_ | refine bQ.cE rfl ?_ | refine bQ.cB rfl ?_)), ⟨rfl, trivial⟩, rfl, ⟨⟨by omega, fun j hj hji => by rcases Nat.lt_or_ge j i with h_ | h_; exact hall j hj h_; (have e_ : j = i := by omega); subst e_; exact ⟨FL.1, FL.2, aHB⟩⟩, (by exact H.rM [3, 4])⟩, (by omega)⟩
  ·
   try simp only [bW] at kC
   have uM : i = l.length := by omega
   refine WE.exit (WE.aA (WL.as rfl rfl (WL.nil (WE.ret ⟨[_], _, .nil _, ⟨rfl, trivial⟩, ?_⟩))))
   exact ⟨1, rfl, (fun _ => ⟨aDA, fun o ho => by obtain ⟨j, hj, rfl⟩ := List.getElem_of_mem ho; exact hall j hj (by omega)⟩), H.aM⟩
theorem WW {X : Nat → Prop} {w : World} {s : Value} {l : List Up} (hX : cW X w) (bU : aH X (jL s l) w) (dA : aH X (dJ l) w) (hlen : l.length ≤ 1000000) (JB : ∀ u ∈ l, u.k.length ≤ 9223372036854775807 ∧ u.v.length ≤ 9223372036854775807) :
  bD Tryz.prog 22 [s].toArray w fun v w' => v = .tuple [.int .i64 (((jK l).1 : Nat) : Int), .int .i64 (jK l).2].toArray ∧ Out Nil w w' := by
 refine bD.aI (N := 52) Tryz.func22 rfl rfl (by simp) ?_
 have H := St.begin hX
 replace H := H.add (cF dA)
 replace H := H.add (cF bU)
 refine WE.aA (WL.as rfl rfl (WL.as rfl rfl (WL.nil (WE.seq (WE.aA (WL.as rfl rfl (WL.nil ?_)))))))
 refine WE.block ?_
 refine WE.loop (α := Nat) [2, 3, 4, 5, 6, 7, 8, 9, 10, 11, 12, 13, 14, 15, 16, 17, 18, 19, 20, 21, 22, 23, 24, 25, 26, 27, 28, 29, 30, 31, 32, 33, 34, 35, 36, 37, 38, 39, 40, 41, 42, 43, 44, 45, 46, 47, 48, 49, 50, 51] (fun i => [(4, .int .i64 (i : Int))]) (fun i wl => (i ≤ l.length ∧ xN i (l.take i) (l.drop i) = jK l) ∧ St X w wl [] [] [jL s l, dJ l]) (fun i => l.length - i) 0 ⟨rfl, trivial⟩ ⟨⟨Nat.zero_le _, by rw [List.take_zero, List.drop_zero]; rfl⟩, H⟩ ?_
 intro i γ0 w1 hI
 try dsimp only at hI
 obtain ⟨⟨hi, qM⟩, H⟩ := hI
 refine WE.seq (WE.aA (WL.mv rfl rfl (WL.mv rfl rfl ?_)))
 refine WL.pv (PV.dO (by exact (H.p 0 rfl : (jL s l) _)) nU rfl) rfl ?_
 refine WL.pv (PV.lss rfl rfl rfl) rfl (WL.nil ?_)
 refine WE.cond rfl (fun kC => ?_) (fun kC => ?_)
 ·
  try simp only [bW] at kC
  have hlt : i < l.length := by omega
  have hvi := JB _ (List.getElem_mem hlt)
  have DU := AF l (l.length - i) i (by omega)
  rw [dif_pos hlt] at DU
  rw [DU] at qM
  refine WE.skip (WE.seq (WE.block (WE.aA (WL.mv rfl rfl (WL.mv rfl rfl ?_)))))
  refine WL.pv (PV.eQ rfl (by exact (H.p 0 rfl : (jL s l) _)) nU lD rfl rfl (by omega) (by omega)) rfl ?_
  refine WL.pv (PV.dL rfl p5 rfl) rfl ?_
  refine WL.aZ rfl eL rfl rfl ((T4 (jL.rd (by exact (H.p 0 rfl : (jL s l) _)) i hlt))) ?_
  refine WL.as rfl rfl (WL.nil ?_)
  refine WE.cut (α := Value) [5, 19, 20, 21, 22, 23] (fun nF => [(5, nF)]) (fun nF wl => St X w wl [] [] [bI nF l[i].uv, jL s l, dJ l]) ?_ ?_
  ·
   refine WE.aA (WL.mv rfl rfl (WL.mv rfl rfl ?_))
   refine WL.pv (PV.eQ rfl (by exact (H.p 0 rfl : (jL s l) _)) nU lD rfl rfl (by omega) (by omega)) rfl ?_
   refine WL.pv (PV.dL rfl vL rfl) rfl ?_
   refine WL.aZ rfl uD rfl rfl ((aCu (jL.rd (by exact (H.p 0 rfl : (jL s l) _)) i hlt))) ?_
   refine WL.nil ?_
   refine WE.cond rfl (fun lH => ?_) (fun lH => ?_)
   ·
    try simp only [bW] at lH
    have hd : l[i].d = true := (by exact lH)
    have huv : l[i].uv = [] := if_pos hd
    refine WE.eM (WL.as rfl rfl (WL.nil ?_))
    exact ⟨(.slice none 0 0), (by repeat (first | with_reducible exact bQ.refl _ _ | refine bQ.dB rfl ?_)), ⟨rfl, trivial⟩, rfl, H.add (show aH _ (bI (.slice none 0 0) l[i].uv) _ from fun w_ _ => by rw [huv]; exact bI.nil w_)⟩
   ·
    try simp only [bW] at lH
    have hd : l[i].d = false := (by exact lH)
    have huv : l[i].uv = l[i].v := if_neg (by rw [hd]; decide)
    refine WE.skip ?_
    exact ⟨l[i].sv, (by repeat (first | with_reducible exact bQ.refl _ _ | refine bQ.dB rfl ?_)), ⟨rfl, trivial⟩, rfl, H.add (show aH _ (bI l[i].sv l[i].uv) _ from ((by exact (H.bN 1 rfl : aH _ (dJ l) _)) : aH _ (dJ l) _).imp fun _ h => by rw [huv]; exact h.v hlt)⟩
  ·
   intro nF γ w2 hI
   try dsimp only at hI
   replace H := hI
   refine WE.aA (WL.mv rfl rfl (WL.mv rfl rfl ?_))
   refine WL.pv (PV.eQ rfl (by exact (H.p 1 rfl : (jL s l) _)) nU lD rfl rfl (by omega) (by omega)) rfl ?_
   refine WL.pv (PV.dL rfl p6 rfl) rfl ?_
   refine WL.aZ rfl eL rfl rfl ((NT (jL.rd (by exact (H.p 1 rfl : (jL s l) _)) i hlt))) ?_
   refine WL.mv rfl rfl ?_
   refine WL.call WH rfl (nZ (lb := l[i].k) (vv := l[i].uv) H.aS (show aH _ (bI l[i].sk l[i].k) _ from ((by exact (H.bN 2 rfl : aH _ (dJ l) _)) : aH _ (dJ l) _).imp fun _ h => h.k hlt) (by exact (H.bN 0 rfl : aH _ (bI nF l[i].uv) _))) ?_
   rintro _ w3 ⟨rfl, hO⟩
   replace H := H.out hO
   refine WL.as rfl rfl (WL.nil (WE.seq (WE.aA (WL.mv rfl rfl (WL.pv (PV.neq rfl rfl rfl) rfl (WL.nil ?_))))))
   refine WE.cond rfl (fun QP => ?_) (fun QP => ?_)
   ·
    try simp only [bW] at QP
    have hr : bV l[i].k l[i].uv ≠ 0 := (by exact QP)
    have sH : lN (l.take i) l[i] = bV l[i].k l[i].uv := if_pos hr
    rw [if_pos (by rw [sH]; exact hr), sH] at qM
    refine WE.aA (WL.mv rfl rfl (WL.mv rfl rfl (WL.as rfl rfl (WL.as rfl rfl (WL.nil (WE.ret ⟨[_, _], _, .nil _, ⟨rfl, rfl, trivial⟩, ?_⟩))))))
    refine ⟨?_, H.aM⟩
    show Value.tuple [.int .i64 ((i : Nat) : Int), .int .i64 (bV l[i].k l[i].uv)].toArray = _
    rw [← qM]
   ·
    try simp only [bW] at QP
    have hr : bV l[i].k l[i].uv = 0 := (by exact QP)
    refine WE.skip (WE.aA (WL.as rfl rfl (WL.nil (WE.block ?_))))
    refine WE.loop (α := Nat) [2, 3, 7, 35, 36, 37, 38, 39, 40, 41, 42, 43, 44, 45, 46, 47, 48, 49, 50, 51] (fun j => [(7, .int .i64 (j : Int))]) (fun j wl => (j ≤ i ∧ ∀ q (h : q < l.length), q < j → ¬ l[i].k = l[q].k) ∧ St X w wl [] [] [bI nF l[i].uv, jL s l, dJ l]) (fun j => i - j) 0 ⟨rfl, trivial⟩ ⟨⟨Nat.zero_le _, fun q _ h => absurd h (Nat.not_lt_zero _)⟩, H⟩ ?_
    intro j γ1 w4 hI
    try dsimp only at hI
    obtain ⟨⟨hj, JE⟩, H⟩ := hI
    refine WE.seq (WE.aA (WL.mv rfl rfl (WL.mv rfl rfl (WL.pv (PV.lss rfl rfl rfl) rfl (WL.nil ?_)))))
    refine WE.cond rfl (fun GN => ?_) (fun GN => ?_)
    ·
     try simp only [bW] at GN
     have aA8 : j < i := by omega
     refine WE.skip (WE.seq (WE.block ?_))
     refine WE.bF (.take 0 (.take 1 (.take 2 (.take 3 (.take 4 (.take 5 (.take 6 (.take 7 (.take 8 (.take 9 (.aG 10 .done))))))))))) mixed (by kernel_rfl) ?_
     replace H := H.out (Out.drew _)
     refine WP.mv rfl rfl rfl (WP.mv rfl rfl rfl ?_)
     refine WP.aC rfl rfl (PV.eQ rfl (by exact (H.p 1 rfl : (jL s l) _)) nU lD rfl rfl (by omega) (by omega)) ?_
     refine WP.aC rfl rfl (PV.dL rfl p6 rfl) ?_
     refine WP.aQ rfl rfl (RV.aY rfl eL rfl) ((NT (jL.rd (by exact (H.p 1 rfl : (jL s l) _)) i hlt))) ?_
     refine WP.mv rfl rfl rfl (WP.mv rfl rfl rfl ?_)
     refine WP.aC rfl rfl (PV.eQ rfl (by exact (H.p 1 rfl : (jL s l) _)) nU lD rfl rfl (by omega) (by omega)) ?_
     refine WP.aC rfl rfl (PV.dL rfl p6 rfl) ?_
     refine WP.aQ rfl rfl (RV.aY rfl eL rfl) ((NT (jL.rd (by exact (H.p 1 rfl : (jL s l) _)) j (by omega)))) ?_
     refine WP.aG rfl ?_
     refine WL.call aEB rfl (SQ (la := l[i].k) (lb := l[j].k) H.aS (show aH _ (bI l[i].sk l[i].k) _ from ((by exact (H.bN 2 rfl : aH _ (dJ l) _)) : aH _ (dJ l) _).imp fun _ h => h.k hlt) (show aH _ (bI l[j].sk l[j].k) _ from ((by exact (H.bN 2 rfl : aH _ (dJ l) _)) : aH _ (dJ l) _).imp fun _ h => h.k (by omega)) hvi.1) ?_
     rintro _ w5 ⟨rfl, hO⟩
     replace H := H.out hO
     refine WL.nil ⟨(fa (nw 10 9 (by decide +kernel)) (fa (nw 10 4 (by decide +kernel)) cV)), ?_⟩
     refine WP.done ?_
     refine WE.cond rfl (fun mH => ?_) (fun mH => ?_)
     ·
      try simp only [bW] at mH
      have hsame : l[i].k = l[j].k := (by exact mH)
      have sH : lN (l.take i) l[i] = 9 := by unfold lN; rw [if_neg (by simp [hr]), if_pos ⟨l[j], List.mem_take_iff_getElem.2 ⟨j, by omega, rfl⟩, hsame.symm⟩]
      rw [if_pos (by rw [sH]; decide), sH] at qM
      refine WE.aA (WL.mv rfl rfl (WL.as rfl rfl (WL.as rfl rfl (WL.nil (WE.ret ⟨[_, _], _, .nil _, ⟨rfl, rfl, trivial⟩, ?_⟩)))))
      refine ⟨?_, H.aM⟩
      show Value.tuple [.int .i64 ((i : Nat) : Int), .int .i64 9].toArray = _
      rw [← qM]
     ·
      try simp only [bW] at mH
      have aDQ : ¬ l[i].k = l[j].k := (by exact mH)
      refine WE.skip (WE.eM (WL.mv rfl rfl ?_))
      refine WL.pv (PV.eq (v' := .int .i64 ((j + 1 : Nat) : Int)) (PV.bZ rfl rfl rfl (by omega) (by omega)) (by rfl)) rfl ?_
      refine WL.as rfl rfl (WL.nil ?_)
      exact ⟨j + 1, (by repeat (first | with_reducible exact bQ.refl _ _ | refine bQ.dB rfl ?_ | refine bQ.cE rfl ?_ | refine bQ.cB rfl ?_)), ⟨rfl, trivial⟩, rfl, ⟨⟨by omega, fun q hq hqj => by rcases Nat.lt_or_ge q j with h_ | h_; exact JE q hq h_; (have e_ : q = j := by omega); subst e_; exact aDQ⟩, H⟩, (by omega)⟩
    ·
     try simp only [bW] at GN
     have hji : j = i := by omega
     refine WE.exit (WE.eM (WL.mv rfl rfl ?_))
     refine WL.pv (PV.eq (v' := .int .i64 ((i + 1 : Nat) : Int)) (PV.bZ rfl rfl rfl (by omega) (by omega)) (by rfl)) rfl ?_
     refine WL.as rfl rfl (WL.nil ?_)
     subst hji
     have sH : lN (l.take j) l[j] = 0 := uB.2 ⟨hr, fun x hx => by obtain ⟨q, hq, hqj, rfl⟩ := LC hx; exact fun e_ => JE q hq hqj e_.symm⟩
     rw [if_neg (by simp [sH])] at qM
     exact ⟨j + 1, (by repeat (first | with_reducible exact bQ.refl _ _ | refine bQ.dB rfl ?_ | refine bQ.cE rfl ?_ | refine bQ.cB rfl ?_)), ⟨rfl, trivial⟩, rfl, ⟨⟨by omega, qM⟩, H.rM [1, 2]⟩, (by omega)⟩
 ·
  try simp only [bW] at kC
  have uM : l.drop i = [] := List.drop_eq_nil_of_le (by omega)
  rw [uM] at qM
  have aBe : jK l = (0, 0) := qM.symm
  refine WE.exit (WE.aA (WL.as rfl rfl (WL.as rfl rfl (WL.nil (WE.ret ⟨[_, _], _, .nil _, ⟨rfl, rfl, trivial⟩, ?_⟩)))))
  refine ⟨?_, H.aM⟩
  rw [aBe]; rfl
theorem XE {X : Nat → Prop} {w : World} {s2 s : Value} {m : List En} {l : List Up} (hX : cW X w) (bU : aH X (gE s2 m) w) (dA : aH X (jL s l) w) (fO : aH X (dJ l) w) (hm : eT 1000 m) (DV : o4 m) (hg : nO l) (hlen : l.length ≤ 1000) :
  bD Tryz.prog 48 [s2, s].toArray w fun v w' => Out Nil w w' ∧ aH X (gE v (s5 m l) ) w' := by
 refine bD.aI (N := 36) Tryz.func48 rfl rfl (by simp) ?_
 have H := St.begin hX
 replace H := H.add (cF fO)
 replace H := H.add (cF dA)
 replace H := H.add (cF bU)
 have aHf : ∀ u ∈ l, u.sv.oneCell' = true := fun u hu => cS.fG ((fO.here) u hu).2
 refine WE.aA (WL.as rfl rfl (WL.nil (WE.seq (WE.aA (WL.as rfl rfl (WL.nil (WE.block ?_)))))))
 refine WE.loop (α := Nat × Value) [0, 5, 6, 7, 8, 9, 10, 11, 12, 13, 14, 15, 16, 17, 18, 19, 20, 21, 22, 23, 24, 25, 26, 27, 28, 29, 30, 31, 32, 33, 34] (fun p => [(5, .int .i64 (p.1 : Int)), (0, p.2)]) (fun p wl => (p.1 ≤ l.length ∧ o4 (s5 m (l.take p.1))) ∧ St X w wl [] [] [gE p.2 (s5 m (l.take p.1)), jL s l, dJ l]) (fun p => l.length - p.1) (0, s2) ⟨rfl, rfl, trivial⟩ ⟨⟨Nat.zero_le _, DV⟩, H⟩ ?_
 intro ⟨i, v_⟩ γ0 w1 hI
 try dsimp only at hI
 obtain ⟨⟨hi, hoo⟩, H⟩ := hI
 try dsimp only at hi hoo
 refine WE.seq (WE.aA (WL.mv rfl rfl (WL.mv rfl rfl ?_)))
 refine WL.pv (PV.dO (by exact (H.p 1 rfl : (jL s l) _)) nU rfl) rfl ?_
 refine WL.pv (PV.lss rfl rfl rfl) rfl (WL.nil ?_)
 refine WE.cond rfl (fun kS => ?_) (fun kS => ?_)
 ·
  try simp only [bW] at kS
  have hlt : i < l.length := by omega
  have hgi := c8.1 (hg.1 _ (List.getElem_mem hlt))
  have hki := hgi.1
  have hmi := eT.dB (l.take i) hm (fun u hu => hg.1 u (List.mem_of_mem_take hu))
  have yQ := hmi.l
  have htl : (l.take i).length ≤ l.length := by rw [List.length_take]; omega
  have CF := NV (m := m) hlt
  refine WE.skip ?_
  refine WE.cut (α := Value) [0, 6, 13, 14, 15, 16, 17, 18, 19, 20, 21, 22, 23, 24, 25, 26, 27, 28, 29, 30, 31, 32, 33, 34] (fun nF => [(0, nF)]) (fun nF wl => o4 (s5 m (l.take (i + 1))) ∧ St X w wl [] [] [gE nF (s5 m (l.take (i + 1))), jL s l, dJ l]) ?_ ?_
  ·
   refine WE.block (WE.aA (WL.mv rfl rfl (WL.mv rfl rfl ?_)))
   refine WL.pv (PV.eQ rfl (by exact (H.p 1 rfl : (jL s l) _)) nU lD rfl rfl (by omega) (by omega)) rfl ?_
   refine WL.pv (PV.dL rfl p6 rfl) rfl ?_
   refine WL.aZ rfl eL rfl rfl ((NT (jL.rd (by exact (H.p 1 rfl : (jL s l) _)) i hlt))) ?_
   refine WL.call Q6 rfl (r4 (lb := l[i].k) H.aS (show aH _ (bI l[i].sk l[i].k) _ from ((by exact (H.bN 2 rfl : aH _ (dJ l) _)) : aH _ (dJ l) _).imp fun _ h => h.k hlt) hki) ?_
   rintro _ w2 ⟨rfl, hO⟩
   replace H := H.out hO
   refine WL.alloc H rfl rO rfl ?_
   intro b6 w3 H
   refine WL.aT H 0 rfl rfl rfl (new := kc l[i].k) rfl (cI cN (by simp only [aR]; omega)) (by exact bK _) (Laid.at (Laid.all (by simp only [aR]; omega)) (by rfl)) rfl ?_
   intro w4 H
   refine WL.nil (WE.aA (WL.mv rfl rfl (WL.mv rfl rfl ?_)))
   refine WL.pv (PV.eQ rfl (by exact (H.p 1 rfl : (jL s l) _)) nU lD rfl rfl (by omega) (by omega)) rfl ?_
   refine WL.pv (PV.dL rfl vL rfl) rfl ?_
   refine WL.aZ rfl uD rfl rfl ((aCu (jL.rd (by exact (H.p 1 rfl : (jL s l) _)) i hlt))) ?_
   refine WL.nil ?_
   refine WE.cond rfl (fun lH => ?_) (fun lH => ?_)
   ·
    try simp only [bW] at lH
    have hd : l[i].d = true := (by exact lH)
    have hau : SA (s5 m (l.take i)) l[i] = eY (s5 m (l.take i)) l[i].k := if_pos hd
    refine WE.eM (WL.mv rfl rfl ?_)
    refine WL.bG rfl cU rfl rfl (by exact aK.aF (H.l 0 rfl) (aJ.all _) (by rfl)) (cI cN (by simp only [aR]; omega)) ?_
    refine WL.call aBx rfl (xZ (m := (s5 m (l.take i))) (q := l[i].k) H.aS (by exact (H.bN 0 rfl : aH _ (gE v_ (s5 m (l.take i))) _)) hmi.k hoo (by omega) hki) ?_
    rintro v26 w5 ⟨hO, hR⟩
    replace H := (H.out hO).add hR
    refine WL.as rfl rfl (WL.nil ?_)
    replace H := H.forget 0
    exact ⟨v26, (by repeat (first | with_reducible exact bQ.refl _ _ | refine bQ.dB rfl ?_)), ⟨rfl, trivial⟩, rfl, ⟨by rw [CF, hau]; exact fun e he => hoo e (iO.1 he).1, show St X w _ [] [] _ by rw [CF, hau]; exact H.rM [0, 2, 3]⟩⟩
   ·
    try simp only [bW] at lH
    have hd : l[i].d = false := (by exact lH)
    have hau : SA (s5 m (l.take i)) l[i] = gL (s5 m (l.take i)) ⟨l[i].k, l[i].sv, l[i].v⟩ := if_neg (by rw [hd]; decide)
    refine WE.draw (.take 0 (.take 1 (.take 2 (.take 3 (.take 4 (.take 5 (.take 6 (.aG 7 (.take 8 .done))))))))) mixed (by kernel_rfl) ?_
    replace H := H.out (Out.drew _)
    refine WP.mv rfl rfl rfl ?_
    refine WP.dF rfl rfl rfl cU rfl (by exact aK.aF (H.l 0 rfl) (aJ.all _) (by rfl)) (cI cN (by simp only [aR]; omega)) ?_
    refine WP.mv rfl rfl rfl (WP.mv rfl rfl rfl ?_)
    refine WP.aC rfl rfl (PV.eQ rfl (by exact (H.p 1 rfl : (jL s l) _)) nU lD rfl rfl (by omega) (by omega)) ?_
    refine WP.aC rfl rfl (PV.dL rfl p5 rfl) ?_
    refine WP.aQ rfl rfl (RV.aY rfl eL rfl) ((T4 (jL.rd (by exact (H.p 1 rfl : (jL s l) _)) i hlt))) ?_
    refine WP.aG rfl ?_
    refine WL.call aEC rfl (aAi (m := (s5 m (l.take i))) (q := l[i].k) (vv := l[i].v) H.aS (by exact (H.bN 0 rfl : aH _ (gE v_ (s5 m (l.take i))) _)) (show aH _ (bI l[i].sv l[i].v) _ from ((by exact (H.bN 2 rfl : aH _ (dJ l) _)) : aH _ (dJ l) _).imp fun _ h => h.v hlt) hmi.k hoo (by omega) hki) ?_
    rintro v34 w6 ⟨hO, hR⟩
    replace H := (H.out hO).add hR
    refine WL.nil ⟨(fa (nw 7 6 (by decide +kernel)) (fa (nw 7 1 (by decide +kernel)) cV)), ?_⟩
    refine WP.as rfl rfl rfl (WP.done ?_)
    replace H := H.forget 0
    exact ⟨v34, (by repeat (first | with_reducible exact bQ.refl _ _ | refine bQ.dB rfl ?_)), ⟨rfl, trivial⟩, rfl, ⟨by rw [CF, hau]; exact fun e he => by rcases mZ.1 he with rfl | he; exact aHf _ (List.getElem_mem hlt); exact hoo e he.1, show St X w _ [] [] _ by rw [CF, hau]; exact H.rM [0, 2, 3]⟩⟩
  ·
   intro nF γ w7 hI
   try dsimp only at hI
   obtain ⟨aHe, H⟩ := hI
   refine WE.eM (WL.mv rfl rfl ?_)
   refine WL.pv (PV.eq (v' := .int .i64 ((i + 1 : Nat) : Int)) (PV.bZ rfl rfl rfl (by omega) (by omega)) (by rfl)) rfl ?_
   refine WL.as rfl rfl (WL.nil ?_)
   exact ⟨(i + 1, nF), (by repeat (first | with_reducible exact bQ.refl _ _ | refine bQ.dB rfl ?_ | refine bQ.cE rfl ?_ | refine bQ.cB rfl ?_)), ⟨rfl, rfl, trivial⟩, rfl, ⟨⟨by dsimp only; omega, aHe⟩, H⟩, (by dsimp only; omega)⟩
 ·
  try simp only [bW] at kS
  have uM : l.take i = l := List.take_of_length_le (by omega)
  refine WE.exit (WE.aA (WL.mv rfl rfl (WL.as rfl rfl (WL.nil (WE.ret ⟨[_], _, .nil _, ⟨rfl, trivial⟩, ?_⟩)))))
  rw [uM] at H
  exact ⟨H.aM, H.gU (H.bN 0 rfl)⟩
theorem xP {X : Nat → Prop} {w : World} {a b : Value} {la lb : List UInt8} (hX : cW X w) (bU : aH X (bI a la) w) (dA : aH X (bI b lb) w) :
  bD Tryz.prog 143 [a, b].toArray w fun v w' => v = .int .i64 (Lib.compareBytes la lb) ∧ w' = w := by
 refine bD.aI (N := 8) Tryz.func143 rfl rfl (by simp) ?_
 have H := St.begin hX
 replace H := H.add (cF dA)
 replace H := H.add (cF bU)
 refine WE.aA (WL.as rfl rfl (WL.nil (WE.aA (WL.mv rfl rfl (WL.mv rfl rfl ?_)))))
 refine WL.extern (e := Extern.BytealgCompare.compare) (v := .int .i64 (Lib.compareBytes la lb)) Tryz.func184 (by kernel_rfl) (by kernel_rfl) (by kernel_rfl) (by kernel_rfl) rfl (rX (H.p 0 rfl) (H.p 1 rfl)) ?_
 refine WL.as rfl rfl (WL.nil (WE.ret ⟨[_], _, .nil _, ⟨rfl, trivial⟩, ?_⟩))
 exact ⟨rfl, rfl⟩
section
variable {r : Option Nat} {P : Program} {N : Nat} {σ : Env} {ds : List Deferred} {w : World} {ops : Array Oper} {o : Oper} {rest : List Oper} {K : Env → List Deferred → World → Prop}
theorem WL.W8 {t : TypeId} {x : Operand} {l : List Value} (h : o.op = .box t x) (hx : (ev σ x).cells = l.toArray) (hw : cC ops σ o = true)
  (k : WL r P N ops rest K (dB N σ o.dst (.pointer (some ⟨w.heap.size, 0, none⟩))) ds (w.alloc (.cells l.toArray t))) : WL r P N ops (o :: rest) K σ ds w :=
 WL.val (v := .pointer (some ⟨w.heap.size, 0, none⟩)) (w' := w.alloc (.cells l.toArray t)) hw (by unfold eG; rw [h]) (by
  obtain ⟨v, hv⟩ : ∃ v, v = ev σ x := ⟨_, rfl⟩
  rw [← hv] at hx
  simp [execOp, h, Instr.box, ← hv, qY (t := t) hx w]) k
theorem EW {w : World} {b : Nat} {t : TypeId} {l : List Value} (h : aK w b t l) : aH Nil (fun w => aK w b t l) w := fun w' hw => h.of_eq (hw b h.lt id)
end
theorem yY {X : Nat → Prop} {w : World} {k l : List UInt8} (hX : cW X w) (hk : k.length = 32) (hl : l.length = 32) :
  bD Tryz.prog 94 [.agg (kc k).toArray, .agg (kc l).toArray].toArray w fun v w' => v = .int .i64 (gP k l) ∧ ∃ q os, w' = Go.Sort.grow (w.drewN q) os := by
 refine bD.aI (N := 8) Tryz.func94 rfl rfl (by simp) ?_
 have H := St.begin hX
 refine WE.aA ?_
 refine WL.W8 (l := kc k) rfl rfl rfl ?_
 refine WL.W8 (l := kc l) rfl rfl rfl ?_
 refine WL.as rfl rfl (WL.nil ?_)
 refine WE.bF (.take 0 (.take 1 (.aG 2 (.take 3 .done)))) mixed (by kernel_rfl) ?_
 replace H := H.out (Out.drew _)
 have yU : aK ((w.alloc (.cells (kc k).toArray 24)).alloc (.cells (kc l).toArray 24)).drew w.heap.size 24 (kc k) := (Below.heap_alloc _ _ _ (by simp)).trans (World.alloc_heap_new w _)
 have sW : aK ((w.alloc (.cells (kc k).toArray 24)).alloc (.cells (kc l).toArray 24)).drew (w.heap.size + 1) 24 (kc l) := by have h_ := World.alloc_heap_new (w.alloc (.cells (kc k).toArray 24)) (.cells (kc l).toArray 24); rw [World.size_alloc] at h_; exact h_
 refine WP.aC rfl rfl (PV.fP rfl gQ (by rw [iB]; rfl) rfl) ?_
 refine WP.aC rfl rfl (PV.fP rfl gQ (by rw [iB]; rfl) rfl) ?_
 refine WP.aG rfl ?_
 refine WL.call ZX rfl (xP (X := Nil) (la := k) (lb := l) (mY _) ((EW yU).imp fun _ h => bI.cA h hk) ((EW sW).imp fun _ h => (by rw [World.size_alloc]; exact bI.cA h hl))) ?_
 rintro _ w3 ⟨rfl, rfl⟩
 rw [kF k l (by rw [hk, hl])]
 refine WL.nil ⟨cV, ?_⟩
 refine WP.as rfl rfl rfl (WP.done (WE.ret ⟨[_], _, .nil _, ⟨rfl, trivial⟩, ?_⟩))
 exact ⟨rfl, 1, #[.cells (kc k).toArray 24, .cells (kc l).toArray 24], by rw [Go.Sort.alloc_eq_grow, Go.Sort.alloc_eq_grow, Go.Sort.grow_grow]; rfl⟩
theorem aBE {X : Nat → Prop} {w : World} {c d : Ch} (hX : cW X w) (hc : c.k.length = 32) (hd : d.k.length = 32) :
  bD Tryz.prog 93 [.agg (dU c).toArray, .agg (dU d).toArray].toArray w fun v w' => v = .int .i64 (gP c.k d.k) ∧ ∃ q os, w' = Go.Sort.grow (w.drewN q) os := by
 refine bD.aI (N := 10) Tryz.func93 rfl rfl (by simp) ?_
 have H := St.begin hX
 refine WE.aA ?_
 refine WL.W8 (l := dU c) rfl rfl rfl ?_
 refine WL.W8 (l := dU d) rfl rfl rfl ?_
 refine WL.as rfl rfl (WL.nil (WE.aA ?_))
 have yU : aK ((w.alloc (.cells (dU c).toArray 127)).alloc (.cells (dU d).toArray 127)) w.heap.size 127 (dU c) := (Below.heap_alloc _ _ _ (by simp)).trans (World.alloc_heap_new w _)
 have sW : aK ((w.alloc (.cells (dU c).toArray 127)).alloc (.cells (dU d).toArray 127)) (w.heap.size + 1) 127 (dU d) := (by have h_ := World.alloc_heap_new (w.alloc (.cells (dU c).toArray 127)) (.cells (dU d).toArray 127); rw [World.size_alloc] at h_; exact h_)
 have LW : cX ((w.alloc (.cells (dU c).toArray 127)).alloc (.cells (dU d).toArray 127)) ⟨w.heap.size, 0 + 0, none⟩ (kc c.k) := aK.aF yU (o := 0) ⟨[], [c.s, .bool c.d], by simp [dU], rfl⟩ rfl
 have JH : cX ((w.alloc (.cells (dU c).toArray 127)).alloc (.cells (dU d).toArray 127)) ⟨(w.alloc (.cells (dU c).toArray 127)).heap.size, 0 + 0, none⟩ (kc d.k) := by rw [World.size_alloc]; exact aK.aF sW (o := 0) ⟨[], [d.s, .bool d.d], by simp [dU], rfl⟩ rfl
 refine WL.pv (PV.fieldAddr rfl p3 rfl) rfl ?_
 refine WL.bG rfl cU rfl rfl (LW) (cI cN (by simp only [aR, aU, aB]; omega)) ?_
 refine WL.pv (PV.fieldAddr rfl p3 rfl) rfl ?_
 refine WL.bG rfl cU rfl rfl (JH) (cI cN (by simp only [aR, aU, aB]; omega)) ?_
 refine WL.call aBs rfl (yY (X := Nil) (k := c.k) (l := d.k) (mY _) hc hd) ?_
 rintro _ w3 ⟨rfl, q, os, hw⟩
 refine WL.as rfl rfl (WL.nil (WE.ret ⟨[_], _, .nil _, ⟨rfl, trivial⟩, ?_⟩))
 refine ⟨rfl, q, (#[.cells (dU c).toArray 127] ++ #[.cells (dU d).toArray 127]) ++ os, ?_⟩
 rw [hw, Go.Sort.alloc_eq_grow, Go.Sort.alloc_eq_grow, Go.Sort.grow_grow]
 exact Go.Sort.grow_grow (w.drewN q) _ os
open Go.Sort Go.Lib
abbrev TW := { c : Ch // c.k.length = 32 ∧ c.s.oneCell' = true }
instance : Inhabited TW := ⟨⟨⟨List.replicate 32 0, .slice none 0 0, [], false⟩, by simp, rfl⟩⟩
def lX (x : TW) : List Value := dU x.1
def cfX (x y : TW) : Int := gP x.1.k y.1.k
theorem EJ (x : TW) : (lX x).length = 34 := iR x.2.1
theorem I6 (x y : TW) : ltOf cfX x y = decide (num x.1.k < num y.1.k) := by
 unfold ltOf cfX
 by_cases h : num x.1.k < num y.1.k
 ·
  rw [decide_eq_true (lL.2 h), decide_eq_true h]
 ·
  rw [decide_eq_false (fun h2 => h (lL.1 h2)), decide_eq_false h]
theorem aGK : Go.Sort.SWO (ltOf cfX) where
 irrefl x := by rw [I6]; simp
 trans x y z h1 h2 := by rw [I6] at *; simp at *; omega
 ntrans x y z h1 h2 := by rw [I6] at *; simp at *; omega
def IA : (l : List Ch) → (∀ c ∈ l, c.k.length = 32 ∧ c.s.oneCell' = true) → List TW
 | [], _ => []
 | c :: l, h => ⟨c, h c (by simp)⟩ :: IA l (fun x hx => h x (List.mem_cons_of_mem _ hx))
theorem sX : ∀ (l : List Ch) (h : ∀ c ∈ l, c.k.length = 32 ∧ c.s.oneCell' = true), (IA l h).map (·.1) = l
 | [], _ => rfl
 | c :: l, h => congrArg (c :: ·) (sX l fun x hx => h x (List.mem_cons_of_mem _ hx))
theorem KM (l : List Ch) (h : ∀ c ∈ l, c.k.length = 32 ∧ c.s.oneCell' = true) : (IA l h).length = l.length := by
 have := congrArg List.length (sX l h)
 simpa using this
theorem NM (d : List TW) : XL (d.map (·.1)) := fun c hc => by obtain ⟨x, _, rfl⟩ := List.mem_map.1 hc; exact x.2.1
theorem zW (d : Array TW) (j : Nat) (hj : j < d.size * 34) : some ((flatK lX 34 d)[j]!) = ((d.toList.map (·.1)).flatMap dU)[j]? := by
 have h1 : j / 34 < d.size := by omega
 have h2 : (d.toList.map (·.1)).length = d.size := by simp
 have h3 := sI (d.toList.map (·.1)) (NM d.toList).len (j / 34) (by rw [h2]; exact h1)
 have h4 : ((d.toList.map (·.1)).flatMap dU)[j]? = (dU (d.toList.map (·.1))[j / 34])[j % 34]? := by
  rw [← h3, List.getElem?_take_of_lt (by omega), List.getElem?_drop]
  congr 1
  omega
 have e : (d.toList.map (·.1))[j / 34]'(by rw [h2]; exact h1) = (d[j / 34]!).1 := by
  rw [List.getElem_map, Array.getElem_toList, getElem!_pos d _ h1]
 rw [get_flatK lX 34 d j hj, h4, e]
 show some (lX d[j / 34]!)[j % 34]! = (lX d[j / 34]!)[j % 34]?
 have h5 : j % 34 < (lX d[j / 34]!).length := by rw [EJ]; omega
 rw [List.getElem?_eq_getElem h5, getElem!_pos (lX d[j / 34]!) (j % 34) h5]
theorem RR {blk off size : Nat} {w : World} : CmpLays Tryz.prog 93 #[] lX 34 cfX blk off size w := fun m os dk _ x y => by
 have h := aBE (X := Nil) (w := sortWorldK lX 34 w blk off m dk os) (c := x.1) (d := y.1) (mY _) x.2.1 y.2.1
 refine h.calls.mono ?_
 rintro e w' ⟨v, rfl, rfl, q, os', hw⟩
 exact ⟨rfl, q, os', hw⟩
theorem K4 {w : World} {g : Nat} {d : Array Value} {cur : Array Value} {e : TypeId} {p : Nat × Nat} (h : w.heap[g]? = some (.cells cur e p)) : (putRow id w g 0 d).heap[g]? = some (.cells (putCells id 0 d cur) e p) := by
 unfold putRow mapBlock
 show (w.heap.modify g _)[g]? = _
 rw [Array.getElem?_modify, if_pos rfl, h]; rfl
theorem F1 {w : World} {g b : Nat} {d : Array Value} (hb : b ≠ g) : (putRow id w g 0 d).heap[b]? = w.heap[b]? := by
 unfold putRow mapBlock
 show (w.heap.modify g _)[b]? = _
 rw [Array.getElem?_modify, if_neg (fun h => hb h.symm)]
theorem yN {d cur : Array Value} (h : d.size ≤ cur.size) : (putCells id 0 d cur).size = cur.size ∧ (putCells id 0 d cur).toList.take d.size = d.toList := by
 have hs : (putCells id 0 d cur).size = cur.size := by simp [putCells]
 refine ⟨hs, List.ext_getElem? fun i => ?_⟩
 rw [List.getElem?_take]
 split
 ·
  rename_i hi
  rw [Array.getElem?_toList, Array.getElem?_toList, Array.getElem?_eq_getElem (by omega), Array.getElem?_eq_getElem hi]
  unfold putCells
  rw [Array.getElem_mapIdx, if_pos ⟨Nat.zero_le _, by omega⟩]
  show some d[i - 0]! = _
  rw [Nat.sub_zero, getElem!_pos d i hi]
 ·
  rename_i hi
  rw [Array.getElem?_toList, Array.getElem?_eq_none (by omega)]
theorem XN {w : World} {base : Nat} {v : Value} {l : List Ch} (hown : w.ownsRow base 127 34 v l.length (l.flatMap dU)) (hx : XL l) (gC : ∀ c ∈ l, c.s.oneCell' = true) (hd : M0 l) (hlen : l.length ≤ 1000000) :
  bD Tryz.prog 92 [v, .func (.func 93) #[] #[]].toArray w fun r w' => ∃ l' : List Ch, r = .tuple #[] ∧ l.Perm l' ∧ rN l' ∧ Out (fun b => v.ownBlock = some b) w w' ∧ w'.ownsRow base 127 34 v l'.length (l'.flatMap dU) := by
 refine bD.O7 ?_
 have hk : ∀ c ∈ l, c.k.length = 32 ∧ c.s.oneCell' = true := fun c hc => ⟨hx c hc, gC c hc⟩
 obtain ⟨h1, ⟨rfl, h2⟩ | ⟨g, cap, cur, rfl, hg, BO, jC, P5, hsz, DT⟩⟩ := hown
 ·
  have h3 : l = [] := List.eq_nil_of_length_eq_zero h2
  subst h3
  refine (AnyF.slices_SortFunc_none (P := Tryz.prog) (ρ := Tryz.y9) { Tryz.YK with } none 0 (.func (.func 93) #[] #[]) w).mono ?_
  rintro e w' ⟨rfl, rfl⟩
  exact ⟨_, rfl, [], rfl, List.Perm.refl _, List.Pairwise.nil, Out.refl _ _, by simp, .inl ⟨rfl, rfl⟩⟩
 ·
  obtain ⟨d, hdd⟩ : ∃ d : Array TW, d = (IA l hk).toArray := ⟨_, rfl⟩
  have hds : d.size = l.length := by rw [hdd]; simp [KM]
  have hdv : d.toList.map (·.1) = l := by rw [hdd]; exact sX l hk
  have hgl : g < w.heap.size := by
   rcases Nat.lt_or_ge g w.heap.size with h | h
   ·
    exact h
   ·
    rw [Array.getElem?_eq_none h] at BO; cases BO
  have hH : HoldsK lX 34 w g 0 d := fun j hj => by
   rw [size_flatK] at hj
   have h3 := zW d j hj
   rw [hdv, ← DT, List.getElem?_take_of_lt (by omega), Array.getElem?_toList] at h3
   refine ⟨?_, ?_⟩
   ·
    show w.cell? ⟨g, 0 + j, none⟩ = some ((flatK lX 34 d)[j]!)
    rw [h3, Nat.zero_add]
    simp [World.cell?, BO]
   ·
    simp [World.frozen?, BO]
  have aDR := AnyQ.slices_SortFunc Tryz.YK 34 (fun w => j4 sM w) (fun w => cK eB w) lX EJ (fun x v hv => k5 x.2.2 v hv) cfX aGK 93 #[] g 0 cap d w (fun args w => fK aHQ args w) RR hH hgl (by rw [hds]; omega)
  rw [hds] at aDR
  refine aDR.mono ?_
  rintro e w' ⟨rfl, sd, n, os, qL, VO, rfl⟩
  have hss : sd.size = l.length := by rw [qL.1, hds]
  obtain ⟨l', P8⟩ : ∃ l', l' = sd.toList.map (·.1) := ⟨_, rfl⟩
  have M8 : l'.length = l.length := by rw [P8, List.length_map, Array.length_toList, hss]
  have hx' : XL l' := P8 ▸ NM sd.toList
  have hp : l.Perm l' := by
   have h3 := qL.2.2
   rw [show d.extract 0 l.length = d by rw [← hds]; simp, show sd.extract 0 l.length = sd by rw [← hss]; simp] at h3
   have h4 := h3.map (fun x : TW => x.1)
   rw [hdv, ← P8] at h4
   exact h4.symm
  have hlt : rN l' := by
   have VU : M0 l' := hd.perm hp fun h e => h e.symm
   refine List.pairwise_iff_getElem.2 fun i j hi hj hij => ?_
   have hne := List.pairwise_iff_getElem.1 VU i j hi hj hij
   have hj2 : j < sd.size := by rw [hss, ← M8]; exact hj
   have h3 := VO i j (Nat.zero_le _) hij (by rw [← M8]; exact hj)
   rw [I6, decide_eq_false_iff_not, getElem!_pos sd j hj2, getElem!_pos sd i (by omega)] at h3
   have e1 : l'[i] = (sd[i]'(by omega)).1 := by simp [P8]
   have e2 : l'[j] = (sd[j]'hj2).1 := by simp [P8]
   rw [← e1, ← e2] at h3
   have h4 : num l'[i].k ≠ num l'[j].k := fun e => hne (sA _ _ (by rw [hx' _ (List.getElem_mem hi), hx' _ (List.getElem_mem hj)]) e)
   omega
  have JG : (flatK lX 34 sd).toList = l'.flatMap dU := List.ext_getElem? fun j => by
   rcases Nat.lt_or_ge j (sd.size * 34) with hj | hj
   ·
    have h3 := zW sd j hj
    rw [← P8] at h3
    rw [← h3, Array.getElem?_toList, Array.getElem?_eq_getElem (by rw [size_flatK]; exact hj), getElem!_pos _ j (by rw [size_flatK]; exact hj)]
   ·
    rw [Array.getElem?_toList, Array.getElem?_eq_none (by rw [size_flatK]; exact hj), List.getElem?_eq_none]
    rw [cZ _ hx'.len, M8, ← hss]; exact hj
  have hpt := yN (d := flatK lX 34 sd) (cur := cur) (by rw [size_flatK, hss, hsz]; exact Nat.mul_le_mul_right _ jC)
  have hat : (sortWorldK lX 34 w g 0 n sd os).heap[g]? = some (.cells (putCells id 0 (flatK lX 34 sd) cur) 127 (0, 0)) := by
   show ((putRow id (Go.Sort.ahead w n) g 0 (flatK lX 34 sd)).heap ++ os)[g]? = _
   have hc2 : (Go.Sort.ahead w n).heap[g]? = some (.cells cur 127 (0, 0)) := BO
   have h4 := K4 (d := flatK lX 34 sd) hc2
   rw [Array.getElem?_append_left (Array.getElem?_eq_some_iff.1 h4).1, h4]
  refine ⟨_, rfl, l', rfl, hp, hlt, ⟨rfl, rfl, rfl, ?_, fun b hb hn => ?_⟩, ?_⟩
  ·
   show w.heap.size ≤ ((putRow id (Go.Sort.ahead w n) g 0 (flatK lX 34 sd)).heap ++ os).size
   have : (putRow id (Go.Sort.ahead w n) g 0 (flatK lX 34 sd)).heap.size = w.heap.size := by show (w.heap.modify g _).size = _; simp
   rw [Array.size_append, this]; omega
  ·
   have hne : b ≠ g := fun h => hn (by subst h; rfl)
   have : (putRow id (Go.Sort.ahead w n) g 0 (flatK lX 34 sd)).heap.size = w.heap.size := by show (w.heap.modify g _).size = _; simp
   show ((putRow id (Go.Sort.ahead w n) g 0 (flatK lX 34 sd)).heap ++ os)[b]? = _
   rw [Array.getElem?_append_left (by rw [this]; exact hb), F1 hne]; rfl
  ·
   rw [← M8]
   refine ⟨?_, .inr ⟨g, cap, _, rfl, hg, hat, by rw [M8]; exact jC, P5, by rw [hpt.1, hsz], ?_⟩⟩
   ·
    rw [cZ _ hx'.len]
   ·
    have h5 := hpt.2
    rw [size_flatK, hss, JG] at h5
    rw [M8]; exact h5
theorem BG : Go.Maps.Keyed Tryz.prog 24 := Go.Maps.Keyed.of_law (Go.WideMaps.ArrKey.law (P := Tryz.prog) (k := 24) (e := 5) (n := 32) ⟨dZ gQ, by kernel_rfl, by kernel_rfl, by kernel_rfl⟩)
def wR (k : List UInt8) : List Lit := k.map fun x => Lit.int .u8 (x.toNat : Int)
def XV (k : List UInt8) : Lit := .string (keyBytes (wR k))
theorem DL {α β : Type} (f : α → Option β) (g : α → β) : ∀ l : List α, (∀ x ∈ l, f x = some (g x)) → l.mapM f = some (l.map g)
 | [], _ => rfl
 | x :: l, h => by
  rw [List.mapM_cons, h x (by simp), DL f g l fun y hy => h y (List.mem_cons_of_mem _ hy)]
  rfl
theorem EB {α β : Type} (f : α → β) : ∀ l : List α, (l.map fun i => [f i]).flatten = l.map f
 | [] => rfl
 | x :: l => by
  show [f x] ++ (l.map fun i => [f i]).flatten = f x :: l.map f
  rw [EB f l]; rfl
theorem wf8 (x : UInt8) : (Lit.int .u8 (x.toNat : Int)).wf = true := by
 have h1 : IntKind.u8.min = 0 := by kernel_rfl
 have h2 : IntKind.u8.max = 255 := by kernel_rfl
 have := x.toNat_lt
 show (decide (IntKind.u8.min ≤ (x.toNat : Int)) && decide ((x.toNat : Int) ≤ IntKind.u8.max)) = true
 rw [h1, h2, decide_eq_true (by omega), decide_eq_true (by omega)]; rfl
theorem GC (d : Nat) {k : List UInt8} (hk : k.length = 32) : (Tryz.prog).keyLits (d + 2) 24 (kc k) = some (wR k) := by
 have hu := dZ gQ
 have h8 := e9 pI
 have hc : (Tryz.prog).cellsOf 24 = 32 := by kernel_rfl
 have h1 : (Tryz.prog).cellsOf 5 = 1 := by kernel_rfl
 have hl : (kc k).length = 32 := by rw [aN, hk]
 unfold Program.keyLits
 rw [hu]
 simp only []
 rw [if_pos (by rw [hl, hc]), DL _ (fun i => [Lit.int .u8 ((k.getD i 0).toNat : Int)]) _ fun i hi => ?_]
 ·
  rw [Option.map_some]
  rw [EB]
  unfold wR
  congr 1
  refine List.ext_getElem (by simp [hk]) fun i h3 h4 => ?_
  rw [List.length_map] at h4
  rw [List.getElem_map, List.getElem_map, List.getElem_range, List.getD_eq_getElem?_getD, List.getElem?_eq_getElem h4]; rfl
 ·
  have hi' := List.mem_range.1 hi
  unfold Program.keyLits
  rw [h8, h1, Nat.mul_one]
  have e : ((kc k).drop i).take 1 = [.int .u8 ((k.getD i 0).toNat : Int)] := by
   rw [List.drop_eq_getElem_cons (by omega), List.take_succ_cons, List.take_zero]
   unfold kc
   rw [List.getElem_map, List.getD_eq_getElem?_getD, List.getElem?_eq_getElem (by omega)]; rfl
  rw [e]
  simp only []
  rw [if_pos ⟨trivial, wf8 _⟩]
theorem nC {k : List UInt8} (hk : k.length = 32) : keyOf Tryz.prog 24 (.agg (kc k).toArray) = some (XV k) := by
 have hu := dZ gQ
 have hc : (Tryz.prog).cellsOf 24 = 32 := by kernel_rfl
 have hkt : (Tryz.prog).keyType 24 = true := by kernel_rfl
 have hn : ∃ d, (Tryz.prog).types.size + 1 = d + 2 := ⟨(Tryz.prog).types.size - 1, by kernel_rfl⟩
 obtain ⟨d, hd⟩ := hn
 unfold keyOf
 rw [hu]
 simp only []
 have hf : Value.formed Tryz.prog 24 (.agg (kc k).toArray) = true := by
  unfold Value.formed
  rw [hu]
  simp only []
  rw [hc]
  simp [aN, hk]
 rw [if_pos (by rw [hkt, hf]; rfl), hd]
 have e : (Value.agg (kc k).toArray).cells.toList = kc k := rfl
 rw [e, GC d hk]; rfl
theorem S6 {k k' : List UInt8} (hk : k.length = 32) (hk' : k'.length = 32) (h : XV k = XV k') : k = k' := by
 have h1 := nC hk
 have h2 := nC hk'
 rw [← h] at h2
 have h3 := BG.inj h1 h2
 injection h3 with h4
 have h5 := congrArg Array.toList h4
 exact aAW h5
def aB2 (b : Nat) (ks : List (List UInt8)) (w : World) : Prop := ∃ D : DataW Unit, w.ownsMap Tryz.prog 24 (plainElem Tryz.prog 4) b ks.length D ∧ ∀ k, k.length = 32 → D.atKey (XV k) (.lit (.bool false)) = .lit (.bool (decide (k ∈ ks)))
theorem F6 {b n : Nat} {D : DataW Unit} {w w' : World} (h : w.ownsMap Tryz.prog 24 (plainElem Tryz.prog 4) b n D) (he : w'.heap[b]? = w.heap[b]?) : w'.ownsMap Tryz.prog 24 (plainElem Tryz.prog 4) b n D := by
 obtain ⟨es, clock, hb, F, hs, hD⟩ := h
 exact ⟨es, clock, he.trans hb, F, hs, hD⟩
def aO.DM (b : Nat) (ks : List (List UInt8)) : aO where
 fp := (· = b)
 ok := aB2 b ks
 loc := fun w w' h hb => by
  obtain ⟨D, h1, h2⟩ := hb
  exact ⟨D, F6 h1 (h b rfl), h2⟩
 lt := fun w h x hx => by
  subst hx
  obtain ⟨D, h1, _⟩ := h
  exact h1.lt
theorem MF {v : Value} {x : Bool} {ps : List MemPlace} (h : plainElem (H := Unit) Tryz.prog 4 v = some (.lit (.bool x), ps)) : v = .bool x := by
 unfold plainElem at h
 rw [l4 bo4] at h
 cases v <;> simp at h
 rw [h.1]
theorem J2 (x : Bool) : plainElem (H := Unit) Tryz.prog 4 (.bool x) = some (.lit (.bool x), []) := plainElem_bool (l4 bo4) x
theorem II : (Tryz.prog).underlying 197 = some (.map 24 4) := by kernel_rfl
section
variable {r : Option Nat} {N : Nat} {σ : Env} {ds : List Deferred} {w w0 : World} {ops : Array Oper} {o : Oper} {rest : List Oper} {K : Env → List Deferred → World → Prop} {X : Nat → Prop} {O L : List aO} {Ps : List (World → Prop)}
theorem WL.PI (H : St X w0 w O L Ps) (h : o.op = .makeMap 197 none) (hw : cC ops σ o = true)
  (k : ∀ b w', St X w0 w' O (aO.DM b [] :: L) Ps → WL r Tryz.prog N ops rest K (dB N σ o.dst (.map (some b))) ds w') : WL r Tryz.prog N ops (o :: rest) K σ ds w := by
 refine WL.val (v := .map (some w.heap.size)) (w' := w.alloc (.map #[] 0)) hw (by unfold eG; rw [h]) ?_ (k _ _ ?_)
 ·
  simp [execOp, h, run_makeMap]
 ·
  refine H.push (Out.alloc w _) _ ⟨.map [], World.ownsMap_made w Tryz.prog 24 (plainElem Tryz.prog 4), fun k _ => ?_⟩ fun b hb => by (cases hb; exact Nat.le_refl _)
  simp [DataW.atKey]
theorem WL.U6 {m x : Operand} {b : Nat} {ks : List (List UInt8)} {k : List UInt8} (H : St X w0 w O L Ps) (i : Nat) (h : o.op = .lookup 197 m x false) (hm : ev σ m = .map (some b)) (hx : ev σ x = .agg (kc k).toArray) (hi : L[i]? = some (aO.DM b ks)) (hk : k.length = 32) (hw : cC ops σ o = true)
  (c : WL r Tryz.prog N ops rest K (dB N σ o.dst (.bool (decide (k ∈ ks)))) ds w) : WL r Tryz.prog N ops (o :: rest) K σ ds w := by
 obtain ⟨D, h1, h2⟩ := (H.l i hi : aB2 b ks w)
 obtain ⟨v, ps, hrun, hv⟩ := h1.lookup BG II (z := .bool false) (s9 (P := Tryz.prog) (t := 4) (by kernel_rfl) w) (J2 false) (nC hk)
 rw [h2 k hk] at hv
 obtain rfl := MF hv
 exact WL.val hw (by unfold eG; rw [h]) (by simp [execOp, h, hm, hx, hrun]) c
theorem WL.T3 {m x y : Operand} {b : Nat} {ks : List (List UInt8)} {k : List UInt8} (H : St X w0 w O L Ps) (i : Nat) (h : o.op = .mapUpdate 197 m x y) (hm : ev σ m = .map (some b)) (hx : ev σ x = .agg (kc k).toArray) (hy : ev σ y = .bool true) (hi : L[i]? = some (aO.DM b ks)) (hk : k.length = 32) (hn : ks.length ≤ 1000000) (hw : cC ops σ o = true)
  (c : ∀ w', St X w0 w' O (L.set i (aO.DM b (ks ++ [k]))) Ps → WL r Tryz.prog N ops rest K (dB N σ o.dst undef) ds w') : WL r Tryz.prog N ops (o :: rest) K σ ds w := by
 obtain ⟨D, h1, h2⟩ := (H.l i hi : aB2 b ks w)
 obtain ⟨w', hrun, h3, h4⟩ := h1.update BG II (by unfold maxLen; omega) (nC hk) (J2 true)
 refine WL.unit (w' := w') hw (by unfold eG; rw [h]) (by simp [execOp, h, hm, hx, hy, hrun]) (c w' ?_)
 refine H.nW hi ((Out.grown h4).mono fun c _ hc => (Option.some.inj hc).symm) _ ⟨_, by rw [List.length_append]; exact h3, fun k' hk' => ?_⟩ fun _ h => .inl h
 by_cases he : k' = k
 ·
  subst he
  rw [Go.Maps.atKey_put_same h1.isMap (BG.key (nC hk))]
  simp
 ·
  rw [Go.Maps.atKey_put_other (fun e => he (S6 hk' hk e)), h2 k' hk']
  simp [he]
end
def upW (u : Up) : List Value := [u.sk] ++ ([u.ch.s] ++ [.bool u.d])
theorem Up.aBF (u : Up) : u.ch.s = if u.d then .slice none 0 0 else u.sv := rfl
theorem aCv {u : Up} (h : u.d = true) : upW u = [u.sk] ++ ([.slice none 0 0] ++ [.bool u.d]) := by unfold upW; rw [Up.aBF, if_pos h]
theorem aCw {u : Up} (h : u.d = false) : upW u = NW u := by unfold upW NW; rw [Up.aBF, if_neg (by rw [h]; decide)]
theorem nO.take_one {l : List Up} {i : Nat} (h : i < l.length) (hg : nO (l.take i)) (hb : lN (l.take i) l[i] = 0) : nO (l.take (i + 1)) := by
 rw [List.take_succ_eq_append_getElem h]; exact hg.snoc hb
theorem R4 {l : List Up} {u : Up} : lN l u = if bV u.k u.uv ≠ 0 then bV u.k u.uv else if u.k ∈ l.map Up.k then 9 else 0 := by
 unfold lN
 have e : (∃ x ∈ l, x.k = u.k) ↔ u.k ∈ l.map Up.k := by rw [List.mem_map]
 simp only [e]
theorem G1 {X : Nat → Prop} {w : World} {s : Value} {l : List Up} (hX : cW X w) (bU : aH X (jL s l) w) (dA : aH X (dJ l) w) (hlen : l.length ≤ 1000) (JB : ∀ u ∈ l, u.k.length ≤ 9223372036854775807 ∧ u.v.length ≤ 9223372036854775807) :
  bD Tryz.prog 54 [s].toArray w fun v w' => ∃ v1 v2, v = .tuple [v1, v2].toArray ∧ Out Nil w w' ∧ aH X (e8 [97, 112, 112, 108, 121] (((jK l).1 : Nat) : Int) (jK l).2 v2) w' ∧ ((jK l).2 = 0 → ∃ cs : List Ch, aH X (fV v1 cs) w' ∧ aH X (gJ cs) w' ∧ (l.map Up.ch).Perm cs ∧ rN cs) := by
 refine bD.aI (N := 59) Tryz.func54 rfl rfl (by simp) ?_
 have H := St.begin hX
 replace H := H.add (cF dA)
 replace H := H.add (cF bU)
 have gC := fun u (hu : u ∈ l) => UZ ((dA.here) u hu)
 have Y1 : ∀ u ∈ l, u.ch.s.oneCell' = true := fun u hu => by rw [Up.aBF]; split; rfl; exact cS.fG ((dA.here) u hu).2
 refine WE.aA (WL.as rfl rfl (WL.as rfl rfl (WL.nil (WE.aA (WL.as rfl rfl (WL.nil (WE.aA ?_)))))))
 refine WL.PI H rfl rfl ?_
 intro pQ w2 H
 refine WL.as rfl rfl (WL.nil (WE.seq (WE.aA (WL.mv rfl rfl ?_))))
 refine WL.pv (PV.dO (by exact (H.p 0 rfl : (jL s l) _)) nU rfl) rfl ?_
 refine WL.mv rfl rfl (WL.nil (WE.block ?_))
 replace H := H.lG 127 34
 replace H := H.perm (List.Perm.swap _ _ [])
 refine WE.loop (α := Nat × Value) [2, 3, 4, 6, 7, 8, 9, 13, 14, 15, 16, 17, 18, 19, 20, 21, 22, 23, 24, 25, 26, 27, 28, 29, 30, 31, 32, 33, 34, 35, 36, 37, 38, 39, 40, 41, 42, 43, 44, 45, 46, 47, 48, 49, 50, 51, 52, 53, 54, 55] (fun p => [(13, .int .i64 (p.1 : Int)), (4, p.2)]) (fun p wl => (p.1 ≤ l.length ∧ xN p.1 (l.take p.1) (l.drop p.1) = jK l ∧ nO (l.take p.1)) ∧ St X w wl [] [aO.DM pQ ((l.take p.1).map Up.k), aO.iA w.heap.size p.2 127 34 ((((l.take p.1).map Up.ch)).length) ((((l.take p.1).map Up.ch)).flatMap dU)] [jL s l, dJ l]) (fun p => l.length - p.1) (0, .slice none 0 0) ⟨rfl, rfl, trivial⟩ ⟨⟨Nat.zero_le _, by rw [List.take_zero, List.drop_zero]; rfl, ⟨fun _ h => (by cases h), List.Pairwise.nil⟩⟩, H⟩ ?_
 intro ⟨i, v_⟩ γ0 w3 hI
 try dsimp only at hI
 obtain ⟨⟨hi, qM, hgd⟩, H⟩ := hI
 try dsimp only at hi qM hgd
 refine WE.aA (WL.pv (PV.lss rfl rfl rfl) rfl (WL.nil (WE.seq ?_)))
 refine WE.cond rfl (fun q9 => ?_) (fun q9 => ?_)
 ·
  try simp only [bW] at q9
  have hlt : i < l.length := by omega
  have hvi := JB _ (List.getElem_mem hlt)
  have DU := AF l (l.length - i) i (by omega)
  rw [dif_pos hlt] at DU
  rw [DU] at qM
  have M9 := nB l[i].k
  have aJo := M9
  have hos := Y1 _ (List.getElem_mem hlt)
  have htl : (l.take i).length = i := by rw [List.length_take]; omega
  have pX : ((l.take i).map Up.ch).length = i := by rw [List.length_map]; exact htl
  have hbv := R4 (l := l.take i) (u := l[i])
  refine WE.skip (WE.seq (WE.block (WE.aA (WL.mv rfl rfl ?_))))
  refine WL.pv (PV.eQ rfl (by exact (H.p 0 rfl : (jL s l) _)) nU lD rfl rfl (by omega) (by omega)) rfl ?_
  refine WL.bG rfl aGe rfl rfl ((jL.rd (by exact (H.p 0 rfl : (jL s l) _)) i hlt)) (by exact lD) ?_
  refine WL.alloc H rfl NJ rfl ?_
  intro b7 w4 H
  refine WL.as rfl rfl ?_
  refine WL.aT H 0 rfl rfl rfl (new := NW l[i]) rfl (by exact lD) (gC _ (List.getElem_mem hlt)) (Laid.at (Laid.all (by rfl)) (by rfl)) rfl ?_
  intro w5 H
  refine WL.nil ?_
  refine WE.cut (α := Unit) [18, 19, 20] (fun _ => []) (fun _ wl => St X w wl [] [aO.blk b7 102 (upW l[i]), aO.DM pQ ((l.take i).map Up.k), aO.iA w.heap.size v_ 127 34 ((((l.take i).map Up.ch)).length) ((((l.take i).map Up.ch)).flatMap dU)] [jL s l, dJ l]) ?_ ?_
  ·
   refine WE.aA (WL.pv (PV.fieldAddr rfl vL rfl) rfl ?_)
   refine WL.aZ rfl uD rfl rfl (by exact aK.aF (H.l 0 rfl) (aJ.tl (aJ.tl aJ.hd rfl) rfl) (by rfl)) ?_
   refine WL.nil ?_
   refine WE.cond rfl (fun jJ => ?_) (fun jJ => ?_)
   ·
    try simp only [bW] at jJ
    have hd : l[i].d = true := (by exact jJ)
    refine WE.eM (WL.pv (PV.fieldAddr rfl p5 rfl) rfl ?_)
    refine WL.aT H 0 rfl rfl rfl (new := [.slice none 0 0]) rfl (by exact AW) (by exact bC _ rfl) (Laid.at (Laid.tail Laid.head rfl) (by rfl)) rfl ?_
    intro w6 H
    refine WL.nil ?_
    exact ⟨(), (by repeat (first | with_reducible exact bQ.refl _ _ | refine bQ.dB rfl ?_)), trivial, rfl, H.conv (by rw [aCv hd]; rfl)⟩
   ·
    try simp only [bW] at jJ
    have hd : l[i].d = false := (by exact jJ)
    refine WE.skip ?_
    exact ⟨(), (by repeat (first | with_reducible exact bQ.refl _ _ | refine bQ.dB rfl ?_)), trivial, rfl, H.conv (by rw [aCw hd]; rfl)⟩
  ·
   intro _ γ w7 hI
   try dsimp only at hI
   replace H := hI
   refine WE.aA (WL.pv (PV.fieldAddr rfl p6 rfl) rfl ?_)
   refine WL.aZ rfl eL rfl rfl (by exact aK.aF (H.l 0 rfl) aJ.hd (by rfl)) ?_
   refine WL.pv (PV.fieldAddr rfl p5 rfl) rfl ?_
   refine WL.aZ rfl eL rfl rfl (by exact aK.aF (H.l 0 rfl) (aJ.tl aJ.hd rfl) (by rfl)) ?_
   refine WL.call aEs rfl (JU (s := l[i].sk) (sv := l[i].ch.s) (lb := l[i].k) (vv := l[i].uv) H.aS (show aH _ (bI l[i].sk l[i].k) _ from ((by exact (H.bN 1 rfl : aH _ (dJ l) _)) : aH _ (dJ l) _).imp fun _ h => h.k hlt) (show aH _ (bI l[i].ch.s l[i].uv) _ from ((by exact (H.bN 1 rfl : aH _ (dJ l) _)) : aH _ (dJ l) _).imp fun _ h => h.uv hlt) hvi.1 (by unfold Up.uv; split; simp; exact hvi.2)) ?_
   rintro _ w8 ⟨rfl, hO⟩
   replace H := H.out hO
   refine WL.mv rfl rfl (WL.pv (PV.extract rfl rfl rfl) rfl (WL.pv (PV.extract rfl rfl rfl) rfl ?_))
   refine WL.alloc H rfl kL rfl ?_
   intro b8 w9 H
   refine WL.aT H 0 rfl rfl rfl (new := kc (jO l[i].k) ++ [l[i].ch.s]) rfl (cI fL (by simp only [aR, aU, aB]; omega)) (bO (bK _) (dV hos)) (Laid.at (Laid.all (by simp only [aR, aU, aB]; omega)) (by rfl)) rfl ?_
   intro vT H
   refine WL.as rfl rfl (WL.nil ?_)
   refine WE.cut (α := Unit) [9, 29, 30, 31, 32, 33, 34, 35, 36] (fun _ => [(9, .int .i64 (lN (l.take i) l[i]))]) (fun _ wl => St X w wl [] [aO.blk b8 111 (kc (jO l[i].k) ++ [l[i].ch.s]), aO.blk b7 102 (upW l[i]), aO.DM pQ ((l.take i).map Up.k), aO.iA w.heap.size v_ 127 34 ((((l.take i).map Up.ch)).length) ((((l.take i).map Up.ch)).flatMap dU)] [jL s l, dJ l]) ?_ ?_
   ·
    refine WE.aA (WL.mv rfl rfl (WL.pv (PV.eql rfl rfl rfl) rfl (WL.mv rfl rfl ?_)))
    refine WL.split (t := 31) rfl (fun GM => ?_) (fun GM => ?_)
    ·
     refine WL.known (t := 30) (c := true) rfl GM ?_
     try simp only [bW] at GM
     have PY : bV l[i].k l[i].uv = 0 := (by exact GM)
     have u0 : jO l[i].k = l[i].k := if_pos (c8.1 PY).1
     refine WL.mv rfl rfl (WL.pv (PV.fieldAddr rfl gW rfl) rfl ?_)
     refine WL.bG rfl cU rfl rfl (by exact aK.aF (H.l 0 rfl) (aJ.l (aJ.all _)) (by rfl)) (cI cN (by simp only [aR, aU, aB]; omega)) ?_
     refine WL.U6 H 2 rfl rfl rfl rfl M9 rfl ?_
     refine WL.pv (PV.dH rfl rfl rfl) rfl (WL.nil ?_)
     refine WE.cond rfl (fun oD => ?_) (fun oD => ?_)
     ·
      try simp only [bW] at oD
      have hin : l[i].k ∈ ((l.take i).map Up.k) := by rw [← u0]; exact (by exact oD)
      have hb9 : (9 : Int) = (lN (l.take i) l[i]) := by rw [hbv, if_neg (by simp [PY]), if_pos hin]
      refine WE.eM (WL.as rfl rfl (WL.nil ?_))
      exact ⟨(), (by repeat (first | with_reducible exact bQ.refl _ _ | refine bQ.dB rfl ?_)), ⟨(by (show Value.int .i64 _ = _; rw [hb9])), trivial⟩, rfl, H⟩
     ·
      try simp only [bW] at oD
      have hin : ¬ l[i].k ∈ ((l.take i).map Up.k) := by rw [← u0]; exact (by exact oD)
      have hb9 : bV l[i].k l[i].uv = (lN (l.take i) l[i]) := by rw [hbv, if_neg (by simp [PY]), if_neg hin, PY]
      refine WE.skip ?_
      exact ⟨(), (by repeat (first | with_reducible exact bQ.refl _ _ | refine bQ.dB rfl ?_)), ⟨(by (show Value.int .i64 _ = _; rw [hb9])), trivial⟩, rfl, H⟩
    ·
     refine WL.known (t := 30) (c := false) rfl GM ?_
     try simp only [bW] at GM
     have PY : ¬ bV l[i].k l[i].uv = 0 := (by exact GM)
     have hb9 : bV l[i].k l[i].uv = (lN (l.take i) l[i]) := by rw [hbv, if_pos PY]
     refine WL.off rfl (WL.off rfl (WL.off rfl (WL.off rfl (WL.pv (PV.c5 rfl rfl rfl) rfl (WL.nil (WE.iJ rfl (WE.skip ?_)))))))
     exact ⟨(), (by repeat (first | with_reducible exact bQ.refl _ _ | refine bQ.dB rfl ?_)), ⟨(by (show Value.int .i64 _ = _; rw [hb9])), trivial⟩, rfl, H⟩
   ·
    intro _ γ IE hI
    try dsimp only at hI
    replace H := hI
    refine WE.seq (WE.aA (WL.mv rfl rfl (WL.pv (PV.neq rfl rfl rfl) rfl (WL.nil ?_))))
    refine WE.cond rfl (fun xC => ?_) (fun xC => ?_)
    ·
     try simp only [bW] at xC
     have sH : (lN (l.take i) l[i]) ≠ 0 := (by exact xC)
     rw [if_pos sH] at qM
     refine WE.aA (WL.mv rfl rfl (WL.mv rfl rfl ?_))
     refine WL.call aBv rfl (GY (op := [97, 112, 112, 108, 121]) (ix := (i : Int)) (code := (lN (l.take i) l[i])) H.aS  ) ?_
     rintro v41 FI ⟨hO, hR⟩
     replace H := (H.out hO).add hR
     refine WL.as rfl rfl (WL.as rfl rfl (WL.nil (WE.ret ⟨[_, _], _, .nil _, ⟨rfl, rfl, trivial⟩, ?_⟩)))
     refine ⟨.slice none 0 0, v41, rfl, H.aM, ?_, fun h => ?_⟩
     ·
      rw [← qM]; exact H.gU (H.bN 0 rfl)
     ·
      rw [← qM] at h; exact absurd h sH
    ·
     try simp only [bW] at xC
     have sH : (lN (l.take i) l[i]) = 0 := (by exact xC)
     rw [if_neg (by simp [sH])] at qM
     have hz0 := uB.1 sH
     have tM := (c8.1 hz0.1).1
     have u0 : jO l[i].k = l[i].k := if_pos tM
     have hS : ((l.take (i + 1)).map Up.ch) = ((l.take i).map Up.ch) ++ [l[i].ch] := by rw [List.take_succ_eq_append_getElem hlt, List.map_append]; rfl
     have hSk : ((l.take (i + 1)).map Up.k) = ((l.take i).map Up.k) ++ [l[i].k] := by rw [List.take_succ_eq_append_getElem hlt, List.map_append]; rfl
     refine WE.skip (WE.aA (WL.mv rfl rfl (WL.pv (PV.fieldAddr rfl gW rfl) rfl ?_)))
     refine WL.bG rfl cU rfl rfl (by exact aK.aF (H.l 0 rfl) (aJ.l (aJ.all _)) (by rfl)) (cI cN (by simp only [aR, aU, aB]; omega)) ?_
     refine WL.T3 H 2 rfl rfl rfl rfl rfl M9 (by rw [List.length_map]; omega) rfl ?_
     intro NR H
     refine WL.nil (WE.eM (WL.mv rfl rfl (WL.pv (PV.fieldAddr rfl gW rfl) rfl ?_)))
     refine WL.bG rfl cU rfl rfl (by exact aK.aF (H.l 0 rfl) (aJ.l (aJ.all _)) (by rfl)) (cI cN (by simp only [aR, aU, aB]; omega)) ?_
     refine WL.pv (PV.fieldAddr rfl p4 rfl) rfl ?_
     refine WL.aZ rfl eL rfl rfl (by exact aK.aF (H.l 0 rfl) (aJ.r (aJ.all _) (by with_reducible rfl)) (by (simp [aN, bA, *]; done))) ?_
     refine WL.pv (PV.fieldAddr rfl vL rfl) rfl ?_
     refine WL.aZ rfl uD rfl rfl (by exact aK.aF (H.l 1 rfl) (aJ.tl (aJ.tl aJ.hd rfl) rfl) (by rfl)) ?_
     refine WL.pv (PV.dD rfl YT y5 (Fl.cons rfl (by rfl) (by simp only [aR, aU, aB]; omega) (Laid.left (Laid.all (by simp only [aR, aU, aB]; omega))) (Fl.cons rfl (cells_one hos) (by simp only [aR, aU, aB]) (Laid.right (Laid.left (Laid.all (by simp only [aR, aU, aB]))) (by simp only [aR, aU, aB]; omega)) (Fl.cons rfl (by rfl) (by simp only [aR, aU, aB]) (Laid.right (Laid.right (Laid.all (by simp only [aR, aU, aB])) (by with_reducible rfl)) (by simp only [aR, aU, aB]; omega)) Fl.nil)))) rfl ?_
     refine WL.bJ (l0 := ((kc (List.replicate 32 0) ++ ([.slice none 0 0] ++ ([.bool false]))))) H rfl uF (by decide) (by rfl) (Fl.cons rfl (by rfl) (by simp only [aR, aU, aB]; omega) (Laid.all (by simp only [aR, aU, aB]; omega)) Fl.nil) rfl ?_
     intro b53 TK H
     refine WL.append (m := 1) H 4 uF (by decide) rfl rfl rfl (cS.cA (n := 1) (H.l 0 rfl) (iR (c := ⟨jO l[i].k, l[i].ch.s, l[i].uv, l[i].d⟩) M9)) (k5 (c := ⟨jO l[i].k, l[i].ch.s, l[i].uv, l[i].d⟩) hos) (by omega) (by decide) rfl ?_
     intro v54 TJ H
     have BS := congrArg List.length hS
     rw [List.length_append, List.length_singleton] at BS
     have D6 := congrArg (List.flatMap dU) hS
     rw [List.flatMap_append, List.flatMap_singleton] at D6
     replace H := H.forget 0
     replace H := H.forget 0
     replace H := H.forget 0
     rw [u0] at H
     replace H := H.conv (L' := [aO.DM pQ ((l.take (i + 1)).map Up.k), aO.iA w.heap.size v54 127 34 ((((l.take (i + 1)).map Up.ch)).length) ((((l.take (i + 1)).map Up.ch)).flatMap dU)]) (by rw [BS, D6, hSk]; rfl)
     refine WL.as rfl rfl (WL.nil (WE.eM ?_))
     refine WL.pv (PV.eq (v' := .int .i64 ((i + 1 : Nat) : Int)) (PV.bZ rfl rfl rfl (by omega) (by omega)) (by rfl)) rfl ?_
     refine WL.mv rfl rfl (WL.nil ?_)
     exact ⟨(i + 1, v54), (by repeat (first | with_reducible exact bQ.refl _ _ | refine bQ.dB rfl ?_ | refine bQ.cE rfl ?_ | refine bQ.cB rfl ?_)), ⟨rfl, rfl, trivial⟩, rfl, ⟨⟨by dsimp only; omega, qM, hgd.take_one hlt sH⟩, H⟩, (by dsimp only; omega)⟩
 ·
  try simp only [bW] at q9
  have uM : l.take i = l := List.take_of_length_le (by omega)
  have hid : l.drop i = [] := List.drop_eq_nil_of_le (by omega)
  rw [hid] at qM
  have aBe : jK l = (0, 0) := qM.symm
  rw [uM] at hgd
  rw [uM] at H
  refine WE.exit (WE.aA (WL.mv rfl rfl ?_))
  refine WL.call aHR rfl (XN (l := l.map Up.ch) (H.l 1 rfl) hgd.ch.1 (fun c hc => by obtain ⟨u, hu, rfl⟩ := List.mem_map.1 hc; exact Y1 u hu) hgd.ch.2.1 (by rw [List.length_map]; omega)) ?_
  rintro _ TI ⟨cs, rfl, qL, BL, hO, gT⟩
  replace H := H.nW (i := 1) rfl hO (aO.iA w.heap.size v_ 127 34 cs.length (cs.flatMap dU)) gT (fun b hb => .inl hb)
  refine WL.nil (WE.aA (WL.mv rfl rfl (WL.as rfl rfl (WL.as rfl rfl (WL.nil (WE.ret ⟨[_, _], _, .nil _, ⟨rfl, rfl, trivial⟩, ?_⟩))))))
  refine ⟨v_, .nilIface, rfl, H.aM, ?_, fun _ => ⟨cs, ?_, ?_, qL, BL⟩⟩
  ·
   rw [aBe]; exact fun _ _ => .inl ⟨rfl, rfl⟩
  ·
   exact (pT hX (H.l 1 rfl)).imp fun _ h => cS.eH h
  ·
   exact H.gU ((show aH _ (dJ l) _ from (by exact (H.bN 1 rfl : aH _ (dJ l) _))).imp fun _ h c hc => by obtain ⟨u, hu, rfl⟩ := List.mem_map.1 (qL.mem_iff.2 hc); obtain ⟨q, hq, rfl⟩ := List.getElem_of_mem hu; exact h.uv hq)
theorem SK {X : Nat → Prop} {w : World} {bt bh bc : Nat} {bits c0 : Int} {T : Tr} {m : List En} {s sv : Value} {lb vv : List UInt8} (hX : cW X w) (eR : aK w bc 213 ([.int .i64 c0])) (yE : aK w bt 90 ([.pointer (some ⟨bh, 0, none⟩), T.ptr])) (bU : aH (fun c_ => X c_ ∨ c_ = bc ∨ c_ = bt) (fJ bh bc bits) w) (dA : aH (fun c_ => X c_ ∨ c_ = bc ∨ c_ = bt) (cQ bits T) w) (fO : aH (fun c_ => X c_ ∨ c_ = bc ∨ c_ = bt) (bI s lb) w) (jM : aH (fun c_ => X c_ ∨ c_ = bc ∨ c_ = bt) (bI sv vv) w) (oC : aH (fun c_ => X c_ ∨ c_ = bc ∨ c_ = bt) (aW) w) (hne : bc ≠ bt) (bS : 0 ≤ bits ∧ bits ≤ 256) (hT : T.er = grow 0 m) (hs : k7 m) (sS : KL m) (yQ : m.length ≤ 1000000) (DX : lb.length ≤ 9223372036854775807) (hvv : vv.length ≤ 9223372036854775807) :
  bD Tryz.prog 18 [.pointer (some ⟨bt, 0, none⟩), s, sv].toArray w fun v w' => ∃ (T' : Tr) (c' : Int) , T'.er = grow 0 (if bV lb vv = 0 then gL m ⟨lb, sv, vv⟩ else m) ∧ Out (fun c => c = bc ∨ c = bt) w w' ∧ aK w' bc 213 [.int .i64 c'] ∧ aK w' bt 90 [.pointer (some ⟨bh, 0, none⟩), T'.ptr] ∧ aH (fun c => X c ∨ c = bc ∨ c = bt) (cQ bits T') w' ∧ aH (fun c => X c ∨ c = bc ∨ c = bt) (e8 [112, 117, 116] 0 (bV lb vv) v) w' := by
 refine bD.aI (N := 32) Tryz.func18 rfl rfl (by simp) ?_
 have H := St.rH (b1 := bc) (b2 := bt) (t1 := 213) (t2 := 90) (l1 := [.int .i64 c0]) (l2 := [.pointer (some ⟨bh, 0, none⟩), T.ptr]) hX eR yE hne
 replace H := H.add (gK oC)
 replace H := H.add (gK jM)
 replace H := H.add (gK fO)
 replace H := H.add (gK dA)
 replace H := H.add (gK bU)
 have vD : sv.oneCell' = true := cS.fG (jM.here)
 have M9 := nB lb
 refine WE.aA (WL.as rfl rfl (WL.nil (WE.aA (WL.mv rfl rfl (WL.mv rfl rfl (WL.mv rfl rfl ?_))))))
 refine WL.call aBw rfl (vX (bt := bt) (op := [112, 117, 116]) (lb := lb) (vv := vv) H.aS (by exact H.bN 2 rfl) (by exact H.bN 3 rfl) (by assumption) (by assumption)) ?_
 rintro _ w1 ⟨oQ, rfl, hO, qN⟩
 have aBb := qN.here.ifv
 have sC := qN.here.isNil
 have VQ := qN.here.one
 replace H := (H.out hO).add qN
 refine WL.mv rfl rfl (WL.pv (PV.extract rfl rfl rfl) rfl (WL.pv (PV.extract rfl rfl rfl) rfl ?_))
 refine WL.alloc H rfl kL rfl ?_
 intro b7 w2 H
 refine WL.aT H 0 rfl rfl rfl (new := kc (jO lb) ++ [sv]) rfl (cI fL (by simp only [aR]; omega)) (bO (bK _) (dV vD)) (Laid.at (Laid.all (by simp only [aR]; omega)) (by rfl)) rfl ?_
 intro w3 H
 refine WL.as rfl rfl (WL.nil (WE.seq (WE.aA (WL.mv rfl rfl (WL.pv (PV.pN rfl (by kernel_rfl) (by assumption)) rfl (WL.nil ?_))))))
 refine WE.cond rfl (fun iC => ?_) (fun iC => ?_)
 ·
  try simp only [bW] at iC
  have hz : bV lb vv = 0 := by have h_ : iE oQ = true := iC; rw [sC] at h_; simpa using h_
  have tM := (c8.1 hz).1
  have aI8 := (c8.1 hz).2
  have u0 : jO lb = lb := if_pos tM
  refine WE.draw (.take 0 (.take 1 (.take 2 (.take 3 (.take 4 (.take 5 (.take 6 (.take 7 (.take 8 (.take 9 (.aG 10 (.take 11 (.take 12 (.aG 13 .done)))))))))))))) mixed (by kernel_rfl) ?_
  replace H := H.out (Out.drew _)
  refine WP.mv rfl rfl rfl (WP.mv rfl rfl rfl (WP.aC rfl rfl (PV.nilCheck rfl rfl) (WP.aC rfl rfl (PV.fieldAddr rfl xF rfl) ?_)))
  refine WP.aQ rfl rfl (RV.aY rfl u4 rfl) (by exact aK.aF (H.o 1 rfl) aJ.hd (by rfl)) ?_
  refine WP.mv rfl rfl rfl (WP.aC rfl rfl (PV.nilCheck rfl rfl) (WP.aC rfl rfl (PV.fieldAddr rfl oF rfl) ?_))
  refine WP.aQ rfl rfl (RV.aY rfl gZ rfl) (by exact aK.aF (H.o 1 rfl) (aJ.tl aJ.hd rfl) (by rfl)) ?_
  refine WP.dF rfl rfl rfl oS rfl (by exact aK.aF (H.l 0 rfl) (aJ.all _) (by rfl)) (cI fL (by simp only [aR]; omega)) ?_
  refine WP.aG rfl ?_
  refine WL.call aH5 rfl (aBX (T := T) (M := m) (k := jO lb) (lv := vv) (s := sv) (bits := bits) H.aS (H.o 0 rfl) (by exact (H.aL 0 rfl 1 rfl : aH _ (fJ bh bc bits) _)) (by exact (H.aL 0 rfl 2 rfl : aH _ (cQ bits T) _)) (by exact (H.aL 0 rfl 5 rfl : aH _ (aW) _)) bS M9 (by omega) (aH.wk1 (X := YY X _ _) (by exact (H.aL 0 rfl 4 rfl : aH _ (bI sv vv) _))) hT sS hs (by omega)) ?_
  rintro _ w4 ⟨aBS, aI0, rfl, aD2, hO, hB, hR⟩
  replace H := H.c9 0 rfl hO hB hR
  refine WL.nil ⟨(fa (nw 10 9 (by decide +kernel)) (fa (nw 10 8 (by decide +kernel)) (fa (nw 10 4 (by decide +kernel)) cV))), ?_⟩
  refine WP.aC rfl rfl (PV.nilCheck rfl rfl) (WP.aC rfl rfl (PV.fieldAddr rfl oF rfl) (WP.aG rfl ?_))
  refine WL.kV H 1 rfl rfl rfl (new := [aBS.ptr]) rfl (by exact lC) (by exact bC _ rfl) (Laid.at (Laid.tail Laid.head rfl) (by rfl)) rfl ?_
  intro w5 H
  refine WL.nil ⟨(fa (nw 13 9 (by decide +kernel)) (fa (nw 13 8 (by decide +kernel)) (fa (nw 13 4 (by decide +kernel)) cV))), ?_⟩
  refine WP.done (WE.aA (WL.mv rfl rfl (WL.as rfl rfl (WL.nil (WE.ret ⟨[_], _, .nil _, ⟨rfl, trivial⟩, ?_⟩)))))
  exact ⟨aBS, _, by rw [aD2, if_pos hz, u0], H.kU, H.o 0 rfl, H.o 1 rfl, H.fR (by exact (H.bN 0 rfl : aH _ (cQ bits aBS) _)), H.fR (by exact (H.bN 1 rfl : aH _ (e8 [112, 117, 116] 0 (bV lb vv) oQ) _))⟩
 ·
  try simp only [bW] at iC
  have hz : ¬ bV lb vv = 0 := by have h_ : iE oQ = false := iC; rw [sC] at h_; simpa using h_
  refine WE.skip (WE.aA (WL.mv rfl rfl (WL.as rfl rfl (WL.nil (WE.ret ⟨[_], _, .nil _, ⟨rfl, trivial⟩, ?_⟩)))))
  exact ⟨T, _, by rw [hT, if_neg hz], H.kU, H.o 0 rfl, H.o 1 rfl, H.fR (by exact (H.bN 2 rfl : aH _ (cQ bits T) _)), H.fR (by exact (H.bN 0 rfl : aH _ (e8 [112, 117, 116] 0 (bV lb vv) oQ) _))⟩
theorem aBT {X : Nat → Prop} {w : World} {bt bh : Nat} {bits : Int} {T : Tr} {m : List En} {s : Value} {lb : List UInt8} (hX : cW X w) (eR : aK w bt 90 ([.pointer (some ⟨bh, 0, none⟩), T.ptr])) (bU : aH (fun c_ => X c_ ∨ c_ = bt) (cQ bits T) w) (dA : aH (fun c_ => X c_ ∨ c_ = bt) (bI s lb) w) (hT : T.er = grow 0 m) (hs : k7 m) (sS : KL m) (yQ : m.length ≤ 1000000) (DX : lb.length ≤ 9223372036854775807) :
  bD Tryz.prog 19 [.pointer (some ⟨bt, 0, none⟩), s].toArray w fun v w' => ∃ sv2 ev, v = .tuple [sv2, .bool (decide (lb.length = 32) && iQ m lb), ev].toArray ∧ Out Nil w w' ∧ aH (fun c => X c ∨ c = bt) (bI sv2 (if lb.length = 32 then gV m lb else [])) w' ∧ aH (fun c => X c ∨ c = bt) (e8 [103, 101, 116] 0 (bV lb []) ev) w' := by
 refine bD.aI (N := 32) Tryz.func19 rfl rfl (by simp) ?_
 have H := St.c6 (b := bt) (t := 90) (l := [.pointer (some ⟨bh, 0, none⟩), T.ptr]) hX eR
 replace H := H.add (bY dA)
 replace H := H.add (bY bU)
 have M9 := nB lb
 have hrz := gR lb
 refine WE.aA (WL.as rfl rfl (WL.as rfl rfl (WL.as rfl rfl (WL.nil (WE.aA (WL.mv rfl rfl (WL.mv rfl rfl ?_)))))))
 refine WL.call aBw rfl (vX (bt := bt) (op := [103, 101, 116]) (lb := lb) (vv := []) H.aS (by exact H.bN 1 rfl) (by exact fun _ _ => bI.nil _) (by assumption) (by simp_all)) ?_
 rintro _ w1 ⟨xJ, rfl, hO, D7⟩
 have aHv := D7.here.ifv
 have JF := D7.here.isNil
 have aGA := D7.here.one
 replace H := (H.out hO).add D7
 refine WL.mv rfl rfl (WL.pv (PV.extract rfl rfl rfl) rfl (WL.pv (PV.extract rfl rfl rfl) rfl ?_))
 refine WL.alloc H rfl kL rfl ?_
 intro b7 w2 H
 refine WL.aT H 0 rfl rfl rfl (new := kc (jO lb) ++ [.slice none 0 0]) rfl (cI fL (by simp only [aR]; omega)) (by exact bO (bK _) (bC _ rfl)) (Laid.at (Laid.all (by simp only [aR]; omega)) (by rfl)) rfl ?_
 intro w3 H
 refine WL.as rfl rfl (WL.nil (WE.seq (WE.aA (WL.mv rfl rfl (WL.pv (PV.zL rfl (by kernel_rfl) (by assumption)) rfl (WL.nil ?_))))))
 refine WE.cond rfl (fun q8 => ?_) (fun q8 => ?_)
 ·
  try simp only [bW] at q8
  have hz : ¬ bV lb [] = 0 := by have h_ : iE xJ = false := q8; rw [JF] at h_; simpa using h_
  have FN : ¬ lb.length = 32 := fun h => hz (by rw [hrz, if_pos h])
  refine WE.aA (WL.mv rfl rfl (WL.as rfl rfl (WL.as rfl rfl (WL.as rfl rfl (WL.nil (WE.ret ⟨[_, _, _], _, .nil _, ⟨rfl, rfl, rfl, trivial⟩, ?_⟩))))))
  refine ⟨.slice none 0 0, xJ, ?_, (H.I1 eR), (fun w_ _ => by rw [if_neg FN]; exact bI.nil w_), H.fM (by exact (H.bN 0 rfl : aH _ (e8 [103, 101, 116] 0 (bV lb []) xJ) _))⟩
  rw [decide_eq_false FN]; rfl
 ·
  try simp only [bW] at q8
  have hz : bV lb [] = 0 := by have h_ : iE xJ = true := q8; rw [JF] at h_; simpa using h_
  have FN := (c8.1 hz).1
  have u0 : jO lb = lb := if_pos FN
  refine WE.skip ?_
  refine WE.bF (.take 0 (.take 1 (.take 2 (.take 3 (.take 4 (.take 5 (.aG 6 (.take 7 (.take 8 (.take 9 (.take 10 (.take 11 .done)))))))))))) mixed (by kernel_rfl) ?_
  replace H := H.out (Out.drew _)
  refine WP.mv rfl rfl rfl (WP.aC rfl rfl (PV.nilCheck rfl rfl) (WP.aC rfl rfl (PV.fieldAddr rfl oF rfl) ?_))
  refine WP.aQ rfl rfl (RV.aY rfl gZ rfl) (by exact aK.aF (H.o 0 rfl) (aJ.tl aJ.hd rfl) (by rfl)) ?_
  refine WP.aC rfl rfl (PV.fieldAddr rfl gW rfl) ?_
  refine WP.dF rfl rfl rfl cU rfl (by exact aK.aF (H.l 0 rfl) (aJ.l (aJ.all _)) (by rfl)) (cI cN (by simp only [aR]; omega)) ?_
  refine WP.aG rfl ?_
  refine WL.call aH4 rfl (aB6 (T := T) (m := m) (k := jO lb) (bits := bits) H.aS (by exact (H.bN 1 rfl : aH _ (cQ bits T) _)) M9 hT hs sS) ?_
  rintro _ w4 ⟨gv, rfl, hO, hG⟩
  replace H := (H.out hO).add (show aH _ (bI gv (gV m (jO lb))) _ from hG)
  refine WL.nil ⟨(fa (nw 6 5 (by decide +kernel)) (fa (nw 6 3 (by decide +kernel)) cV)), ?_⟩
  refine WP.mv rfl rfl rfl (WP.aC rfl rfl (PV.extract rfl rfl rfl) (WP.aC rfl rfl (PV.extract rfl rfl rfl) (WP.as rfl rfl rfl (WP.as rfl rfl rfl (WP.done (WE.aA (WL.mv rfl rfl ?_)))))))
  refine WL.mv rfl rfl (WL.as rfl rfl (WL.as rfl rfl (WL.as rfl rfl (WL.nil (WE.ret ⟨[_, _, _], _, .nil _, ⟨rfl, rfl, rfl, trivial⟩, ?_⟩)))))
  have P0 : xJ = .nilIface := by rcases D7.here with ⟨_, h_⟩ | ⟨h_, _⟩; exact h_; exact absurd hz h_
  refine ⟨gv, xJ, ?_, (H.I1 eR), (H.fM (by exact (H.bN 0 rfl : aH _ (bI gv (gV m (jO lb))) _))).imp (fun _ h => by rw [if_pos FN]; rw [u0] at h; exact h), H.fM (by exact (H.bN 1 rfl : aH _ (e8 [103, 101, 116] 0 (bV lb []) xJ) _))⟩
  rw [decide_eq_true FN, P0, u0]; rfl
theorem aBU {X : Nat → Prop} {w : World} {bt bh bc : Nat} {bits c0 : Int} {T : Tr} {m : List En} {s : Value} {lb : List UInt8} (hX : cW X w) (eR : aK w bc 213 ([.int .i64 c0])) (yE : aK w bt 90 ([.pointer (some ⟨bh, 0, none⟩), T.ptr])) (bU : aH (fun c_ => X c_ ∨ c_ = bc ∨ c_ = bt) (fJ bh bc bits) w) (dA : aH (fun c_ => X c_ ∨ c_ = bc ∨ c_ = bt) (cQ bits T) w) (fO : aH (fun c_ => X c_ ∨ c_ = bc ∨ c_ = bt) (bI s lb) w) (jM : aH (fun c_ => X c_ ∨ c_ = bc ∨ c_ = bt) (aW) w) (hne : bc ≠ bt) (bS : 0 ≤ bits ∧ bits ≤ 256) (hT : T.er = grow 0 m) (hs : k7 m) (sS : KL m) (yQ : m.length ≤ 1000000) (DX : lb.length ≤ 9223372036854775807) :
  bD Tryz.prog 20 [.pointer (some ⟨bt, 0, none⟩), s].toArray w fun v w' => ∃ (T' : Tr) (c' : Int) (ev : Value), v = .tuple [.bool (decide (lb.length = 32) && iQ m lb), ev].toArray ∧ T'.er = grow 0 (if bV lb [] = 0 then eY m lb else m) ∧ Out (fun c => c = bc ∨ c = bt) w w' ∧ aK w' bc 213 [.int .i64 c'] ∧ aK w' bt 90 [.pointer (some ⟨bh, 0, none⟩), T'.ptr] ∧ aH (fun c => X c ∨ c = bc ∨ c = bt) (cQ bits T') w' ∧ aH (fun c => X c ∨ c = bc ∨ c = bt) (e8 [100, 101, 108, 101, 116, 101] 0 (bV lb []) ev) w' := by
 refine bD.aI (N := 38) Tryz.func20 rfl rfl (by simp) ?_
 have H := St.rH (b1 := bc) (b2 := bt) (t1 := 213) (t2 := 90) (l1 := [.int .i64 c0]) (l2 := [.pointer (some ⟨bh, 0, none⟩), T.ptr]) hX eR yE hne
 replace H := H.add (gK jM)
 replace H := H.add (gK fO)
 replace H := H.add (gK dA)
 replace H := H.add (gK bU)
 have M9 := nB lb
 have hrz := gR lb
 refine WE.aA (WL.as rfl rfl (WL.as rfl rfl (WL.nil (WE.aA (WL.mv rfl rfl (WL.mv rfl rfl ?_))))))
 refine WL.call aBw rfl (vX (bt := bt) (op := [100, 101, 108, 101, 116, 101]) (lb := lb) (vv := []) H.aS (by exact H.bN 2 rfl) (by exact fun _ _ => bI.nil _) (by assumption) (by simp_all)) ?_
 rintro _ w1 ⟨oQ, rfl, hO, qN⟩
 have aBb := qN.here.ifv
 have sC := qN.here.isNil
 have VQ := qN.here.one
 replace H := (H.out hO).add qN
 refine WL.mv rfl rfl (WL.pv (PV.extract rfl rfl rfl) rfl (WL.pv (PV.extract rfl rfl rfl) rfl ?_))
 refine WL.alloc H rfl kL rfl ?_
 intro b6 w2 H
 refine WL.aT H 0 rfl rfl rfl (new := kc (jO lb) ++ [.slice none 0 0]) rfl (cI fL (by simp only [aR]; omega)) (by exact bO (bK _) (bC _ rfl)) (Laid.at (Laid.all (by simp only [aR]; omega)) (by rfl)) rfl ?_
 intro w3 H
 refine WL.as rfl rfl (WL.nil (WE.seq (WE.aA (WL.mv rfl rfl (WL.pv (PV.zL rfl (by kernel_rfl) (by assumption)) rfl (WL.nil ?_))))))
 refine WE.cond rfl (fun iC => ?_) (fun iC => ?_)
 ·
  try simp only [bW] at iC
  have hz : ¬ bV lb [] = 0 := by have h_ : iE oQ = false := iC; rw [sC] at h_; simpa using h_
  have FN : ¬ lb.length = 32 := fun h => hz (by rw [hrz, if_pos h])
  refine WE.aA (WL.mv rfl rfl (WL.as rfl rfl (WL.as rfl rfl (WL.nil (WE.ret ⟨[_, _], _, .nil _, ⟨rfl, rfl, trivial⟩, ?_⟩)))))
  refine ⟨T, _, oQ, ?_, by rw [hT, if_neg hz], H.kU, H.o 0 rfl, H.o 1 rfl, H.fR (by exact (H.bN 2 rfl : aH _ (cQ bits T) _)), H.fR (by exact (H.bN 0 rfl : aH _ (e8 [100, 101, 108, 101, 116, 101] 0 (bV lb []) oQ) _))⟩
  rw [decide_eq_false FN]; rfl
 ·
  try simp only [bW] at iC
  have hz : bV lb [] = 0 := by have h_ : iE oQ = true := iC; rw [sC] at h_; simpa using h_
  have FN := (c8.1 hz).1
  have u0 : jO lb = lb := if_pos FN
  refine WE.skip ?_
  refine WE.bF (.take 0 (.take 1 (.take 2 (.take 3 (.take 4 (.take 5 (.take 6 (.take 7 (.take 8 (.take 9 (.aG 10 (.take 11 (.take 12 (.take 13 (.take 14 (.take 15 .done)))))))))))))))) mixed (by kernel_rfl) ?_
  replace H := H.out (Out.drew _)
  refine WP.mv rfl rfl rfl (WP.aC rfl rfl (PV.nilCheck rfl rfl) (WP.aC rfl rfl (PV.fieldAddr rfl xF rfl) ?_))
  refine WP.aQ rfl rfl (RV.aY rfl u4 rfl) (by exact aK.aF (H.o 1 rfl) aJ.hd (by rfl)) ?_
  refine WP.mv rfl rfl rfl (WP.aC rfl rfl (PV.nilCheck rfl rfl) (WP.aC rfl rfl (PV.fieldAddr rfl oF rfl) ?_))
  refine WP.aQ rfl rfl (RV.aY rfl gZ rfl) (by exact aK.aF (H.o 1 rfl) (aJ.tl aJ.hd rfl) (by rfl)) ?_
  refine WP.aC rfl rfl (PV.fieldAddr rfl gW rfl) ?_
  refine WP.dF rfl rfl rfl cU rfl (by exact aK.aF (H.l 0 rfl) (aJ.l (aJ.all _)) (by rfl)) (cI cN (by simp only [aR]; omega)) ?_
  refine WP.aG rfl ?_
  refine WL.call aH3 rfl (MU (T := T) (M := m) (k := jO lb) (bits := bits) H.aS (H.o 0 rfl) (by exact (H.aL 0 rfl 1 rfl : aH _ (fJ bh bc bits) _)) (by exact (H.aL 0 rfl 2 rfl : aH _ (cQ bits T) _)) (by exact (H.aL 0 rfl 4 rfl : aH _ (aW) _)) bS M9 hT (hs.pm sS) (by omega)) ?_
  rintro _ w4 ⟨HK, aJw, aJt, rfl, QY, aDM, aIL, hO, hB, hR⟩
  replace H := H.c9 0 rfl hO hB hR
  refine WL.nil ⟨(fa (nw 10 9 (by decide +kernel)) (fa (nw 10 7 (by decide +kernel)) (fa (nw 10 3 (by decide +kernel)) cV))), ?_⟩
  refine WP.mv rfl rfl rfl (WP.aC rfl rfl (PV.extract rfl rfl rfl) (WP.aC rfl rfl (PV.extract rfl rfl rfl) (WP.as rfl rfl rfl (WP.as rfl rfl rfl (WP.done (WE.aA (WL.mv rfl rfl ?_)))))))
  refine WL.mv rfl rfl (WL.pv (PV.nilCheck rfl rfl) rfl (WL.pv (PV.fieldAddr rfl oF rfl) rfl ?_))
  refine WL.kV H 1 rfl rfl rfl (new := [HK.ptr]) rfl (by exact lC) (by exact bC _ rfl) (Laid.at (Laid.tail Laid.head rfl) (by rfl)) rfl ?_
  intro w5 H
  refine WL.nil (WE.aA (WL.mv rfl rfl (WL.as rfl rfl (WL.as rfl rfl (WL.nil (WE.ret ⟨[_, _], _, .nil _, ⟨rfl, rfl, trivial⟩, ?_⟩))))))
  have P0 : oQ = .nilIface := by rcases qN.here with ⟨_, h_⟩ | ⟨h_, _⟩; exact h_; exact absurd hz h_
  refine ⟨HK, _, oQ, ?_, by rw [QY, if_pos hz, u0], H.kU, H.o 0 rfl, H.o 1 rfl, H.fR (by exact (H.bN 0 rfl : aH _ (cQ bits HK) _)), H.fR (by exact (H.bN 1 rfl : aH _ (e8 [100, 101, 108, 101, 116, 101] 0 (bV lb []) oQ) _))⟩
  rw [decide_eq_true FN, P0, aDM, u0]; rfl
noncomputable def aFN : Array Value → Sem Value := (Extern.find Tryz.f252).getD fun _ => pure (.bool false)
theorem coE (w : World) : (aFN [.agg [(.pointer (some ⟨3, 42, none⟩))].toArray].toArray).run Tryz.prog w = .ok (.bool true) w := by kernel_rfl
theorem AE : ∀ (l b : List Up) (i : Nat), (xN i b l).2 = 0 → xN i b l = (0, 0)
 | [], _, _, _ => rfl
 | u :: l, b, i, h => by
  unfold xN at h ⊢
  by_cases hu : lN b u = 0
  ·
   rw [if_neg (by simp [hu])] at h ⊢
   exact AE l (b ++ [u]) (i + 1) h
  ·
   rw [if_pos hu] at h; exact absurd h hu
theorem MC {l : List Up} (h : (jK l).2 = 0) : (jK l).1 = 0 := by
 have := AE l [] 0 h
 unfold jK; rw [this]
theorem XL.perm {l l' : List Ch} (h : XL l) (hp : l.Perm l') : XL l' := fun c hc => h c (hp.mem_iff.2 hc)
theorem oL.perm {l l' : List Ch} (h : oL l) (hp : l.Perm l') : oL l' := fun c hc => h c (hp.mem_iff.2 hc)
theorem aDi {X : Nat → Prop} {w : World}  (hX : cW X w) :
  bD Tryz.prog 98 [.iface 42 (.int .i64 0), .iface 42 (.int .i64 0), .bool true].toArray w fun v w' => v = .bool true ∧ Out Nil w w' := by
 refine bD.aI (N := 54) Tryz.func98 rfl rfl (by simp) ?_
 have H := St.begin hX
 refine WE.aA (WL.as rfl rfl (WL.nil (WE.block ?_)))
 refine WE.jE 1 ?_
 refine dN.step ?_
 refine WE.block (WE.seq (WE.aA (WL.mv rfl rfl (WL.mv rfl rfl (WL.known (t := 15) (c := true) rfl rfl (WL.mv rfl rfl (WL.mv rfl rfl ?_)))))))
 refine WL.pv (PV.RJ rfl (by kernel_rfl) aG0 (by kernel_rfl) rfl rfl) rfl (WL.pv (PV.dH rfl rfl rfl) rfl (WL.nil ?_))
 refine WE.cO rfl rfl ?_
 refine WE.aA (WL.as rfl rfl (WL.nil (WE.ret ⟨[_], _, .nil _, ⟨rfl, trivial⟩, ?_⟩)))
 refine ⟨?_, H.aM⟩
 rfl
theorem aGr {X : Nat → Prop} {w : World}  (hX : cW X w) :
  bD Tryz.prog 56 [.iface 42 (.int .i64 0), .iface 42 (.int .i64 0)].toArray w fun v w' => v = .bool true ∧ Out Nil w w' := by
 refine bD.aI (N := 22) Tryz.func56 rfl rfl (by simp) ?_
 have H := St.begin hX
 refine WE.aA (WL.as rfl rfl (WL.nil (WE.seq (WE.aA (WL.mv rfl rfl ?_)))))
 refine WL.pv (PV.pN rfl (by kernel_rfl) (by exact yF.of)) rfl ?_
 refine WL.mv rfl rfl (WL.known (t := 8) (c := false) rfl rfl (WL.mv rfl rfl ?_))
 refine WL.pv (PV.pN rfl (by kernel_rfl) (by exact yF.of)) rfl ?_
 refine WL.pv (PV.c5 rfl rfl rfl) rfl (WL.nil ?_)
 refine WE.bB rfl rfl ?_
 refine WE.skip (WE.aA (WL.mv rfl rfl ?_))
 refine WL.extern (e := Extern.ReflectliteType.typeOf) Tryz.func97 (by kernel_rfl) (by kernel_rfl) (by kernel_rfl) (by kernel_rfl) rfl (toE 0 _) ?_
 refine WL.iY (e := aFN) rfl (fun w => meC _ w) Tryz.func252 (by kernel_rfl) (by kernel_rfl) (by kernel_rfl) (by kernel_rfl) rfl (coE _) ?_
 refine WL.as rfl rfl (WL.nil (WE.aA (WL.mv rfl rfl (WL.mv rfl rfl (WL.mv rfl rfl ?_)))))
 refine WL.call aHO rfl (aDi H.aS) ?_
 rintro _ w3 ⟨rfl, hO⟩
 replace H := H.out hO
 refine WL.as rfl rfl (WL.nil (WE.ret ⟨[_], _, .nil _, ⟨rfl, trivial⟩, ?_⟩))
 refine ⟨?_, H.aM⟩
 rfl
theorem SM {X : Nat → Prop} {w : World} {bt bh bc : Nat} {bits c0 : Int} {T : Tr} {m : List En} {s : Value} {l : List Up} (hX : cW X w) (eR : aK w bc 213 ([.int .i64 c0])) (yE : aK w bt 90 ([.pointer (some ⟨bh, 0, none⟩), T.ptr])) (bU : aH (fun c_ => X c_ ∨ c_ = bc ∨ c_ = bt) (fJ bh bc bits) w) (dA : aH (fun c_ => X c_ ∨ c_ = bc ∨ c_ = bt) (cQ bits T) w) (fO : aH (fun c_ => X c_ ∨ c_ = bc ∨ c_ = bt) (jL s l) w) (jM : aH (fun c_ => X c_ ∨ c_ = bc ∨ c_ = bt) (dJ l) w) (oC : aH (fun c_ => X c_ ∨ c_ = bc ∨ c_ = bt) (aW) w) (hne : bc ≠ bt) (bS : 0 ≤ bits ∧ bits ≤ 256) (hT : T.er = grow 0 m) (hs : k7 m) (sS : KL m) (yQ : m.length ≤ 1000) (hlen : l.length ≤ 1000) (JB : ∀ u ∈ l, u.k.length ≤ 9223372036854775807 ∧ u.v.length ≤ 9223372036854775807) :
  bD Tryz.prog 21 [.pointer (some ⟨bt, 0, none⟩), s].toArray w fun v w' => ∃ (T' : Tr) (c' : Int), T'.er = grow 0 (if (jK l).2 = 0 then s5 m l else m) ∧ Out (fun c => c = bc ∨ c = bt) w w' ∧ aK w' bc 213 [.int .i64 c'] ∧ aK w' bt 90 [.pointer (some ⟨bh, 0, none⟩), T'.ptr] ∧ aH (fun c => X c ∨ c = bc ∨ c = bt) (cQ bits T') w' ∧ aH (fun c => X c ∨ c = bc ∨ c = bt) (e8 [97, 112, 112, 108, 121] (((jK l).1 : Nat) : Int) (jK l).2 v) w' := by
 refine bD.aI (N := 43) Tryz.func21 rfl rfl (by simp) ?_
 have H := St.rH (b1 := bc) (b2 := bt) (t1 := 213) (t2 := 90) (l1 := [.int .i64 c0]) (l2 := [.pointer (some ⟨bh, 0, none⟩), T.ptr]) hX eR yE hne
 replace H := H.add (gK oC)
 replace H := H.add (gK jM)
 replace H := H.add (gK fO)
 replace H := H.add (gK dA)
 replace H := H.add (gK bU)
 refine WE.aA (WL.as rfl rfl (WL.nil (WE.seq (WE.aA (WL.mv rfl rfl (WL.pv (PV.iX rfl F3 rfl rfl) rfl (WL.nil ?_)))))))
 refine WE.bB rfl rfl ?_
 refine WE.skip (WE.aA (WL.mv rfl rfl ?_))
 refine WL.call aH2 rfl (G1 (s := s) (l := l) H.aS (by exact (H.bN 2 rfl : aH _ (jL s l) _)) (by exact (H.bN 3 rfl : aH _ (dJ l) _)) hlen JB) ?_
 rintro _ w1 ⟨v1_, v2_, rfl, hO, hE, hC⟩
 have aJq := hE.here.ifv
 have Y5 := hE.here.isNil
 replace H := (H.out hO).add (show aH _ (e8 [97, 112, 112, 108, 121] (((jK l).1 : Nat) : Int) (jK l).2 v2_) _ from hE)
 refine WL.mv rfl rfl (WL.pv (PV.extract rfl rfl rfl) rfl (WL.pv (PV.extract rfl rfl rfl) rfl (WL.as rfl rfl (WL.as rfl rfl (WL.nil (WE.seq (WE.aA ?_)))))))
 refine WL.mv rfl rfl (WL.pv (PV.zL rfl (by kernel_rfl) (by assumption)) rfl (WL.nil ?_))
 refine WE.cond rfl (fun q8 => ?_) (fun q8 => ?_)
 ·
  try simp only [bW] at q8
  have hz : ¬ (jK l).2 = 0 := by have h_ : iE v2_ = false := q8; rw [Y5] at h_; simpa using h_
  refine WE.aA (WL.mv rfl rfl (WL.as rfl rfl (WL.nil (WE.ret ⟨[_], _, .nil _, ⟨rfl, trivial⟩, ?_⟩))))
  exact ⟨T, _, by rw [hT, if_neg hz], H.kU, H.o 0 rfl, H.o 1 rfl, H.fR (by exact (H.bN 2 rfl : aH _ (cQ bits T) _)), H.fR (by exact (H.bN 0 rfl : aH _ (e8 [97, 112, 112, 108, 121] (((jK l).1 : Nat) : Int) (jK l).2 v2_) _))⟩
 ·
  try simp only [bW] at q8
  have hz : (jK l).2 = 0 := by have h_ : iE v2_ = true := q8; rw [Y5] at h_; simpa using h_
  obtain ⟨cs, hSc, hVc, qL, aHr⟩ := hC hz
  have hgu := (tW hz).ch
  have hxc := hgu.1.perm qL
  have aG8 := hgu.2.2.perm qL
  have hlc : cs.length = l.length := by rw [← qL.length_eq, List.length_map]
  have aHD : k8 m cs = s5 m l := by rw [aAs, SB qL hgu.2.1 hs sS hgu.1]
  replace H := (H.add hVc).add hSc
  refine WE.skip ?_
  refine WE.bF (.take 0 (.take 1 (.take 2 (.take 3 (.take 4 (.take 5 (.take 6 (.take 7 (.take 8 (.aG 9 (.take 10 (.take 11 (.take 12 (.take 13 (.take 14 .done))))))))))))))) mixed (by kernel_rfl) ?_
  replace H := H.out (Out.drew _)
  refine WP.mv rfl rfl rfl (WP.aC rfl rfl (PV.nilCheck rfl rfl) (WP.aC rfl rfl (PV.fieldAddr rfl xF rfl) ?_))
  refine WP.aQ rfl rfl (RV.aY rfl u4 rfl) (by exact aK.aF (H.o 1 rfl) aJ.hd (by rfl)) ?_
  refine WP.mv rfl rfl rfl (WP.aC rfl rfl (PV.nilCheck rfl rfl) (WP.aC rfl rfl (PV.fieldAddr rfl oF rfl) ?_))
  refine WP.aQ rfl rfl (RV.aY rfl gZ rfl) (by exact aK.aF (H.o 1 rfl) (aJ.tl aJ.hd rfl) (by rfl)) ?_
  refine WP.mv rfl rfl rfl (WP.aG rfl ?_)
  refine WL.call aH1 rfl (M3 (T := T) (m := m) (l := cs) (s := v1_) (bits := bits) H.aS (H.o 0 rfl) (by exact (H.aL 0 rfl 3 rfl : aH _ (fJ bh bc bits) _)) (by exact (H.aL 0 rfl 4 rfl : aH _ (cQ bits T) _)) (by exact (H.aL 0 rfl 0 rfl : aH _ (fV v1_ cs) _)) (by exact (H.aL 0 rfl 1 rfl : aH _ (gJ cs) _)) (by exact (H.aL 0 rfl 7 rfl : aH _ (aW) _)) bS hT hs sS hxc aG8 aHr.chk (by omega)) ?_
  rintro _ w2 ⟨HK, aIZ, rfl, QY, hO, hB, hR⟩
  replace H := H.c9 0 rfl hO hB hR
  refine WL.nil ⟨(fa (nw 9 7 (by decide +kernel)) (fa (nw 9 3 (by decide +kernel)) cV)), ?_⟩
  refine WP.mv rfl rfl rfl (WP.aC rfl rfl (PV.extract rfl rfl rfl) (WP.aC rfl rfl (PV.extract rfl rfl rfl) (WP.as rfl rfl rfl (WP.as rfl rfl rfl (WP.done (WE.seq (WE.aA ?_)))))))
  refine WL.mv rfl rfl (WL.pv (PV.kR rfl (by kernel_rfl)) rfl (WL.pv (PV.kR rfl (by kernel_rfl)) rfl ?_))
  refine WL.call aH0 rfl (aGr H.aS) ?_
  rintro _ w3 ⟨rfl, hO⟩
  replace H := H.out hO
  refine WL.nil ?_
  refine WE.cO rfl rfl ?_
  refine WE.eM (WL.mv rfl rfl (WL.mv rfl rfl (WL.pv (PV.nilCheck rfl rfl) rfl (WL.pv (PV.fieldAddr rfl oF rfl) rfl ?_))))
  refine WL.kV H 1 rfl rfl rfl (new := [HK.ptr]) rfl (by exact lC) (by exact bC _ rfl) (Laid.at (Laid.tail Laid.head rfl) (by rfl)) rfl ?_
  intro w4 H
  refine WL.nil (WE.aA (WL.mv rfl rfl ?_))
  refine WL.call aBv rfl (GY (op := [97, 112, 112, 108, 121]) (ix := 0) (code := 0) H.aS  ) ?_
  rintro v42 w5 ⟨hO, hR⟩
  replace H := (H.out hO).add hR
  refine WL.as rfl rfl (WL.nil (WE.ret ⟨[_], _, .nil _, ⟨rfl, trivial⟩, ?_⟩))
  exact ⟨HK, _, by rw [QY, if_pos hz, aHD], H.kU, H.o 0 rfl, H.o 1 rfl, H.fR (by exact (H.bN 1 rfl : aH _ (cQ bits HK) _)), (H.fR (H.bN 0 rfl)).imp fun _ h => by rw [MC hz, hz]; exact h⟩
end Go.Sp.Tryz
