/- Part of the proof of this claim: walks through the program's functions and the plain laws that they need, printed by a program of this session. -/
import Derived.Test.YthkombhebdjamaaGreatDoorP2
import Derived.Test.YthkombhebdjamaaGreatDoorIns
import Derived.LaidEqlPtr
import Derived.Test.YthkombhebdjamaaGreatDoorErrs
set_option maxRecDepth 100000
set_option maxHeartbeats 1000000
set_option linter.unusedVariables false
set_option linter.unusedSimpArgs false
namespace Go.Sp.Tryz
open Go.Proofs Go.RowKit Go.Sp Go.Sp.TryzT Go.Proofs.Tryz
variable {X : Nat → Prop} {w : World}
def qG : List (List UInt8) → Int
 | a :: b :: r => if iI a b = 0 then 9 else if 0 < iI a b then 8 else qG (b :: r)
 | _ => 0
theorem OK {l : List (List UInt8)} {i : Nat} (h : i + 1 < l.length) : qG (l.drop i) = if iI l[i] l[i + 1] = 0 then 9 else if 0 < iI l[i] l[i + 1] then 8 else qG (l.drop (i + 1)) := by
 rw [List.drop_eq_getElem_cons (by omega : i < l.length), List.drop_eq_getElem_cons h]
 rfl
theorem UA {l : List (List UInt8)} {i : Nat} (h : l.length ≤ i + 1) : qG (l.drop i) = 0 := by
 rcases Nat.lt_or_ge i l.length with hl | hl
 ·
  rw [List.drop_eq_getElem_cons hl, List.drop_eq_nil_of_le (by omega)]; rfl
 ·
  rw [List.drop_eq_nil_of_le hl]; rfl
theorem aAh {X : Nat → Prop} {w : World} {s : Value} {ks : List (List UInt8)} (hX : cY X w) (bU : aJ X (fB s ks) w) (nM : K32 ks) (hlen : ks.length ≤ 1000000) :
  bC prog 144 [s].toArray w fun v w' => v = .int .i64 (qG ks) ∧ Out Nil w w' := by
 refine bC.aH (N := 27) func144 rfl rfl (by simp) ?_
 have H := (St.begin hX).add (cE bU)
 refine WE.aA (WL.as rfl rfl (WL.nil (WE.seq (WE.aA (WL.as rfl rfl (WL.nil (WE.block ?_)))))))
 refine WE.loop (α := Nat) (rg [(2, 25)]) (fun i => [(3, .int .i64 ((i + 1 : Nat) : Int))]) (fun i wl => i ≤ ks.length ∧ qG (ks.drop i) = qG ks ∧ St X w wl [] [] [fB s ks]) (fun i => ks.length - i) 0 ⟨rfl, trivial⟩ ⟨Nat.zero_le _, rfl, H⟩ ?_
 intro i γ0 w1 hI
 try dsimp only at hI
 obtain ⟨hi, hch, H⟩ := hI
 refine WE.seq (WE.aA (WL.mv rfl rfl (WL.mv rfl rfl (WL.pv (PV.dR (H.p 0 rfl : fB s ks _) wZ rfl) rfl (WL.pv (PV.lss rfl rfl rfl) rfl (WL.nil ?_))))))
 refine WE.cond rfl (fun lT => ?_) (fun lT => ?_)
 ·
  try simp only [bW] at lT
  have hlt : i + 1 < ks.length := by omega
  have wG := nM _ (List.getElem_mem (show i < ks.length by omega))
  have G6 := nM _ (List.getElem_mem hlt)
  have hst := OK hlt
  refine WE.skip (WE.seq (WE.block ?_))
  refine WE.bH (.take 0 (.take 1 (.take 2 (.take 3 (.take 4 (.take 5 (.take 6 (.take 7 (.take 8 (.aG 9 (.take 10 .done))))))))))) mixed (by kernel_rfl) ?_
  replace H := H.out (Out.drew _)
  refine WP.mv rfl rfl rfl (WP.mv rfl rfl rfl ?_)
  refine WP.aC rfl rfl (PV.eq (v' := .int .i64 ((i : Nat) : Int)) (PV.gC rfl rfl rfl (by omega) (by omega)) (by congr 1; omega)) ?_
  refine WP.aC rfl rfl (PV.eA rfl (H.p 0 rfl : fB s ks _) wZ cL rfl rfl (by omega) (by omega)) ?_
  refine WP.dN rfl rfl rfl cZ rfl (fB.rd (H.p 0 rfl : fB s ks _) nM i (by omega)) (cK cL (by simp only [aS]; omega)) ?_
  refine WP.mv rfl rfl rfl (WP.mv rfl rfl rfl (WP.aC rfl rfl (PV.eA rfl (H.p 0 rfl : fB s ks _) wZ cL rfl rfl (by omega) (by omega)) ?_))
  refine WP.dN rfl rfl rfl cZ rfl (fB.rd (H.p 0 rfl : fB s ks _) nM (i + 1) (by omega)) (cK cL (by simp only [aS]; omega)) ?_
  refine WP.aG rfl ?_
  refine WL.call aCI rfl (rE (k := ks[i]) (l := ks[i + 1]) H.aR  wG G6) ?_
  rintro _ w2 ⟨rfl, hO⟩
  replace H := H.out hO
  refine WL.nil ⟨(fa (nw 9 8) (fa (nw 9 4) c5)), ?_⟩
  refine WP.as rfl rfl rfl (WP.done (WE.block (WE.aA (WL.mv rfl rfl (WL.pv (PV.eql rfl rfl rfl) rfl (WL.as rfl rfl (WL.nil ?_)))))))
  refine WE.cond rfl (fun pB => ?_) (fun pB => ?_)
  ·
   try simp only [bW] at pB
   have hz0 : iI ks[i] ks[i + 1] = 0 := by exact pB
   refine WE.aA (WL.as rfl rfl (WL.nil (WE.ret ⟨[_], _, .nil _, ⟨rfl, trivial⟩, ?_⟩)))
   refine ⟨?_, H.aL⟩
   rw [← hch, hst, if_pos hz0]; rfl
  ·
   try simp only [bW] at pB
   have hn0 : ¬ iI ks[i] ks[i + 1] = 0 := by exact pB
   refine WE.aA (WL.mv rfl rfl (WL.pv (PV.gtr rfl rfl rfl) rfl (WL.as rfl rfl (WL.nil ?_))))
   refine WE.cond rfl (fun CV => ?_) (fun CV => ?_)
   ·
    try simp only [bW] at CV
    have hp1 : 0 < iI ks[i] ks[i + 1] := by exact CV
    refine WE.aA (WL.as rfl rfl (WL.nil (WE.ret ⟨[_], _, .nil _, ⟨rfl, trivial⟩, ?_⟩)))
    refine ⟨?_, H.aL⟩
    (rw [← hch, hst, if_neg hn0, if_pos hp1]; rfl)
   ·
    try simp only [bW] at CV
    have V8 : ¬ 0 < iI ks[i] ks[i + 1] := by (have := CV; omega)
    refine WE.skip (WE.dY (WL.mv rfl rfl ?_))
    refine WL.pv (PV.eq (v' := .int .i64 ((i + 1 + 1 : Nat) : Int)) (PV.bT rfl rfl rfl (by omega) (by omega)) (by congr 1)) rfl ?_
    refine WL.as rfl rfl (WL.nil ?_)
    exact ⟨i + 1, (by repeat (first | with_reducible exact bM.refl _ _ | refine bM.dD rfl ?_ | refine bM.bY rfl ?_ | refine bM.bV rfl ?_)), ⟨rfl, trivial⟩, rfl, ⟨by omega, by rw [← hch, hst, if_neg hn0, if_neg V8], H⟩, (by omega)⟩
 ·
  try simp only [bW] at lT
  have hen := UA (l := ks) (i := i) (by omega)
  refine WE.exit (WE.aA (WL.as rfl rfl (WL.nil (WE.ret ⟨[_], _, .nil _, ⟨rfl, trivial⟩, ?_⟩))))
  refine ⟨?_, H.aL⟩
  rw [← hch, hen]; rfl
theorem gJ.one {s : Value} {l : List Ch} {w : World} (h : gI l w) : ∀ c ∈ l, c.s.oneCell' = true := fun c hc => cN.fX (h c hc)
theorem CB {l : List Ch} (h : ∀ c ∈ l, c.s.oneCell' = true) : eN (l.flatMap eC) := fun v hv => by
 obtain ⟨c, hc, hv⟩ := List.mem_flatMap.1 hv
 exact k3 (h c hc) v hv
theorem BF {α : Type} {l m : List α} {i j : Nat} (h : l.drop i = m.drop i) (hj : i ≤ j) : l.drop j = m.drop j := by
 have := congrArg (List.drop (j - i)) h
 rwa [List.drop_drop, List.drop_drop, show i + (j - i) = j by omega] at this
theorem zK {α : Type} {l : List α} {i : Nat} {x : α} (h : i < l.length) : (l.set i x).take (i + 1) = l.take i ++ [x] := by
 rw [List.take_succ_eq_append_getElem (by rw [List.length_set]; exact h), List.getElem_set_self, List.take_set, List.set_eq_of_length_le (by rw [List.length_take]; omega)]
theorem xU {l : List Ch} {i : Nat} (h : i < l.length) : eP (l.take (i + 1)) = if l[i].d then eP (l.take i) else eP (l.take i) ++ [l[i]] := by
 unfold eP
 rw [List.take_succ_eq_append_getElem h, List.filter_append]
 split
 ·
  rename_i h1; simp [h1]
 ·
  rename_i h1; simp [h1]
theorem AZ {l : List Ch} (h : ∀ c ∈ l, c.d = false) : eP l = l := List.filter_eq_self.2 fun c hc => by rw [h c hc]; rfl
theorem XL.set {l : List Ch} (h : XL l) (i : Nat) {x : Ch} (hx : x.k.length = 32) : XL (l.set i x) := fun e he => by
 rcases List.mem_or_eq_of_mem_set he with h1 | h1
 ·
  exact h e h1
 ·
  rw [h1]; exact hx
theorem gJ.JR {w : World} {g n cap : Nat} {t : TypeId} {rs : List Ch} {rest : List Value} (h : aN w g t (rs.flatMap eC ++ rest)) (hk : XL rs) (hn : rs.length = n) (hc : n ≤ cap) : cN w (.slice (some ⟨g, 0, none⟩) n cap) 34 n (rs.flatMap eC) := by
 have h1 := LL rs hk.len rest 0 (Nat.zero_le _)
 rw [List.drop_zero] at h1
 exact cN.nY (h.aF h1 (by simp)) (by rw [dB _ hk.len, hn]) hc
theorem aJ6 {w : World} {g j q : Nat} {t : TypeId} {rs ks : List Ch} {rest : List Value} (h : aN w g t (rs.flatMap eC ++ rest)) (hk : XL rs) (hrl : rs.length = ks.length) (hd : rs.drop q = ks.drop q) (hq : q ≤ j) (hl : j < ks.length) (n c : Nat) : dA w (jN (.slice (some ⟨g, 0, none⟩) n c) (j * 34)) (eC ks[j]) := by
 have h1 : rs[j]'(by omega) = ks[j] := by
  have e2 : (rs.drop q)[j - q]'(by rw [List.length_drop]; omega) = (ks.drop q)[j - q]'(by rw [List.length_drop]; omega) := by simp only [hd]
  rw [List.getElem_drop, List.getElem_drop] at e2
  simpa [show q + (j - q) = j by omega] using e2
 have h2 := gJ.rd (show gJ _ rs w from gJ.JR (cap := rs.length) h hk rfl (Nat.le_refl _)) hk j (by omega)
 rw [h1] at h2
 exact h2
theorem iN {g n cap lo hi : Nat} (h : lo < cap) : jJ (.slice (some ⟨g, 0, none⟩) n cap) 34 lo hi = .slice (some ⟨g, lo * 34, none⟩) (hi - lo) (cap - lo) := by
 show Value.slice (if cap = lo then _ else _) _ _ = _
 rw [if_neg (by omega)]
 simp [mJ]
theorem ZK {X : Nat → Prop} {w : World} {s : Value} {l : List Ch} (hX : cY X w) (bU : aJ X (gJ s l) w) (hx : XL l) (hlen : l.length ≤ 1000000) (gK : ∀ c ∈ l, c.s.oneCell' = true) :
  bC prog 95 [s].toArray w fun v w' => v = .int .i64 (qG (l.map Ch.k)) ∧ Out Nil w w' := by
 refine bC.aH (N := 6) func95 rfl rfl (by simp) ?_
 have H := (St.begin hX).add (cE bU)
 refine WE.aA (WL.as rfl rfl (WL.nil (WE.aA (WL.mv rfl rfl ?_))))
 refine WL.call aBb rfl (R2 (s := s) (l := l) (f := wH 146) H.aR (H.bK 0 rfl) hx hlen gK F6) ?_
 rintro v4 w1 ⟨hO, hR⟩
 replace H := (H.out hO).add hR
 refine WL.call aGO rfl (aAh (ks := l.map Ch.k) H.aR (H.bK 0 rfl) (GU hx) (by rw [List.length_map]; exact hlen)) ?_
 rintro _ w2 ⟨rfl, hO⟩
 replace H := H.out hO
 refine WL.as rfl rfl (WL.nil (WE.ret ⟨[_], _, .nil _, ⟨rfl, trivial⟩, ?_⟩))
 exact ⟨rfl, H.aL⟩
theorem zC {X : Nat → Prop} {w : World} {s : Value} {l : List Ch} (hX : cY X w) (bU : aJ X (gJ s l) w) (hx : XL l) (hlen : l.length ≤ 1000000) (gK : ∀ c ∈ l, c.s.oneCell' = true) :
  bC prog 149 [s].toArray w fun v w' => Out Nil w w' ∧ w'.ownsRow w.heap.size 127 34 v (l).length ((l).flatMap eC) := by
 refine bC.aH (N := 8) func149 rfl rfl (by simp) ?_
 have H := (St.begin hX).add (cE bU)
 refine WE.aA (WL.as rfl rfl (WL.nil (WE.seq (WE.aA (WL.mv rfl rfl (WL.pv (PV.aBi rfl (H.p 0 rfl : gJ s l _) dZ rfl rfl) rfl (WL.nil ?_)))))))
 refine WE.cond rfl (fun YN => ?_) (fun YN => ?_)
 ·
  try simp only [bW] at YN
  have h0 : l = [] := List.eq_nil_of_length_eq_zero (cN.RN (H.p 0 rfl : gJ s l _) YN)
  subst h0
  refine WE.aA (WL.as rfl rfl (WL.nil (WE.ret ⟨[_], _, .nil _, ⟨rfl, trivial⟩, ?_⟩)))
  exact ⟨H.aL, World.ownsRow_nil _ _ _ _⟩
 ·
  try simp only [bW] at YN
  refine WE.skip (WE.aA ?_)
  refine WL.bB (l0 := []) H rfl sF (by decide) rfl Fl.nil rfl ?_
  intro b5 w1 H
  replace H := H.AE (n := 0) (sz := 34) (i := 0) rfl rfl (by decide)
  refine WL.mv rfl rfl ?_
  refine WL.append H 0 sF (by decide) rfl rfl rfl (H.p 0 rfl : gJ s l _) (CB gK) (by omega) (by decide) rfl ?_
  intro v7 w2 H
  refine WL.as rfl rfl (WL.nil (WE.ret ⟨[_], _, .nil _, ⟨rfl, trivial⟩, ?_⟩))
  exact ⟨H.aL, by have h_ := H.l 0 rfl; rw [Nat.zero_add] at h_; exact h_⟩
theorem GW {X : Nat → Prop} {w : World} {s f : Value} {l : List Ch} (hX : cY X w) (bU : aJ X (gJ s l) w) (hx : XL l) (hlen : l.length ≤ 1000000) (hf : ∀ (c : Ch) (W : World), c.k.length = 32 → eQ prog f [.agg (eC c).toArray] W fun v W' => v = .bool c.d ∧ Out Nil W W') :
  bC prog 188 [s, f].toArray w fun v w' => ∃ z : Int, v = .int .i64 z ∧ Out Nil w w' ∧ ((z = -1 ∧ ∀ c ∈ l, c.d = false) ∨ ∃ i, ∃ h : i < l.length, z = ((i : Nat) : Int) ∧ l[i].d = true ∧ ∀ c ∈ l.take i, c.d = false) := by
 refine bC.aH (N := 19) func188 rfl rfl (by simp) ?_
 have H := (St.begin hX).add (cE bU)
 refine WE.aA (WL.as rfl rfl (WL.nil (WE.seq (WE.aA (WL.mv rfl rfl ?_)))))
 refine WL.pv (PV.dR (by exact (H.p 0 rfl : gJ s l _)) dZ rfl) rfl ?_
 refine WL.mv rfl rfl (WL.nil (WE.block ?_))
 refine WE.loop (α := Nat) (rg [(4, 2), (8, 11)]) (fun i => [(8, .int .i64 (i : Int))]) (fun i wl => i ≤ l.length ∧ (∀ c ∈ l.take i, c.d = false) ∧ St X w wl [] [] [gJ s l]) (fun i => l.length - i) 0 ⟨rfl, trivial⟩ ⟨Nat.zero_le _, (fun c hc => by simp at hc), H⟩ ?_
 intro i γ0 w1 hI
 try dsimp only at hI
 obtain ⟨hi, hall, H⟩ := hI
 refine WE.aA (WL.pv (PV.lss rfl rfl rfl) rfl (WL.nil (WE.seq ?_)))
 refine WE.cond rfl (fun uN => ?_) (fun uN => ?_)
 ·
  try simp only [bW] at uN
  have hlt : i < l.length := by omega
  have hki := hx _ (List.getElem_mem hlt)
  have I8 := iV hki
  refine WE.skip (WE.seq (WE.block (WE.aA (WL.mv rfl rfl (WL.as rfl rfl (WL.nil (WE.aA ?_)))))))
  refine WL.mv rfl rfl (WL.mv rfl rfl (WL.mv rfl rfl ?_))
  refine WL.pv (PV.eA rfl (by exact (H.p 0 rfl : gJ s l _)) dZ eH rfl rfl (by omega) (by omega)) rfl ?_
  refine WL.bE rfl tJ rfl rfl (gJ.rd (by exact (H.p 0 rfl : gJ s l _)) hx i hlt) (by (rw [eH]; refine congrArg some ?_; (simp [aI, aQ, *]; done))) ?_
  refine WL.iW rfl rfl (hf l[i] _ hki) ?_
  rintro _ w3 ⟨rfl, hO⟩
  replace H := H.out hO
  refine WL.nil ?_
  refine WE.cond rfl (fun nG => ?_) (fun nG => ?_)
  ·
   try simp only [bW] at nG
   have hd : l[i].d = true := by exact nG
   refine WE.aA (WL.mv rfl rfl (WL.as rfl rfl (WL.nil (WE.ret ⟨[_], _, .nil _, ⟨rfl, trivial⟩, ?_⟩))))
   exact ⟨_, rfl, H.aL, .inr ⟨i, hlt, rfl, hd, hall⟩⟩
  ·
   try simp only [bW] at nG
   have hd : l[i].d = false := by exact nG
   refine WE.skip (WE.dY (WL.pv (PV.eq (v' := .int .i64 ((i + 1 : Nat) : Int)) (PV.bT rfl rfl rfl (by omega) (by omega)) rfl) rfl (WL.mv rfl rfl (WL.nil ?_))))
   exact ⟨i + 1, (by repeat (first | with_reducible exact bM.refl _ _ | refine bM.dD rfl ?_ | refine bM.bY rfl ?_ | refine bM.bV rfl ?_)), ⟨rfl, trivial⟩, rfl, ⟨by omega, (fun c hc => by rw [List.take_succ_eq_append_getElem hlt] at hc; rcases List.mem_append.1 hc with h_ | h_; exact hall c h_; rw [List.mem_singleton.1 h_]; exact hd), H⟩, (by omega)⟩
 ·
  try simp only [bW] at uN
  have tO : i = l.length := by omega
  refine WE.exit (WE.aA (WL.as rfl rfl (WL.nil (WE.ret ⟨[_], _, .nil _, ⟨rfl, trivial⟩, ?_⟩))))
  exact ⟨_, rfl, H.aL, .inl ⟨rfl, fun c hc => by subst tO; rw [List.take_length] at hall; exact hall c hc⟩⟩
theorem VY {X : Nat → Prop} {w : World} {g cap : Nat} {f : Value} {l : List Ch} {rest : List Value} (hX : cY X w) (eY : aN w g 127 (l.flatMap eC ++ rest)) (hx : XL l) (hlen : l.length ≤ 1000000) (gK : ∀ c ∈ l, c.s.oneCell' = true) (jT : l.length ≤ cap) (hf : ∀ (c : Ch) (W : World), c.k.length = 32 → eQ prog f [.agg (eC c).toArray] W fun v W' => v = .bool c.d ∧ Out Nil W W') :
  bC prog 148 [.slice (some ⟨g, 0, none⟩) l.length cap, f].toArray w fun v w' => v = .slice (some ⟨g, 0, none⟩) (eP l).length cap ∧ Out (· = g) w w' ∧ ∃ KU, aN w' g 127 ((eP l).flatMap eC ++ KU) ∧ KU.length + (eP l).length * 34 = rest.length + l.length * 34 := by
 refine bC.aH (N := 42) func148 rfl rfl (by simp) ?_
 have H := St.dG (b := g) (t := 127) (l := l.flatMap eC ++ rest) hX eY
 have hkr := hx
 have hrl : l.length = l.length := rfl
 refine WE.aA (WL.as rfl rfl (WL.nil (WE.aA (WL.mv rfl rfl (WL.mv rfl rfl ?_)))))
 refine WL.call aA6 rfl (GW (X := Nil) (s := .slice (some ⟨g, 0, none⟩) l.length cap) (l := l) (f := f) (fun _ h => h.elim) ((H.aIn 0 rfl).imp fun _ h => gJ.JR h hx rfl jT) hx hlen hf) ?_
 rintro _ w1 ⟨z, rfl, hO, hz⟩
 replace H := H.out hO
 refine WL.as rfl rfl (WL.nil (WE.seq (WE.aA (WL.mv rfl rfl (WL.pv (PV.eql rfl rfl rfl) rfl (WL.nil ?_))))))
 refine WE.cond rfl (fun lJ => ?_) (fun lJ => ?_)
 ·
  try simp only [bW] at lJ
  have hz1 : z = -1 := by exact lJ
  have hlv : eP l = l := by rcases hz with ⟨_, h_⟩ | ⟨i_, h_, PK, _⟩; exact AZ h_; omega
  refine WE.aA (WL.mv rfl rfl (WL.as rfl rfl (WL.nil (WE.ret ⟨[_], _, .nil _, ⟨rfl, trivial⟩, ?_⟩))))
  rw [hlv]
  exact ⟨rfl, H.mS.mono fun b _ ⟨_, he, hb⟩ => (by cases List.mem_singleton.1 he; exact hb), rest, H.o 0 rfl, rfl⟩
 ·
  try simp only [bW] at lJ
  obtain ⟨i0, hi0, rfl, hd0, hall⟩ : ∃ i, ∃ h : i < l.length, z = ((i : Nat) : Int) ∧ l[i].d = true ∧ ∀ c ∈ l.take i, c.d = false := by rcases hz with ⟨h_, _⟩ | h_; exact absurd h_ (by exact lJ); exact h_
  have aIH : l.take i0 = eP (l.take (i0 + 1)) := by rw [xU hi0, if_pos hd0, AZ hall]
  refine WE.skip (WE.seq (WE.aA (WL.mv rfl rfl (WL.pv (PV.eq (v' := .int .i64 ((i0 + 1 : Nat) : Int)) (PV.bT rfl rfl rfl (by omega) (by omega)) rfl) rfl (WL.as rfl rfl (WL.nil (WE.block ?_)))))))
  refine WE.loop (α := Nat × Nat × List Ch) (rg [(5, 3), (16, 20)]) (fun q => [(5, .int .i64 (q.1 : Int)), (6, .int .i64 (q.2.1 : Int))]) (fun q wl => (q.1 + 1 ≤ q.2.1 ∧ q.2.1 ≤ l.length) ∧ (XL q.2.2 ∧ q.2.2.length = l.length) ∧ (q.2.2.take q.1 = eP (l.take q.2.1) ∧ q.2.2.drop q.2.1 = l.drop q.2.1) ∧ St X w wl [aP.blk g 127 ((q.2.2).flatMap eC ++ rest)] [] []) (fun q => l.length - q.2.1) (i0, i0 + 1, l) ⟨rfl, rfl, trivial⟩ ⟨⟨Nat.le_refl _, by dsimp only; omega⟩, ⟨hx, rfl⟩, ⟨aIH, rfl⟩, H⟩ ?_
  intro ⟨t, j, rs⟩ γ0 w2 hI
  try dsimp only at hI
  obtain ⟨⟨YF, hj⟩, ⟨hkr, hrl⟩, ⟨LD, hdr⟩, H⟩ := hI
  try dsimp only at YF hj hkr hrl LD hdr
  have hq1 : (((t, j, rs) : Nat × Nat × List Ch).snd.fst) = j := rfl
  have hq0 : (((t, j, rs) : Nat × Nat × List Ch).fst) = t := rfl
  refine WE.seq (WE.aA (WL.mv rfl rfl (WL.mv rfl rfl (WL.pv (PV.dR (gJ.JR (cap := cap) (H.o 0 rfl) hkr hrl jT) dZ rfl) rfl (WL.pv (PV.lss rfl rfl rfl) rfl (WL.nil ?_))))))
  refine WE.cond rfl (fun j4 => ?_) (fun j4 => ?_)
  ·
   try simp only [bW] at j4
   have hlt : j < l.length := by omega
   have hkj := hx _ (List.getElem_mem hlt)
   have I8 := iV hkj
   have DO := xU hlt
   refine WE.skip (WE.seq (WE.block (WE.aA (WL.mv rfl rfl (WL.mv rfl rfl ?_)))))
   refine WL.pv (PV.eA rfl (gJ.JR (cap := cap) (H.o 0 rfl) hkr hrl jT) dZ eH rfl rfl (by omega) (by omega)) rfl ?_
   refine WL.bE rfl tJ rfl rfl ((aJ6 (j := j) (q := j) (ks := l) (H.o 0 rfl) hkr hrl hdr (by omega) hlt _ _)) (by (rw [eH]; refine congrArg some ?_; (simp [aI, aQ, *]; done))) ?_
   refine WL.alloc H rfl wQ rfl ?_
   intro b7 w3 H
   refine WL.aW H 0 rfl rfl rfl (new := eC l[j]) rfl (by (rw [eH]; refine congrArg some ?_; (simp [aI, aQ, *]; done))) (k3 (gK _ (List.getElem_mem hlt))) (Laid.at (Laid.all (by simp only [aS]; omega)) rfl) rfl ?_
   intro w4 H
   refine WL.nil (WE.aA (WL.mv rfl rfl ?_))
   refine WL.bE rfl tJ rfl rfl (aN.aF (H.l 0 rfl) (aK.all _) rfl) (by (rw [eH]; refine congrArg some ?_; (simp [aI, aQ, *]; done))) ?_
   refine WL.iW rfl rfl (hf l[j] _ hkj) ?_
   rintro _ w6 ⟨rfl, hO⟩
   replace H := H.out hO
   refine WL.pv (PV.not rfl rfl) rfl (WL.nil ?_)
   refine WE.cond rfl (fun CU => ?_) (fun CU => ?_)
   ·
    try simp only [bW] at CU
    have hdj : l[j].d = false := by exact CU
    rw [if_neg (by rw [hdj]; decide)] at DO
    let t2 := t + 1
    let QT := rs.set t l[j]
    have ht2 : t2 ≤ t + 1 := Nat.le_refl _
    have aCs : XL QT := hkr.set _ hkj
    have aCm : QT.length = l.length := by show (rs.set _ _).length = _; rw [List.length_set]; exact hrl
    have aCk : QT.take t2 = eP (l.take (j + 1)) := by show (rs.set t l[j]).take (t + 1) = _; rw [DO, ← LD, zK (by omega)]
    have aCw : QT.drop (j + 1) = l.drop (j + 1) := by show (rs.set t l[j]).drop _ = _; rw [List.drop_set_of_lt (by omega)]; exact BF hdr (by omega)
    refine WE.aA (WL.mv rfl rfl (WL.mv rfl rfl ?_))
    refine WL.bE rfl tJ rfl rfl (aN.aF (H.l 0 rfl) (aK.all _) rfl) (by (rw [eH]; refine congrArg some ?_; (simp [aI, aQ, *]; done))) ?_
    refine WL.pv (PV.eq (v' := .pointer (some ⟨g, t * 34, none⟩)) (PV.eA rfl (gJ.JR (cap := cap) (H.o 0 rfl) hkr hrl jT) dZ eH rfl rfl (by omega) (by omega)) (by show Value.pointer (some ((⟨g, 0, none⟩ : Addr).add (Int.toNat (t : Int) * 34))) = _; rw [mJ, Int.toNat_natCast, Nat.zero_add])) rfl ?_
    refine WL.lH H 0 rfl rfl rfl (new := eC l[j]) rfl (by (rw [eH]; refine congrArg some ?_; (simp [aI, aQ, *]; done))) (k3 (gK _ (List.getElem_mem hlt))) (oE (C := eC) rs hkr.len rest (i := t) (by omega) I8 rfl) rfl ?_
    intro w8 H
    refine WL.nil (WE.dY (WL.mv rfl rfl (WL.pv (PV.eq (v' := .int .i64 ((t + 1 : Nat) : Int)) (PV.bT rfl rfl rfl (by omega) (by omega)) rfl) rfl (WL.as rfl rfl (WL.nil (WE.dY (WL.mv rfl rfl ?_)))))))
    refine WL.pv (PV.eq (v' := .int .i64 ((j + 1 : Nat) : Int)) (PV.bT rfl rfl rfl (by omega) (by omega)) rfl) rfl (WL.as rfl rfl (WL.nil ?_))
    replace H := H.forget 0
    exact ⟨(t2, j + 1, QT), (by repeat (first | with_reducible exact bM.refl _ _ | refine bM.dD rfl ?_ | refine bM.bY rfl ?_ | refine bM.bV rfl ?_)), ⟨rfl, rfl, trivial⟩, rfl, ⟨⟨by dsimp only; omega, by dsimp only; omega⟩, ⟨aCs, aCm⟩, ⟨aCk, aCw⟩, H⟩, (by dsimp only; omega)⟩
   ·
    try simp only [bW] at CU
    have hdj : l[j].d = true := by exact CU
    rw [if_pos hdj] at DO
    let t2 := t
    let QT := rs
    have ht2 : t2 ≤ t + 1 := Nat.le_succ _
    have aCs : XL QT := hkr
    have aCm : QT.length = l.length := hrl
    have aCk : QT.take t2 = eP (l.take (j + 1)) := by rw [DO]; exact LD
    have aCw : QT.drop (j + 1) = l.drop (j + 1) := BF hdr (by omega)
    refine WE.skip (WE.dY (WL.mv rfl rfl (WL.pv (PV.eq (v' := .int .i64 ((j + 1 : Nat) : Int)) (PV.bT rfl rfl rfl (by omega) (by omega)) rfl) rfl (WL.as rfl rfl (WL.nil ?_)))))
    replace H := H.forget 0
    exact ⟨(t2, j + 1, QT), (by repeat (first | with_reducible exact bM.refl _ _ | refine bM.dD rfl ?_ | refine bM.bY rfl ?_ | refine bM.bV rfl ?_)), ⟨rfl, rfl, trivial⟩, rfl, ⟨⟨by dsimp only; omega, by dsimp only; omega⟩, ⟨aCs, aCm⟩, ⟨aCk, aCw⟩, H⟩, (by dsimp only; omega)⟩
  ·
   try simp only [bW] at j4
   have hje : j = l.length := by omega
   refine WE.exit (WE.aA (WL.mv rfl rfl (WL.mv rfl rfl ?_)))
   refine WL.pv (PV.eq (v' := .slice (some ⟨g, t * 34, none⟩) (l.length - t) (cap - t)) (PV.qZ rfl (gJ.JR (cap := cap) (H.o 0 rfl) hkr hrl jT) dZ eH rfl rfl (by omega) (by omega)) (iN (by omega))) rfl ?_
   have CX := (gJ.JR (cap := cap) (H.o 0 rfl) hkr hrl jT)
   refine WL.aCW (sz := 34) (zl := _) H 0 dZ wQ (bA _ rfl) rfl rfl rfl (by omega) (by rw [List.length_append, dB _ hkr.len, hrl]; omega) rfl ?_
   intro wT new hnl H
   refine WL.nil (WE.aA (WL.mv rfl rfl (WL.mv rfl rfl ?_)))
   refine WL.pv (PV.eq (v' := .slice (some ⟨g, 0, none⟩) t cap) (PV.WU rfl CX dZ eH rfl rfl (by omega) (by omega)) (by have h_ := iN (g := g) (n := l.length) (cap := cap) (lo := 0) (hi := t) (by omega); rw [Nat.zero_mul] at h_; exact h_)) rfl ?_
   refine WL.as rfl rfl (WL.nil (WE.ret ⟨[_], _, .nil _, ⟨rfl, trivial⟩, ?_⟩))
   have pT : rs.take t = eP l := by have h_ := LD; rw [hje, List.take_length] at h_; exact h_
   have qC : (eP l).length = t := by rw [← pT, List.length_take]; omega
   have aFL := show aN _ g _ _ from H.o 0 rfl
   rw [FQ rs hkr.len t (by omega), pT, List.append_assoc] at aFL
   rw [qC]
   refine ⟨rfl, H.mS.mono fun b _ ⟨_, he, hb⟩ => (by cases List.mem_singleton.1 he; exact hb), _, aFL, ?_⟩
   rw [List.length_append, hnl, List.length_drop, List.length_append, dB _ hkr.len, hrl]; omega
theorem GY {X : Nat → Prop} {w : World} {f : Value} (hX : cY X w) (hf : ∀ (c : Ch) (W : World), c.k.length = 32 → eQ prog f [.agg (eC c).toArray] W fun v W' => v = .bool c.d ∧ Out Nil W W') :
  bC prog 148 [.slice none 0 0, f].toArray w fun v w' => v = .slice none 0 0 ∧ Out Nil w w' := by
 refine bC.aH (N := 42) func148 rfl rfl (by simp) ?_
 have H := St.begin hX
 refine WE.aA (WL.as rfl rfl (WL.nil (WE.aA (WL.mv rfl rfl (WL.mv rfl rfl ?_)))))
 refine WL.call aA6 rfl (GW (X := Nil) (s := .slice none 0 0) (l := []) (f := f) (fun _ h => h.elim) (fun _ _ => cN.nil _ 34) (fun _ h => by cases h) (Nat.zero_le _) hf) ?_
 rintro _ w1 ⟨z, rfl, hO, hz⟩
 replace H := H.out hO
 obtain rfl : z = -1 := by rcases hz with ⟨h_, _⟩ | ⟨i_, h_, _⟩; exact h_; exact absurd h_ (Nat.not_lt_zero _)
 refine WL.as rfl rfl (WL.nil (WE.seq (WE.aA (WL.mv rfl rfl (WL.pv (PV.eql rfl rfl rfl) rfl (WL.nil ?_))))))
 refine WE.cS rfl rfl ?_
 refine WE.aA (WL.mv rfl rfl (WL.as rfl rfl (WL.nil (WE.ret ⟨[_], _, .nil _, ⟨rfl, trivial⟩, ?_⟩))))
 exact ⟨rfl, H.aL⟩
theorem GX {w : World} {base : Nat} {v f : Value} {l : List Ch} (hown : w.ownsRow base 127 34 v l.length (l.flatMap eC)) (hx : XL l) (hlen : l.length ≤ 1000000) (gK : ∀ c ∈ l, c.s.oneCell' = true) (hf : ∀ (c : Ch) (W : World), c.k.length = 32 → eQ prog f [.agg (eC c).toArray] W fun v W' => v = .bool c.d ∧ Out Nil W W') :
  bC prog 148 [v, f].toArray w fun v' w' => Out (fun b => v.ownBlock = some b) w w' ∧ w'.ownsRow base 127 34 v' (eP l).length ((eP l).flatMap eC) ∧ v'.ownBlock = v.ownBlock := by
 obtain ⟨h1, ⟨rfl, h2⟩ | ⟨g, cap, cur, rfl, hg, CR, jT, SC, hsz, E6⟩⟩ := hown
 ·
  have h3 : l = [] := List.eq_nil_of_length_eq_zero h2
  subst h3
  refine (GY (X := Nil) (w := w) (fun _ h => h.elim) hf).mono ?_
  rintro v' w' ⟨rfl, hO⟩
  exact ⟨hO.mono fun _ _ h => h.elim, World.ownsRow_nil _ _ _ _, rfl⟩
 ·
  have hB : aN w g 127 (l.flatMap eC ++ cur.toList.drop (l.length * 34)) := by
   unfold aN
   rw [← E6, List.take_append_drop]
   exact CR
  refine (VY (X := Nil) (w := w) (fun _ h => h.elim) hB hx hlen gK jT hf).mono ?_
  rintro v' w' ⟨rfl, hO, KU, hB', hl⟩
  have qC : (eP l).length ≤ l.length := List.length_filter_le ..
  have pT : XL (eP l) := hx.sub fun c hc => (jH.1 hc).1
  refine ⟨hO.mono fun b _ h => by rw [h]; rfl, ⟨dB _ pT.len, .inr ⟨g, cap, ((eP l).flatMap eC ++ KU).toArray, rfl, hg, hB', by omega, SC, ?_, ?_⟩⟩, rfl⟩
  ·
   simp only [List.size_toArray, List.length_append]
   rw [dB _ pT.len]
   have h4 : (cur.toList.drop (l.length * 34)).length = cap * 34 - l.length * 34 := by rw [List.length_drop, Array.length_toList, hsz]
   have h5 : l.length * 34 ≤ cap * 34 := Nat.mul_le_mul_right _ jT
   omega
  ·
   rw [List.toList_toArray, List.take_left' (dB _ pT.len)]
theorem St.aEh {X : Nat → Prop} {w0 w w' : World} {O L : List aP} {Ps : List (World → Prop)} (H : St X w0 w O L Ps) {i : Nat} {e : aP} (hi : O[i]? = some e) (h : Out e.fp w w') (e' : aP) (he : e'.ok w') (hf : ∀ b, e'.fp b ↔ e.fp b) (e2 : aP) (he2 : e2.ok w') (hn : ∀ b, e2.fp b → w.heap.size ≤ b) :
  St X w0 w' (O.set i e') (e2 :: L) Ps :=
 let H' := H.vP hi h e' he hf
 { H' with
  sR := fun x hx => by
   cases List.mem_cons.1 hx with
   | inl hx => subst hx; exact he2
   | inr hx => exact H'.sR x hx
  kF := fun x hx => by
   cases List.mem_cons.1 hx with
   | inl hx => subst hx; exact fun b hb => Nat.le_trans H.size (hn b hb)
   | inr hx => exact H'.kF x hx
  iM := List.pairwise_cons.2 ⟨fun x hx b hb => by
   have h1 := hn b hb.1
   have h2 := H.V4 x hx b hb.2
   omega, H'.iM⟩
  iZ := fun p hp => (H.iZ p hp).out h (fun b _ hm => .inr (.inl ⟨e, List.mem_of_getElem? hi, hm⟩)) (fun b hb hx => by
   rcases hx with hx | ⟨x, hx, hb'⟩ | ⟨x, hx, hb'⟩
   ·
    exact .inl hx
   ·
    rcases eO hx with rfl | ⟨j, hne, hj⟩
    ·
     exact .inr (.inl ⟨e, List.mem_of_getElem? hi, (hf b).1 hb'⟩)
    ·
     exact .inr (.inl ⟨x, List.mem_of_getElem? hj, hb'⟩)
   ·
    cases List.mem_cons.1 hx with
    | inl hx => subst hx; have := hn b hb'; omega
    | inr hx => exact .inr (.inr ⟨x, hx, hb'⟩)) }
section
variable {r : Option Nat} {P : Program} {N : Nat} {σ : Env} {ds : List Deferred} {w : World} {ops : Array Oper} {rest : List Oper} {K : Env → List Deferred → World → Prop}
variable {X : Nat → Prop} {w0 : World} {O L : List aP} {Ps : List (World → Prop)}
theorem WL.ZR {dst : Option Tmp} {t ty e : TypeId} {zl : List Value} {bytes base : Nat} {x y : Operand} {pos : String} {after : Array Edge} {guard : Option (Nat × Bool)} {v u : Value} {n m : Nat} {xs news : List Value}
  (H : St X w0 w O L Ps) (i : Nat) (hbase : base ≤ w0.heap.size) (ht : lZ P t e zl bytes) (hz : 0 < zl.length) (hi : O[i]? = some (aP.hU base v e zl.length n xs)) (hx : ev σ x = v) (hy : ev σ y = u) (hu : cN w u zl.length m news)
  (h1 : eN news) (hb : (n + m) * bytes ≤ 140737488355328) (zG : 0 < bytes) (hw : cH ops σ ⟨dst, .call ⟨.builtin .append, [x, y].toArray, [t, t].toArray⟩, ty, pos, after, guard⟩ = true)
  (k1 : ∀ v' w', (∀ b, v'.ownBlock = some b → v.ownBlock = some b) → St X w0 w' (O.set i (aP.hU base v' e zl.length (n + m) (xs ++ news))) L Ps → WL r P N ops rest K (dD N σ dst v') ds w')
  (k2 : ∀ v' w', (∀ b, v'.ownBlock = some b → w0.heap.size ≤ b) → St X w0 w' (O.set i (aP.set fun b => v.ownBlock = some b)) (aP.hU base v' e zl.length (n + m) (xs ++ news) :: L) Ps → WL r P N ops rest K (dD N σ dst v') ds w') :
  WL r P N ops (⟨dst, .call ⟨.builtin .append, [x, y].toArray, [t, t].toArray⟩, ty, pos, after, guard⟩ :: rest) K σ ds w := by
 subst hx; subst hy
 have h63 : n + m ≤ maxLen := by
  have : (n + m) * 1 ≤ (n + m) * bytes := Nat.mul_le_mul_left _ zG
  unfold maxLen
  omega
 obtain ⟨v', w', hrun, A4, hg, hblk⟩ := q8 (P := P) (ty := ty) base ht hz (H.o i hi) hu h1 h63 hb (Nat.le_trans hbase H.size)
 by_cases hc : ∃ b, v'.ownBlock = some b ∧ (ev σ x).ownBlock = some b
 ·
  obtain ⟨b0, h1', h2'⟩ := hc
  refine WL.val (v := v') (w' := w') hw rfl ?_ (k1 v' w' (fun b hb => by rw [h1'] at hb; rw [h2']; exact hb) ?_)
  ·
   simp [execOp, resolve, invoke, builtin, hrun]
  ·
   exact St.vP H hi (Out.grown hg) _ A4 (fun b => by show v'.ownBlock = some b ↔ (ev σ x).ownBlock = some b; rw [h1', h2'])
 ·
  have hn : ∀ b, v'.ownBlock = some b → w.heap.size ≤ b := fun b hb => by
   rcases hblk b hb with h | h
   ·
    exact absurd ⟨b, hb, h⟩ hc
   ·
    exact h
  refine WL.val (v := v') (w' := w') hw rfl ?_ (k2 v' w' (fun b hb => Nat.le_trans H.size (hn b hb)) ?_)
  ·
   simp [execOp, resolve, invoke, builtin, hrun]
  ·
   exact St.aEh H hi (Out.grown hg) (aP.set fun b => (ev σ x).ownBlock = some b) (fun b hb => Nat.lt_of_lt_of_le ((aP.hU base (ev σ x) e zl.length n xs).lt w (H.o i hi) b hb) (Out.grown hg).size) (fun b => Iff.rfl) (aP.hU base v' e zl.length (n + m) (xs ++ news)) A4 hn
end
theorem uT {a b : List UInt8} : iI a b = 0 ↔ num a = num b := by
 unfold iI
 by_cases h : num a < num b
 ·
  simp [h]; omega
 ·
  by_cases h2 : num b < num a
  ·
   simp [h, h2]; omega
  ·
   simp [h, h2]; omega
theorem RQ {X : Nat → Prop} {w : World} {k q : List UInt8} {s : Value} {d : Bool} (hX : cY X w) (hk : k.length = 32) (hq : q.length = 32) :
  bC prog 186 [.agg (kc k ++ ([s] ++ [Value.bool d])).toArray, .agg (kc q).toArray].toArray w fun v w' => v = .int .i64 (iI k q) ∧ Out Nil w w' := by
 refine bC.aH (N := 9) func186 rfl rfl (by simp) ?_
 have H := St.begin hX
 refine WE.aA ?_
 refine WL.box (l := kc k ++ ([s] ++ [Value.bool d])) H rfl (rfl) rfl ?_
 intro b2 w1 H
 refine WL.box (l := kc q) H rfl rfl rfl ?_
 intro b3 w2 H
 refine WL.as rfl rfl (WL.nil (WE.aA (WL.pv (PV.fieldAddr rfl qP rfl) rfl ?_)))
 refine WL.bE rfl cZ rfl rfl (aN.aF (H.l 1 rfl) (aK.l (aK.all _)) rfl) (cK cL (by simp only [aS]; omega)) ?_
 refine WL.bE rfl cZ rfl rfl (aN.aF (H.l 0 rfl) (aK.all _) rfl) (cK cL (by simp only [aS]; omega)) ?_
 refine WL.call aCI rfl (rE (k := k) (l := q) H.aR  hk hq) ?_
 rintro _ w3 ⟨rfl, hO⟩
 replace H := H.out hO
 refine WL.as rfl rfl (WL.nil (WE.ret ⟨[_], _, .nil _, ⟨rfl, trivial⟩, ?_⟩))
 exact ⟨rfl, H.aL⟩
theorem aH5 {X : Nat → Prop} {w : World} {s f : Value} {l : List Ch} {k : List UInt8} (hX : cY X w) (bU : aJ X (gJ s l) w) (hx : XL l) (hl : r9 l) (hlen : l.length ≤ 1000000) (hk : k.length = 32) (hf : ∀ (c : Ch) (W : World), c.k.length = 32 → eQ prog f [.agg (eC c).toArray, .agg (kc k).toArray] W fun v W' => v = .int .i64 (iI c.k k) ∧ Out Nil W W') :
  bC prog 185 [s, .agg (kc k).toArray, f].toArray w fun v w' => ∃ (r : Nat) (b : Bool), v = .tuple [.int .i64 (r : Int), .bool b].toArray ∧ Out Nil w w' ∧ r ≤ l.length ∧ (∀ i (h : i < l.length), i < r → num l[i].k < num k) ∧ (∀ i (h : i < l.length), r ≤ i → num k ≤ num l[i].k) ∧ (b = true ↔ ∃ h : r < l.length, num l[r].k = num k) := by
 refine bC.aH (N := 49) func185 rfl rfl (by simp) ?_
 have H := (St.begin hX).add (cE bU)
 refine WE.aA ?_
 refine WL.box (l := kc k) H rfl rfl rfl ?_
 intro b4 w1 H
 refine WL.as rfl rfl (WL.as rfl rfl (WL.nil (WE.aA (WL.mv rfl rfl ?_))))
 refine WL.pv (PV.dR (by exact (H.p 0 rfl : gJ s l _)) dZ rfl) rfl ?_
 refine WL.as rfl rfl (WL.nil (WE.aA (WL.mv rfl rfl (WL.as rfl rfl (WL.as rfl rfl (WL.nil (WE.seq ?_)))))))
 refine WE.block ?_
 refine WE.loop (α := Nat × Nat) (rg [(9, 3), (15, 20)]) (fun q => [(9, .int .i64 (q.1 : Int)), (10, .int .i64 (q.2 : Int))]) (fun q wl => ((q.1 ≤ q.2 ∧ q.2 ≤ l.length) ∧ (∀ i (h : i < l.length), i < q.1 → num l[i].k < num k) ∧ (∀ i (h : i < l.length), q.2 ≤ i → num k ≤ num l[i].k)) ∧ St X w wl [] [aP.blk b4 24 (kc k)] [gJ s l]) (fun q => q.2 - q.1) (0, l.length) ⟨rfl, rfl, trivial⟩ ⟨⟨⟨Nat.zero_le _, Nat.le_refl _⟩, (fun i _ h => absurd h (Nat.not_lt_zero _)), fun i h h2 => absurd h (Nat.not_lt.2 h2)⟩, H⟩ ?_
 intro ⟨lo, jI⟩ γ0 w2 hI
 try dsimp only at hI
 obtain ⟨⟨⟨hlh, aE3⟩, hlo, hge⟩, H⟩ := hI
 try dsimp only at hlh aE3 hlo hge
 refine WE.seq (WE.aA (WL.mv rfl rfl (WL.mv rfl rfl (WL.pv (PV.lss rfl rfl rfl) rfl (WL.nil ?_)))))
 refine WE.cond rfl (fun iR => ?_) (fun iR => ?_)
 ·
  try simp only [bW] at iR
  have hlt : lo < jI := by omega
  have YK : (lo + jI) / 2 < l.length := by omega
  have tN := hx _ (List.getElem_mem YK)
  have I8 := iV tN
  refine WE.skip (WE.block (WE.aA (WL.mv rfl rfl (WL.mv rfl rfl (WL.pv (PV.eq (v' := .int .i64 ((lo + jI : Nat) : Int)) (PV.bT rfl rfl rfl (by omega) (by omega)) rfl) rfl ?_)))))
  refine WL.pv (PV.eq (v' := .int .u64 ((lo + jI : Nat) : Int)) (PV.conv rfl sZ zR rfl) (by (rw [oP]; congr 1; omega))) rfl ?_
  refine WL.pv (PV.eq (v' := .int .u64 (((lo + jI) / 2 : Nat) : Int)) (PV.W7 rfl rfl rfl (by omega)) (by (congr 1; show Int.fdiv _ 2 = _; rw [Int.fdiv_eq_ediv_of_nonneg _ (by omega)]; omega))) rfl ?_
  refine WL.pv (PV.eq (v' := .int .i64 (((lo + jI) / 2 : Nat) : Int)) (PV.lM rfl zR sZ rfl (by omega) (by omega)) rfl) rfl ?_
  refine WL.as rfl rfl (WL.nil ?_)
  refine WE.bH (.take 0 (.take 1 (.take 2 (.take 3 (.take 4 (.take 5 (.aG 6 (.take 7 .done)))))))) mixed (by kernel_rfl) ?_
  replace H := H.out (Out.drew _)
  refine WP.mv rfl rfl rfl (WP.mv rfl rfl rfl (WP.mv rfl rfl rfl ?_))
  refine WP.aC rfl rfl (PV.eA rfl (by exact (H.p 0 rfl : gJ s l _)) dZ eH rfl rfl (by omega) (by omega)) ?_
  refine WP.dN rfl rfl rfl tJ rfl (gJ.rd (by exact (H.p 0 rfl : gJ s l _)) hx ((lo + jI) / 2) YK) (by (rw [eH]; refine congrArg some ?_; (simp [aI, aQ, *]; done))) ?_
  refine WP.dN rfl rfl rfl cZ rfl (aN.aF (H.l 0 rfl) (aK.all _) rfl) (cK cL (by simp only [aS]; omega)) ?_
  refine WP.aG rfl ?_
  refine WL.iW rfl rfl (hf l[(lo + jI) / 2] _ tN) ?_
  rintro _ w4 ⟨rfl, hO⟩
  replace H := H.out hO
  refine WL.nil ⟨(fa (nw 6 5) (fa (nw 6 4) c5)), ?_⟩
  refine WP.aC rfl rfl (PV.lss rfl rfl rfl) (WP.done ?_)
  refine WE.cond rfl (fun kU => ?_) (fun kU => ?_)
  ·
   try simp only [bW] at kU
   have CT : num l[(lo + jI) / 2].k < num k := mG.1 (by exact kU)
   let q2 : Nat × Nat := ((lo + jI) / 2 + 1, jI)
   have YH : (q2.1 ≤ q2.2 ∧ q2.2 ≤ l.length) ∧ (∀ i (h : i < l.length), i < q2.1 → num l[i].k < num k) ∧ (∀ i (h : i < l.length), q2.2 ≤ i → num k ≤ num l[i].k) := ⟨⟨by show (lo + jI) / 2 + 1 ≤ jI; omega, aE3⟩, (fun i h hi => by have hi2 : i < (lo + jI) / 2 + 1 := hi; rcases Nat.lt_or_ge i ((lo + jI) / 2) with h_ | h_; exact Nat.lt_trans (List.pairwise_iff_getElem.1 hl i _ h YK h_) CT; (have e_ : i = (lo + jI) / 2 := by omega); subst e_; exact CT), hge⟩
   have hd2 : q2.2 - q2.1 < jI - lo := by show jI - ((lo + jI) / 2 + 1) < jI - lo; omega
   refine WE.dY (WL.mv rfl rfl ?_)
   refine WL.pv (PV.eq (v' := .int .i64 (((lo + jI) / 2 + 1 : Nat) : Int)) (PV.bT rfl rfl rfl (by omega) (by omega)) rfl) rfl ?_
   refine WL.as rfl rfl (WL.nil ?_)
   exact ⟨q2, (by repeat (first | with_reducible exact bM.refl _ _ | refine bM.dD rfl ?_ | refine bM.bY rfl ?_ | refine bM.bV rfl ?_)), ⟨rfl, rfl, trivial⟩, rfl, ⟨YH, H⟩, hd2⟩
  ·
   try simp only [bW] at kU
   have CT : num k ≤ num l[(lo + jI) / 2].k := by rcases Nat.lt_or_ge (num l[(lo + jI) / 2].k) (num k) with h_ | h_; have PK := mG.2 h_; omega; exact h_
   let q2 : Nat × Nat := (lo, (lo + jI) / 2)
   have YH : (q2.1 ≤ q2.2 ∧ q2.2 ≤ l.length) ∧ (∀ i (h : i < l.length), i < q2.1 → num l[i].k < num k) ∧ (∀ i (h : i < l.length), q2.2 ≤ i → num k ≤ num l[i].k) := ⟨⟨by show lo ≤ (lo + jI) / 2; omega, by show (lo + jI) / 2 ≤ l.length; omega⟩, hlo, (fun i h hi => by have hi2 : (lo + jI) / 2 ≤ i := hi; rcases Nat.lt_or_ge ((lo + jI) / 2) i with h_ | h_; exact Nat.le_of_lt (Nat.lt_of_le_of_lt CT (List.pairwise_iff_getElem.1 hl _ i YK h h_)); (have e_ : i = (lo + jI) / 2 := by omega); subst e_; exact CT)⟩
   have hd2 : q2.2 - q2.1 < jI - lo := by show (lo + jI) / 2 - lo < jI - lo; omega
   refine WE.dY (WL.mv rfl rfl (WL.as rfl rfl (WL.nil ?_)))
   exact ⟨q2, (by repeat (first | with_reducible exact bM.refl _ _ | refine bM.dD rfl ?_ | refine bM.bY rfl ?_ | refine bM.bV rfl ?_)), ⟨rfl, rfl, trivial⟩, rfl, ⟨YH, H⟩, hd2⟩
 ·
  try simp only [bW] at iR
  have heq : lo = jI := by omega
  refine WE.exit ?_
  refine WE.bH (.take 0 (.take 1 (.take 2 (.take 3 (.take 4 (.take 5 (.take 6 (.take 7 (.take 8 (.take 9 (.take 10 (.aG 11 (.take 12 (.take 13 (.take 14 (.take 15 .done)))))))))))))))) mixed (by kernel_rfl) ?_
  replace H := H.out (Out.drew _)
  refine WP.mv rfl rfl rfl (WP.mv rfl rfl rfl (WP.mv rfl rfl rfl (WP.aC rfl rfl (PV.lss rfl rfl rfl) (WP.mv rfl rfl rfl ?_))))
  refine WP.split (t := 39) rfl (fun SK => ?_) (fun SK => ?_)
  ·
   refine WP.known (t := 38) (c := true) rfl SK ?_
   try simp only [bW] at SK
   have SD : lo < l.length := by omega
   have aEZ := hx _ (List.getElem_mem SD)
   have I8 := iV aEZ
   refine WP.mv rfl rfl rfl (WP.mv rfl rfl rfl (WP.mv rfl rfl rfl ?_))
   refine WP.aC rfl rfl (PV.eA rfl (by exact (H.p 0 rfl : gJ s l _)) dZ eH rfl rfl (by omega) (by omega)) ?_
   refine WP.dN rfl rfl rfl tJ rfl (gJ.rd (by exact (H.p 0 rfl : gJ s l _)) hx lo SD) (by (rw [eH]; refine congrArg some ?_; (symm; assumption))) ?_
   refine WP.dN rfl rfl rfl cZ rfl (aN.aF (H.l 0 rfl) (aK.all _) rfl) (cK cL (by simp only [aS]; omega)) ?_
   refine WP.aG rfl ?_
   refine WL.iW rfl rfl (hf l[lo] _ aEZ) ?_
   rintro _ w7 ⟨rfl, hO⟩
   replace H := H.out hO
   refine WL.nil ⟨(fa (nw 11 10) (fa (nw 11 9) c5)), ?_⟩
   refine WP.aC rfl rfl (PV.eql rfl rfl rfl) (WP.aC rfl rfl (PV.dP rfl rfl rfl) (WP.as rfl rfl rfl (WP.as rfl rfl rfl (WP.done (WE.ret ⟨[_, _], _, .nil _, ⟨rfl, rfl, trivial⟩, ?_⟩)))))
   refine ⟨lo, _, rfl, H.aL, by omega, hlo, (by rw [heq]; exact hge), ?_⟩
   (constructor; (intro h_; exact ⟨SD, uT.1 (by simpa using h_)⟩); (rintro ⟨_, h_⟩; simpa using uT.2 h_))
  ·
   refine WP.known (t := 38) (c := false) rfl SK ?_
   try simp only [bW] at SK
   have SD : ¬ lo < l.length := by omega
   refine WP.eD rfl rfl (WP.eD rfl rfl (WP.eD rfl rfl (WP.eD rfl rfl (WP.eD rfl rfl (WP.eD rfl rfl (WP.aG rfl (WL.off rfl ?_)))))))
   refine WL.nil ⟨c5, ?_⟩
   refine WP.eD rfl rfl (WP.aC rfl rfl (PV.dF rfl rfl rfl) (WP.as rfl rfl rfl (WP.as rfl rfl rfl (WP.done (WE.ret ⟨[_, _], _, .nil _, ⟨rfl, rfl, trivial⟩, ?_⟩)))))
   refine ⟨lo, _, rfl, H.aL, by omega, hlo, (by rw [heq]; exact hge), ?_⟩
   (constructor; (intro h_; cases h_); (rintro ⟨h_, _⟩; exact absurd h_ SD))
def kT (l : List Ch) (r : Nat) (x : Ch) : List Ch := l.take r ++ x :: l.drop r
theorem xX (l : List Ch) {r : Nat} (x : Ch) (hr : r ≤ l.length) : (kT l r x).length = l.length + 1 := by simp [kT]; omega
theorem jA {l : List Ch} {r : Nat} {x c : Ch} : c ∈ kT l r x ↔ c = x ∨ c ∈ l := by
 have e : c ∈ l ↔ c ∈ l.take r ∨ c ∈ l.drop r := by rw [← List.mem_append, List.take_append_drop]
 unfold kT
 rw [List.mem_append, List.mem_cons, e]
 constructor
 ·
  rintro (h | h | h)
  ·
   exact .inr (.inl h)
  ·
   exact .inl h
  ·
   exact .inr (.inr h)
 ·
  rintro (h | h | h)
  ·
   exact .inr (.inl h)
  ·
   exact .inl h
  ·
   exact .inr (.inr h)
theorem LA {l : List Ch} {r : Nat} {x : Ch} (hl : r9 l) (h1 : ∀ i (h : i < l.length), i < r → num l[i].k < num x.k) (h2 : ∀ i (h : i < l.length), r ≤ i → num x.k < num l[i].k) : r9 (kT l r x) := by
 unfold r9 kT
 rw [List.pairwise_append]
 refine ⟨hl.sublist (List.take_sublist ..), List.pairwise_cons.2 ⟨fun c hc => ?_, hl.sublist (List.drop_sublist ..)⟩, fun a ha b hb => ?_⟩
 ·
  obtain ⟨i, hi, rfl⟩ := List.getElem_of_mem hc
  rw [List.length_drop] at hi
  rw [List.getElem_drop]
  exact h2 _ (by omega) (by omega)
 ·
  obtain ⟨i, hi, rfl⟩ := List.getElem_of_mem ha
  rw [List.length_take] at hi
  rw [List.getElem_take]
  have e1 := h1 i (by omega) (by omega)
  rcases List.mem_cons.1 hb with rfl | hb
  ·
   exact e1
  ·
   obtain ⟨j, hj, rfl⟩ := List.getElem_of_mem hb
   rw [List.length_drop] at hj
   rw [List.getElem_drop]
   exact Nat.lt_trans e1 (h2 _ (by omega) (by omega))
theorem ML (q : Nat) (zl : List Value) (hz : 0 < zl.length) : jM q zl = (List.replicate q zl).flatMap id := by
 have hl : ∀ x ∈ List.replicate q zl, (id x).length = zl.length := fun x hx => by rw [(List.mem_replicate.1 hx).2]; rfl
 have hlen := dB (C := id) (List.replicate q zl) hl
 rw [List.length_replicate] at hlen
 refine List.ext_getElem (by rw [hlen]; simp [jM]) fun j h1 h2 => ?_
 have hj : j < q * zl.length := by rw [hlen] at h2; exact h2
 have hq : j / zl.length < q := (Nat.div_lt_iff_lt_mul hz).2 hj
 have hs := tD (C := id) (List.replicate q zl) hl (j / zl.length) (by rw [List.length_replicate]; exact hq)
 rw [List.getElem_replicate] at hs
 have hm := Nat.mod_lt j hz
 have e1 : ((List.replicate q zl).flatMap id)[j]? = zl[j % zl.length]? := by
  have : (((List.replicate q zl).flatMap id).drop (j / zl.length * zl.length)).take zl.length = zl := hs
  have e2 : zl[j % zl.length]? = ((((List.replicate q zl).flatMap id).drop (j / zl.length * zl.length)).take zl.length)[j % zl.length]? := by rw [this]
  rw [e2, List.getElem?_take_of_lt hm, List.getElem?_drop]
  congr 1
  have := Nat.div_add_mod j zl.length
  rw [Nat.mul_comm] at this
  omega
 have e3 : (jM q zl)[j]? = zl[j % zl.length]? := by
  unfold jM
  rw [List.getElem?_map, List.getElem?_range (by exact hj), Option.map_some, getElem!_pos zl _ hm, List.getElem?_eq_getElem hm]
 rw [← Option.some_inj, ← List.getElem?_eq_getElem, ← List.getElem?_eq_getElem, e1, e3]
def PS : Ch := ⟨List.replicate 32 0, .slice none 0 0, [], false⟩
theorem KA (q : Nat) : jM q (eC PS) = (List.replicate q PS).flatMap eC := by
 rw [ML q _ (by decide), List.flatMap_replicate, List.flatMap_replicate]; rfl
theorem cN.aAG {w : World} {g n c : Nat} {t : TypeId} {l : List Value} (h : aN w g t l) (hn : n * 34 ≤ l.length) (hc : n ≤ c) : cN w (.slice (some ⟨g, 0, none⟩) n c) 34 n (l.take (n * 34)) :=
 cN.nY (h.aF (show aK l 0 (l.take (n * 34)) from ⟨[], l.drop (n * 34), by rw [List.nil_append, List.take_append_drop], rfl⟩) rfl) (by rw [List.length_take]; omega) hc
theorem St.aC2 {X : Nat → Prop} {w : World} {base sz n : Nat} {e : TypeId} {xs : List Value} {v : Value} (hX : cY X w) (hrow : w.ownsRow base e sz v n xs) : St X w w [aP.hU base v e sz n xs] [] [] :=
 St.start hX (fun x hx => by rw [List.mem_singleton.1 hx]; exact hrow) (List.pairwise_singleton _ _) (fun _ hp => by cases hp)
theorem aIm {X : Nat → Prop} {w : World} {p : World → Prop} {base sz n : Nat} {e : TypeId} {xs : List Value} {v : Value} (h : aJ (fun c => X c ∨ v.ownBlock = some c) p w) : aJ (YY X [aP.hU base v e sz n xs] []) p w :=
 h.mono fun c _ hc => by
  rcases hc with hc | ⟨x, hx, hc⟩ | ⟨x, hx, _⟩
  ·
   exact .inl hc
  ·
   rw [List.mem_singleton.1 hx] at hc; exact .inr hc
  ·
   cases hx
theorem NI {a : List Ch} {b c : List Ch} {more : List Value} {oo : Nat} (ha : XL a) (hb : XL b) (hc : XL c) (hbc : b.length = c.length) (ho : oo = a.length * 34) : Laid ((a ++ b).flatMap eC ++ more) oo (c.flatMap eC) ((a ++ c).flatMap eC ++ more) := by
 refine Laid.left ?_
 rw [List.flatMap_append, List.flatMap_append]
 exact Laid.right (o := 0) (Laid.all (by rw [dB _ hc.len, dB _ hb.len, hbc])) (by rw [ho, dB _ ha.len]; omega)
theorem YB {l : List Ch} {i : Nat} {x : Ch} (hi : i < l.length) : (l.take (i + 1) ++ l.drop i).set i x = kT l i x := by
 unfold kT
 rw [List.take_succ_eq_append_getElem hi, List.append_assoc, List.set_append_right (h := by rw [List.length_take]; omega), show i - (l.take i).length = 0 by rw [List.length_take]; omega]
 rfl
theorem M4 {l : List Ch} {i : Nat} {r1 r2 : List Value} (hx : XL l) (hi : i ≤ l.length) : aK (l.flatMap eC ++ (r1 ++ r2)) (i * 34) ((l.drop i).flatMap eC ++ r1) := by
 refine ⟨(l.take i).flatMap eC, r2, ?_, by rw [dB _ (hx.take i).len, List.length_take]; congr 1; omega⟩
 have e : l.flatMap eC = (l.take i).flatMap eC ++ (l.drop i).flatMap eC := by rw [← List.flatMap_append, List.take_append_drop]
 rw [e]
 simp only [List.append_assoc]
theorem IM {l : List Ch} {i oo : Nat} {r1 r2 : List Value} (hx : XL l) (hi : i < l.length) (R8 : r1.length = 34) (ho : oo = (i + 1) * 34 := by rfl) : Laid (l.flatMap eC ++ (r1 ++ r2)) oo (((l.drop i).flatMap eC ++ r1).take ((l.length - i) * 34)) ((l.take (i + 1) ++ l.drop i).flatMap eC ++ r2) := by
 have hd : ((l.drop i).flatMap eC).length = (l.length - i) * 34 := by rw [dB _ (hx.drop i).len, List.length_drop]
 have ht : ((l.take (i + 1)).flatMap eC).length = (i + 1) * 34 := by rw [dB _ (hx.take _).len, List.length_take]; congr 1; omega
 rw [List.take_left' hd]
 have e1 : l.flatMap eC ++ (r1 ++ r2) = (l.take (i + 1)).flatMap eC ++ (((l.drop (i + 1)).flatMap eC ++ r1) ++ r2) := by
  have e : l.flatMap eC = (l.take (i + 1)).flatMap eC ++ (l.drop (i + 1)).flatMap eC := by rw [← List.flatMap_append, List.take_append_drop]
  rw [e]
  simp only [List.append_assoc]
 have e2 : (l.take (i + 1) ++ l.drop i).flatMap eC ++ r2 = (l.take (i + 1)).flatMap eC ++ ((l.drop i).flatMap eC ++ r2) := by rw [List.flatMap_append, List.append_assoc]
 rw [e1, e2]
 refine Laid.right (o := 0) (Laid.left (Laid.all ?_)) (by rw [ht, ho]; omega)
 rw [hd, List.length_append, dB _ (hx.drop _).len, List.length_drop, R8]; omega
theorem VS {X : Nat → Prop} {w : World} {v : Value} {base vb : Nat} {l : List Ch} {x : Ch} (hX : cY X w) (bU : aJ (fun c_ => X c_ ∨ v.ownBlock = some c_) (fun w => aN w vb 127 (eC x)) w) (hx : XL l) (NN : x.k.length = 32) (gK : ∀ c ∈ l, c.s.oneCell' = true) (YE : x.s.oneCell' = true) (hlen : l.length ≤ 1000000) (hrow : w.ownsRow base 127 34 v l.length (l.flatMap eC)) (hbase : base ≤ w.heap.size) :
  bC prog 187 [v, .int .i64 ((l.length : Nat) : Int), .slice (some ⟨vb, 0, none⟩) 1 1].toArray w fun v' w' => Out (fun c => v.ownBlock = some c) w w' ∧ w'.ownsRow base 127 34 v' (l.length + 1) ((kT l l.length x).flatMap eC) ∧ ∀ b, v'.ownBlock = some b → v.ownBlock = some b ∨ w.heap.size ≤ b := by
 refine bC.aH (N := 95) func187 rfl rfl (by simp) ?_
 have H := St.aC2 hX hrow
 replace H := H.add (aIm bU)
 have E4 : (eC x).length = 1 * 34 := iV NN
 refine WE.aA (WL.as rfl rfl (WL.nil (WE.aA (WL.mv rfl rfl (WL.mv rfl rfl (WL.pv (PV.qZ rfl (cN.dJ (H.o 0 rfl)) dZ eH rfl rfl (by omega) (by omega)) rfl (WL.nil ?_)))))))
 refine WE.aA (WL.mv rfl rfl ?_)
 refine WL.pv (PV.dR (by exact cN.bZ (n := 1) (H.p 0 rfl) E4) dZ rfl) rfl ?_
 refine WL.as rfl rfl (WL.nil (WE.seq (WE.aA (WL.mv rfl rfl (WL.pv (PV.eql rfl rfl rfl) rfl (WL.nil ?_))))))
 refine WE.bD rfl rfl ?_
 refine WE.skip (WE.aA (WL.mv rfl rfl (WL.pv (PV.dR (cN.dJ (H.o 0 rfl)) dZ rfl) rfl (WL.as rfl rfl (WL.nil (WE.seq (WE.aA ?_)))))))
 refine WL.mv rfl rfl (WL.mv rfl rfl (WL.pv (PV.eql rfl rfl rfl) rfl (WL.nil ?_)))
 refine WE.cS rfl (by simp) ?_
 refine WE.aA (WL.mv rfl rfl (WL.mv rfl rfl ?_))
 refine WL.ZR (m := 1) H 0 hbase sF (by decide) rfl rfl rfl (by exact cN.bZ (n := 1) (H.p 0 rfl) E4) (k3 YE) (by omega) (by decide) rfl ?_ ?_
 ·
  intro v25 w1 hgr H
  refine WL.as rfl rfl (WL.nil (WE.ret ⟨[_], _, .nil _, ⟨rfl, trivial⟩, ?_⟩))
  have hin : (kT l l.length x).flatMap eC = l.flatMap eC ++ eC x := by unfold kT; rw [List.take_length, List.drop_length, List.flatMap_append, List.flatMap_singleton]
  rw [hin]
  exact ⟨H.mS.mono fun c _ ⟨e, he, hc⟩ => (by rw [List.mem_singleton.1 he] at hc; exact hgr c hc), H.o 0 rfl, fun b hb => .inl (hgr b hb)⟩
 ·
  intro v25 w2 hgr H
  refine WL.as rfl rfl (WL.nil (WE.ret ⟨[_], _, .nil _, ⟨rfl, trivial⟩, ?_⟩))
  have hin : (kT l l.length x).flatMap eC = l.flatMap eC ++ eC x := by unfold kT; rw [List.take_length, List.drop_length, List.flatMap_append, List.flatMap_singleton]
  rw [hin]
  exact ⟨H.mS.mono fun c _ ⟨e, he, hc⟩ => (by rw [List.mem_singleton.1 he] at hc; exact hc), H.l 0 rfl, fun b hb => .inr (hgr b hb)⟩
theorem O5 {X : Nat → Prop} {w : World} {g cap i vb : Nat} {l : List Ch} {x : Ch} {rest : List Value} (hX : cY X w) (eY : aN w g 127 (l.flatMap eC ++ rest)) (bU : aJ (fun c_ => X c_ ∨ c_ = g) (fun w => aN w vb 127 (eC x)) w) (hx : XL l) (NN : x.k.length = 32) (gK : ∀ c ∈ l, c.s.oneCell' = true) (YE : x.s.oneCell' = true) (hlen : l.length ≤ 1000000) (jT : l.length ≤ cap) (hi : i < l.length) (aKy : cap < l.length + 1) :
  bC prog 187 [.slice (some ⟨g, 0, none⟩) l.length cap, .int .i64 (i : Int), .slice (some ⟨vb, 0, none⟩) 1 1].toArray w fun v' w' => ∃ (b c : Nat) (more : List Value), v' = .slice (some ⟨b, 0, none⟩) (l.length + 1) c ∧ Out Nil w w' ∧ w.heap.size ≤ b ∧ aN w' b 127 ((kT l i x).flatMap eC ++ more) ∧ l.length + 1 ≤ c ∧ c ≤ maxLen ∧ more.length = (c - (l.length + 1)) * 34 := by
 refine bC.aH (N := 95) func187 rfl rfl (by simp) ?_
 have H := (St.dG (b := g) (t := 127) (l := l.flatMap eC ++ rest) hX eY).add (cC bU)
 have E4 : (eC x).length = 1 * 34 := iV NN
 refine WE.aA (WL.as rfl rfl (WL.nil (WE.aA (WL.mv rfl rfl (WL.mv rfl rfl ?_)))))
 refine WL.pv (PV.qZ rfl (gJ.JR (cap := cap) (H.o 0 rfl) hx rfl jT) dZ eH rfl rfl (by omega) (by omega)) rfl ?_
 refine WL.nil (WE.aA (WL.mv rfl rfl ?_))
 refine WL.pv (PV.dR (by exact cN.bZ (n := 1) (H.p 0 rfl) E4) dZ rfl) rfl ?_
 refine WL.as rfl rfl (WL.nil (WE.seq (WE.aA (WL.mv rfl rfl (WL.pv (PV.eql rfl rfl rfl) rfl (WL.nil ?_))))))
 refine WE.bD rfl rfl ?_
 refine WE.skip (WE.aA (WL.mv rfl rfl (WL.pv (PV.dR (gJ.JR (cap := cap) (H.o 0 rfl) hx rfl jT) dZ rfl) rfl (WL.as rfl rfl (WL.nil (WE.seq (WE.aA ?_)))))))
 refine WL.mv rfl rfl (WL.mv rfl rfl (WL.pv (PV.eql rfl rfl rfl) rfl (WL.nil ?_)))
 refine WE.bD rfl (by simp; omega) ?_
 refine WE.skip (WE.seq (WE.aA (WL.mv rfl rfl (WL.mv rfl rfl ?_))))
 refine WL.pv (PV.eq (v' := .int .i64 ((l.length + 1 : Nat) : Int)) (PV.bT rfl rfl rfl (by omega) (by omega)) rfl) rfl ?_
 refine WL.mv rfl rfl (WL.pv (PV.L2 dZ rfl) rfl (WL.pv (PV.gtr rfl rfl rfl) rfl (WL.nil ?_)))
 refine WE.cS rfl (by simp; omega) ?_
 refine WE.aA (WL.mv rfl rfl (WL.mv rfl rfl ?_))
 refine WL.pv (PV.eq (v' := .slice (some ⟨g, 0, none⟩) i cap) (PV.WU rfl (gJ.JR (cap := cap) (H.o 0 rfl) hx rfl jT) dZ eH rfl rfl (by omega) (by omega)) (by have h_ := iN (g := g) (n := l.length) (cap := cap) (lo := 0) (hi := i) (by omega); rw [Nat.zero_mul] at h_; exact h_)) rfl ?_
 refine WL.mv rfl rfl (WL.mv rfl rfl ?_)
 refine WL.pv (PV.eq (v' := .int .i64 ((l.length + 1 : Nat) : Int)) (PV.bT rfl rfl rfl (by omega) (by omega)) rfl) rfl ?_
 refine WL.mv rfl rfl ?_
 refine WL.pv (PV.eq (v' := .int .i64 ((l.length + 1 - i : Nat) : Int)) (PV.gC rfl rfl rfl (by omega) (by omega)) (by (congr 1; omega))) rfl ?_
 have hl0 : ((l.take i).flatMap eC).length = i * 34 := by rw [dB _ (hx.take i).len, List.length_take]; congr 1; omega
 refine WL.aFN (zl := eC PS) (olds := (l.take i).flatMap eC) H sF (by decide) Tryz.underlying3 rfl rfl (aN.aF (H.o 0 rfl) (show aK (l.flatMap eC ++ rest) 0 _ from ⟨[], (l.drop i).flatMap eC ++ rest, by rw [List.nil_append, ← List.append_assoc, ← List.flatMap_append, List.take_append_drop], rfl⟩) rfl) hl0 (by omega) (by omega) (by omega) (by omega) rfl ?_
 intro b40 c40 w3 more hc1 hc2 zS H
 rw [show i + (l.length + 1 - i) = l.length + 1 by omega] at hc1 zS ⊢
 have aE6 : w.heap.size ≤ b40 := H.kF _ (List.mem_of_getElem? (i := 0) rfl) b40 rfl
 obtain ⟨rs, hrs⟩ : ∃ rs, rs = l.take i ++ List.replicate (l.length + 1 - i) PS := ⟨_, rfl⟩
 have hrl : rs.length = l.length + 1 := by rw [hrs]; simp; omega
 have hxr : XL rs := by rw [hrs]; intro c hc; rcases List.mem_append.1 hc with h_ | h_; exact hx.take i c h_; rw [(List.mem_replicate.1 h_).2]; rfl
 replace H := H.conv (L' := [aP.blk b40 127 (rs.flatMap eC ++ more)]) (by rw [KA, hrs, List.flatMap_append])
 have hSN := gJ.JR (cap := c40) (H.l 0 rfl) hxr hrl hc1
 refine WL.as rfl rfl (WL.nil (WE.aA (WL.mv rfl rfl (WL.mv rfl rfl ?_))))
 refine WL.pv (PV.eq (v' := .slice (some ⟨b40, (i) * 34, none⟩) (l.length + 1 - i) (c40 - i)) (PV.qZ rfl hSN dZ eH rfl rfl (by omega) (by omega)) (iN (by omega))) rfl ?_
 refine WL.mv rfl rfl ?_
 have aIL : rs.set i x = (l.take i ++ [x]) ++ List.replicate (l.length - i) PS := by rw [hrs, List.set_append_right (h := by rw [List.length_take]; omega), show l.length + 1 - i = (l.length - i) + 1 by omega, List.replicate_succ, show i - (l.take i).length = 0 by rw [List.length_take]; omega, List.set_cons_zero, List.append_assoc]; rfl
 refine WL.LX (sz := 34) (l' := (rs.set i x).flatMap eC ++ more) H 0 dZ eH rfl rfl rfl (by exact cN.bZ (n := 1) (H.p 0 rfl) E4) (p9 (k3 YE) _) (by rw [show min 1 (l.length + 1 - i) = 1 by omega, List.take_of_length_le (l := eC x) (by omega)]; exact oE (C := eC) rs hxr.len more (i := i) (by omega) (iV NN) rfl) rfl ?_
 intro D4 H
 replace H := H.conv (L' := [aP.blk b40 127 (((l.take i ++ [x]) ++ List.replicate (l.length - i) PS).flatMap eC ++ more)]) (by rw [← aIL]; rfl)
 have aEI : XL (l.take i ++ [x]) := by intro c hc; rcases List.mem_append.1 hc with h_ | h_; exact hx.take i c h_; rw [List.mem_singleton.1 h_]; exact NN
 have hxz : XL (List.replicate (l.length - i) PS) := by intro c hc; rw [(List.mem_replicate.1 hc).2]; rfl
 have aIC : XL ((l.take i ++ [x]) ++ List.replicate (l.length - i) PS) := by intro c hc; rcases List.mem_append.1 hc with h_ | h_; exact aEI c h_; exact hxz c h_
 clear hSN
 have hSN := gJ.JR (cap := c40) (H.l 0 rfl) aIC (by simp; omega) hc1
 refine WL.nil ?_
 refine WE.bH (.take 0 (.take 1 (.take 2 (.take 3 (.take 4 (.take 5 (.take 6 (.take 7 (.aG 8 .done))))))))) mixed (by kernel_rfl) ?_
 replace H := H.out (Out.drew _)
 refine WP.mv rfl rfl rfl (WP.mv rfl rfl rfl (WP.mv rfl rfl rfl ?_))
 refine WP.aC rfl rfl (PV.eq (v' := .int .i64 ((i + 1 : Nat) : Int)) (PV.bT rfl rfl rfl (by omega) (by omega)) rfl) ?_
 refine WP.aC rfl rfl (PV.eq (v' := .slice (some ⟨b40, (i + 1) * 34, none⟩) (l.length + 1 - (i + 1)) (c40 - (i + 1))) (PV.qZ rfl hSN dZ eH rfl rfl (by omega) (by omega)) (by rcases Nat.lt_or_ge (i + 1) c40 with h_ | h_; exact iN h_; omega)) ?_
 refine WP.mv rfl rfl rfl (WP.mv rfl rfl rfl ?_)
 refine WP.aC rfl rfl (PV.eq (v' := .slice (some ⟨g, (i) * 34, none⟩) (l.length - i) (cap - i)) (PV.qZ rfl (gJ.JR (cap := cap) (H.o 0 rfl) hx rfl jT) dZ eH rfl rfl (by omega) (by omega)) (iN (by omega))) ?_
 refine WP.aG rfl ?_
 have hSD : cN _ (.slice (some ⟨g, (i) * 34, none⟩) (l.length - i) (cap - i)) 34 (l.length - i) ((l.drop i).flatMap eC) := cN.nY (aN.aF (H.o 0 rfl) (LL l hx.len rest i (by omega)) rfl) (by rw [dB _ (hx.drop i).len, List.length_drop]) (by omega)
 refine WL.LX (sz := 34) (l' := ((l.take i ++ [x]) ++ l.drop i).flatMap eC ++ more) H 0 dZ eH rfl rfl rfl hSD (p9 (CB fun c hc => gK c (List.mem_of_mem_drop hc)) _) (by rw [show min (l.length - i) (l.length + 1 - (i + 1)) = l.length - i by omega, List.take_of_length_le (l := (l.drop i).flatMap eC) (by rw [dB _ (hx.drop i).len, List.length_drop]; exact Nat.le_refl _)]; exact NI aEI hxz (hx.drop i) (by simp) (by rw [List.length_append, List.length_take, List.length_singleton]; omega)) rfl ?_
 intro w22 H
 refine WL.nil ⟨c5, ?_⟩
 refine WP.done (WE.aA (WL.mv rfl rfl (WL.as rfl rfl (WL.nil (WE.ret ⟨[_], _, .nil _, ⟨rfl, trivial⟩, ?_⟩)))))
 refine ⟨b40, c40, more, rfl, ?_, aE6, ?_, hc1, hc2, zS⟩
 ·
  exact ⟨H.os, H.tape, H.output, H.size, fun b hb _ => by by_cases hbg : b = g; (subst hbg; exact (H.o 0 rfl).trans eY.symm); exact H.old b hb (by intro e he hc; rw [List.mem_singleton.1 he] at hc; exact hbg hc)⟩
 ·
  have h_ := H.l 0 rfl; have e_ : kT l i x = (l.take i ++ [x]) ++ l.drop i := by unfold kT; rw [List.append_assoc]; rfl
  rw [e_]; exact h_
theorem J5 {X : Nat → Prop} {w : World} {g cap i vb : Nat} {l : List Ch} {x : Ch} {r1 r2 : List Value} (hX : cY X w) (eY : aN w g 127 (l.flatMap eC ++ (r1 ++ r2))) (bU : aJ (fun c_ => X c_ ∨ c_ = g) (fun w => aN w vb 127 (eC x)) w) (hx : XL l) (NN : x.k.length = 32) (gK : ∀ c ∈ l, c.s.oneCell' = true) (YE : x.s.oneCell' = true) (hlen : l.length ≤ 1000000) (jT : l.length + 1 ≤ cap) (hi : i < l.length) (R8 : r1.length = 34) (hne : vb ≠ g) :
  bC prog 187 [.slice (some ⟨g, 0, none⟩) l.length cap, .int .i64 (i : Int), .slice (some ⟨vb, 0, none⟩) 1 1].toArray w fun v' w' => v' = .slice (some ⟨g, 0, none⟩) (l.length + 1) cap ∧ Out (· = g) w w' ∧ aN w' g 127 ((kT l i x).flatMap eC ++ r2) := by
 refine bC.aH (N := 95) func187 rfl rfl (by simp) ?_
 have H := (St.dG (b := g) (t := 127) (l := l.flatMap eC ++ (r1 ++ r2)) hX eY).add (cC bU)
 have E4 : (eC x).length = 1 * 34 := iV NN
 have G5 := dB (C := eC) l hx.len
 have hx2 : XL (l.take (i + 1) ++ l.drop i) := by intro c hc; rcases List.mem_append.1 hc with h_ | h_; exact hx.take _ c h_; exact hx.drop _ c h_
 refine WE.aA (WL.as rfl rfl (WL.nil (WE.aA (WL.mv rfl rfl (WL.mv rfl rfl ?_)))))
 refine WL.pv (PV.qZ rfl (gJ.JR (cap := cap) (H.o 0 rfl) hx rfl (by omega)) dZ eH rfl rfl (by omega) (by omega)) rfl ?_
 refine WL.nil (WE.aA (WL.mv rfl rfl ?_))
 refine WL.pv (PV.dR (by exact cN.bZ (n := 1) (H.p 0 rfl) E4) dZ rfl) rfl ?_
 refine WL.as rfl rfl (WL.nil (WE.seq (WE.aA (WL.mv rfl rfl (WL.pv (PV.eql rfl rfl rfl) rfl (WL.nil ?_))))))
 refine WE.bD rfl rfl ?_
 refine WE.skip (WE.aA (WL.mv rfl rfl (WL.pv (PV.dR (gJ.JR (cap := cap) (H.o 0 rfl) hx rfl (by omega)) dZ rfl) rfl (WL.as rfl rfl (WL.nil (WE.seq (WE.aA ?_)))))))
 refine WL.mv rfl rfl (WL.mv rfl rfl (WL.pv (PV.eql rfl rfl rfl) rfl (WL.nil ?_)))
 refine WE.bD rfl (by simp; omega) ?_
 refine WE.skip (WE.seq (WE.aA (WL.mv rfl rfl (WL.mv rfl rfl ?_))))
 refine WL.pv (PV.eq (v' := .int .i64 ((l.length + 1 : Nat) : Int)) (PV.bT rfl rfl rfl (by omega) (by omega)) rfl) rfl ?_
 refine WL.mv rfl rfl (WL.pv (PV.L2 dZ rfl) rfl (WL.pv (PV.gtr rfl rfl rfl) rfl (WL.nil ?_)))
 refine WE.bD rfl (by simp; omega) ?_
 refine WE.skip (WE.aA (WL.mv rfl rfl (WL.mv rfl rfl (WL.mv rfl rfl ?_))))
 refine WL.pv (PV.eq (v' := .int .i64 ((l.length + 1 : Nat) : Int)) (PV.bT rfl rfl rfl (by omega) (by omega)) rfl) rfl ?_
 have hSW := cN.aAG (n := l.length + 1) (c := cap) (H.o 0 rfl) (by rw [List.length_append, List.length_append, G5, R8]; omega) jT
 refine WL.pv (PV.aD5 (j := l.length + 1) rfl dZ eH rfl rfl jT) rfl (WL.as rfl rfl (WL.nil (WE.seq (WE.aA (WL.mv rfl rfl (WL.mv rfl rfl (WL.mv rfl rfl ?_)))))))
 refine WL.mv rfl rfl (WL.pv (PV.eq (v' := .int .i64 ((i + 1 : Nat) : Int)) (PV.bT rfl rfl rfl (by omega) (by omega)) rfl) rfl ?_)
 refine WL.pv (PV.eq (v' := .slice (some ⟨g, (i + 1) * 34, none⟩) (l.length + 1 - (i + 1)) (cap - (i + 1))) (PV.qZ rfl hSW dZ eH rfl rfl (by omega) (by omega)) (iN (by omega))) rfl ?_
 refine WL.extern (e := Extern.SlicesOverlaps.overlaps #[119, 119] #[4]) (v := .bool false) func202 (by kernel_rfl) (by kernel_rfl) (by kernel_rfl) (by kernel_rfl) rfl (zL dZ eH (by exact H.p 0 rfl) (H.o 0 rfl) hne (by intro h_; have PK := congrArg List.length h_; rw [List.length_append, List.length_append, R8] at PK; simp at PK)) ?_
 refine WL.pv (PV.not rfl rfl) rfl (WL.nil ?_)
 refine WE.cS rfl rfl ?_
 refine WE.bH (.take 0 (.take 1 (.take 2 (.take 3 (.take 4 (.take 5 (.take 6 (.take 7 (.aG 8 .done))))))))) mixed (by kernel_rfl) ?_
 replace H := H.out (Out.drew _)
 refine WP.mv rfl rfl rfl (WP.mv rfl rfl rfl (WP.mv rfl rfl rfl ?_))
 refine WP.aC rfl rfl (PV.eq (v' := .int .i64 ((i + 1 : Nat) : Int)) (PV.bT rfl rfl rfl (by omega) (by omega)) rfl) ?_
 refine WP.aC rfl rfl (PV.eq (v' := .slice (some ⟨g, (i + 1) * 34, none⟩) (l.length + 1 - (i + 1)) (cap - (i + 1))) (PV.qZ rfl hSW dZ eH rfl rfl (by omega) (by omega)) (iN (by omega))) ?_
 refine WP.mv rfl rfl rfl (WP.mv rfl rfl rfl ?_)
 refine WP.aC rfl rfl (PV.eq (v' := .slice (some ⟨g, (i) * 34, none⟩) (l.length + 1 - i) (cap - i)) (PV.qZ rfl hSW dZ eH rfl rfl (by omega) (by omega)) (iN (by omega))) ?_
 refine WP.aG rfl ?_
 have hSD : cN _ (.slice (some ⟨g, (i) * 34, none⟩) (l.length + 1 - i) (cap - i)) 34 (l.length + 1 - i) ((l.drop i).flatMap eC ++ r1) := cN.nY (aN.aF (H.o 0 rfl) (M4 hx (by omega)) rfl) (by rw [List.length_append, dB _ (hx.drop i).len, List.length_drop, R8]; omega) (by omega)
 refine WL.aBj (sz := 34) (l' := (l.take (i + 1) ++ l.drop i).flatMap eC ++ r2) H 0 dZ eH rfl rfl rfl hSD (by rw [show min (l.length + 1 - i) (l.length + 1 - (i + 1)) = l.length - i by omega, List.take_left' (by rw [dB _ (hx.drop i).len, List.length_drop])]; exact CB fun c hc => gK c (List.mem_of_mem_drop hc)) (by rw [show min (l.length + 1 - i) (l.length + 1 - (i + 1)) = l.length - i by omega]; exact IM hx hi R8) rfl ?_
 intro w4 H
 clear hSW
 have hSW := cN.aAG (n := l.length + 1) (c := cap) (H.o 0 rfl) (by rw [List.length_append, dB _ hx2.len]; simp; omega) jT
 refine WL.nil ⟨c5, ?_⟩
 refine WP.done (WE.aA (WL.mv rfl rfl (WL.mv rfl rfl ?_)))
 refine WL.pv (PV.eq (v' := .slice (some ⟨g, (i) * 34, none⟩) (l.length + 1 - i) (cap - i)) (PV.qZ rfl hSW dZ eH rfl rfl (by omega) (by omega)) (iN (by omega))) rfl ?_
 refine WL.mv rfl rfl ?_
 refine WL.aBj (sz := 34) (l' := ((l.take (i + 1) ++ l.drop i).set i x).flatMap eC ++ r2) H 0 dZ eH rfl rfl rfl (by exact cN.bZ (n := 1) (H.p 0 rfl) E4) (p9 (k3 YE) _) (by rw [show min 1 (l.length + 1 - i) = 1 by omega, List.take_of_length_le (l := eC x) (by omega)]; exact oE (C := eC) _ hx2.len r2 (i := i) (by simp; omega) (iV NN) rfl) rfl ?_
 intro w8 H
 refine WL.nil (WE.aA (WL.mv rfl rfl (WL.as rfl rfl (WL.nil (WE.ret ⟨[_], _, .nil _, ⟨rfl, trivial⟩, ?_⟩)))))
 refine ⟨rfl, H.mS.mono fun b _ ⟨_, he, hb⟩ => (by cases List.mem_singleton.1 he; exact hb), ?_⟩
 have h_ := H.o 0 rfl
 have e_ : (l.take (i + 1) ++ l.drop i).set i x = kT l i x := YB hi
 rw [← e_]; exact h_
theorem GV {w : World} {base vb i : Nat} {v : Value} {l : List Ch} {x : Ch} (hf : aJ (fun c => v.ownBlock = some c) (fun w => aN w vb 127 (eC x)) w) (hx : XL l) (NN : x.k.length = 32) (gK : ∀ c ∈ l, c.s.oneCell' = true) (YE : x.s.oneCell' = true) (hlen : l.length ≤ 1000000)
  (hrow : w.ownsRow base 127 34 v l.length (l.flatMap eC)) (hbase : base ≤ w.heap.size) (hne : ¬ v.ownBlock = some vb) (hi : i ≤ l.length) :
  bC prog 187 [v, .int .i64 (i : Int), .slice (some ⟨vb, 0, none⟩) 1 1].toArray w fun v' w' => Out (fun c => v.ownBlock = some c) w w' ∧ w'.ownsRow base 127 34 v' (kT l i x).length ((kT l i x).flatMap eC) ∧ ∀ b, v'.ownBlock = some b → v.ownBlock = some b ∨ w.heap.size ≤ b := by
 have hil := xX l x hi
 have hix : XL (kT l i x) := fun c hc => by
  rcases jA.1 hc with rfl | h
  ·
   exact NN
  ·
   exact hx c h
 by_cases he : i = l.length
 ·
  subst he
  rw [hil]
  exact VS (X := Nil) (fun _ h => h.elim) (hf.mono fun b _ h => h.elim (fun h => h.elim) id) hx NN gK YE hlen hrow hbase
 ·
  have hlt : i < l.length := by omega
  obtain ⟨h1, ⟨rfl, h2⟩ | ⟨g, cap, cur, rfl, hg, CR, jT, SC, hsz, E6⟩⟩ := hrow
  ·
   omega
  ·
   obtain ⟨rest, aAJ⟩ : ∃ rest, rest = cur.toList.drop (l.length * 34) := ⟨_, rfl⟩
   have hB : aN w g 127 (l.flatMap eC ++ rest) := by
    unfold aN
    rw [aAJ, ← E6, List.take_append_drop]
    exact CR
   have hrl : rest.length = cap * 34 - l.length * 34 := by rw [aAJ, List.length_drop, Array.length_toList, hsz]
   have hgl : g < w.heap.size := hB.lt
   rcases Nat.lt_or_ge cap (l.length + 1) with hc | hc
   ·
    refine (O5 (X := Nil) (i := i) (vb := vb) (x := x) (fun _ h => h.elim) hB (hf.mono fun b _ h => by rcases h with h | h; exact h.elim; rw [h]; rfl) hx NN gK YE hlen jT hlt hc).mono ?_
    rintro v' w' ⟨b, c, more, rfl, hO, hge, hB', hc1, hc2, zS⟩
    rw [hil]
    refine ⟨hO.mono fun _ _ h => h.elim, ⟨by rw [dB _ hix.len, hil], .inr ⟨b, c, ((kT l i x).flatMap eC ++ more).toArray, rfl, Nat.le_trans hbase hge, hB', by omega, hc2, ?_, ?_⟩⟩, fun b' hb' => .inr (by have h_ : b = b' := Option.some.inj hb'; omega)⟩
    ·
     simp only [List.size_toArray, List.length_append]
     rw [dB _ hix.len, zS, hil]
     omega
    ·
     rw [List.toList_toArray, List.take_left' (by rw [dB _ hix.len, hil])]
   ·
    have aK1 : 34 ≤ rest.length := by rw [hrl]; omega
    have hr : rest = rest.take 34 ++ rest.drop 34 := (List.take_append_drop 34 rest).symm
    rw [hr] at hB
    refine (J5 (X := Nil) (i := i) (vb := vb) (x := x) (fun _ h => h.elim) hB (hf.mono fun b _ h => by rcases h with h | h; exact h.elim; rw [h]; rfl) hx NN gK YE hlen hc hlt (by rw [List.length_take]; omega) (fun h => hne (by rw [h]; rfl))).mono ?_
    rintro v' w' ⟨rfl, hO, hB'⟩
    rw [hil]
    refine ⟨hO.mono fun b _ h => by rw [h]; rfl, ⟨by rw [dB _ hix.len, hil], .inr ⟨g, cap, ((kT l i x).flatMap eC ++ rest.drop 34).toArray, rfl, hg, hB', by omega, SC, ?_, ?_⟩⟩, fun b' hb' => .inl hb'⟩
    ·
     simp only [List.size_toArray, List.length_append]
     rw [dB _ hix.len, hil, List.length_drop, hrl]
     omega
    ·
     rw [List.toList_toArray, List.take_left' (by rw [dB _ hix.len, hil])]
theorem EW {k : List UInt8} (hk : k.length = 32) (c : Ch) (W : World) (h : c.k.length = 32) : eQ prog (wH 186) [.agg (eC c).toArray, .agg (kc k).toArray] W fun v W' => v = .int .i64 (iI c.k k) ∧ Out Nil W W' :=
 eQ.jL (fs := []) (cs := []) aGs (RQ (X := Nil) (fun _ h => h.elim) h hk)
theorem CD {a b : List UInt8} (ha : a.length = 32) (hb : b.length = 32) : num a = num b ↔ a = b := ⟨sU _ _ (by rw [ha, hb]), fun h => by rw [h]⟩
theorem QX {m m' : List En} {k : List UInt8} (h : m.map kv = m'.map kv) : (fG m k).map kv = (fG m' k).map kv := by
 have e : ∀ l : List En, (fG l k).map kv = (l.map kv).filter fun x => decide (x.1 ≠ k) := fun l => by rw [List.filter_map]; rfl
 rw [e, e, h]
theorem K9 (e : En) : ∀ l l' : List En, l.map kv = l'.map kv → (ins e l).map kv = (ins e l').map kv
 | [], [], _ => rfl
 | [], _ :: _, h => by simp at h
 | _ :: _, [], h => by simp at h
 | x :: l, y :: l', h => by
  rw [List.map_cons, List.map_cons] at h
  injection h with h1 h2
  have hk : x.k = y.k := congrArg Prod.fst h1
  have ih := K9 e l l' h2
  unfold ins
  rw [hk]
  split
  ·
   rw [List.map_cons, List.map_cons, List.map_cons, List.map_cons, h1, h2]
  ·
   rw [List.map_cons, List.map_cons, h1, ih]
theorem Q5 {m m' : List En} {e : En} (h : m.map kv = m'.map kv) : (fS m e).map kv = (fS m' e).map kv := K9 e _ _ (QX h)
theorem JS : ∀ (l : List Ch) (m m' : List En), m.map kv = m'.map kv → (lU m l).map kv = (lU m' l).map kv
 | [], _, _, h => h
 | c :: l, m, m', h => JS l (yW m c) (yW m' c) (by
  unfold yW
  split
  ·
   exact QX h
  ·
   exact Q5 h)
theorem St.aAA {X : Nat → Prop} {w0 w : World} {O L : List aP} {Ps : List (World → Prop)} (H : St X w0 w O L Ps) (i j : Nat) {e1 e2 : aP} (hi : L[i]? = some e1) (hj : L[j]? = some e2) (hij : i ≠ j) : aJ e1.fp e2.ok w := fun w' hw =>
 e2.loc w w' (fun b hb => hw b (H.V4 e2 (List.mem_of_getElem? hj) b hb) fun h => e8 H.iM hij hi hj b ⟨h, hb⟩) (H.l j hj)
theorem XS {X : Nat → Prop} {w : World} {bits : Int} {s s0 : Value} {l : List Ch} {a : Nat} {q u : List UInt8} (hX : cY X w) (bU : aJ X (cW bits (.leaf a q u s0 : Tr)) w) (dI : aJ X (gJ s l) w) (fU : aJ X (gI l) w) (hx : XL l) (hl : r9 l) (hsh : nL l) (hlen : l.length ≤ 999999) :
  bC prog 147 [(.leaf a q u s0 : Tr).ptr, s].toArray w fun v w' => ∃ l' : List Ch, Out Nil w w' ∧ aJ X (gJ v l') w' ∧ aJ X (gI l') w' ∧ (XL l' ∧ r9 l' ∧ nL l') ∧ l'.length ≤ l.length + 1 ∧ (∀ c ∈ l', c ∈ l ∨ c.k = q) ∧ ∀ (d : Nat) (e : En), e.k = q → e.v = u → grow d (lU [] l') = grow d (lU [e] l) := by
 refine bC.aH (N := 29) func147 rfl rfl (by simp) ?_
 have H := (((St.begin hX).add (cE fU)).add (cE dI)).add (cE bU)
 have hq : q.length = 32 := cW.gY (bU.here)
 have hul : u.length ≤ 1000000 := cW.P8 (bU.here)
 have gK := gJ.one (s := s) (fU.here)
 refine WE.aA (WL.as rfl rfl (WL.nil (WE.aA (WL.mv rfl rfl ?_))))
 refine WL.call aCL rfl (DM (T := (.leaf a q u s0 : Tr)) (bits := bits) H.aR (by exact H.bK 0 rfl) ) ?_
 rintro _ w1 ⟨QI, rfl, hO, iB⟩
 have LF := cN.fX (bJ.dJ iB)
 have hr_ := (mT H.aR iB).imp fun _ h => bJ.dJ h
 replace H := (H.out hO).add hr_
 refine WL.alloc H rfl kL rfl ?_
 intro b5 w2 H
 refine WL.aW H 0 rfl rfl rfl (new := kc q ++ [QI]) rfl (cK fH (by simp only [aS]; omega)) (bN (bG _) (bA _ (by simp [LF]))) (Laid.at (Laid.all (by simp only [aS]; omega)) rfl) rfl ?_
 intro w3 H
 refine WL.nil (WE.aA (WL.mv rfl rfl (WL.pv (PV.fieldAddr rfl gW rfl) rfl ?_)))
 refine WL.bE rfl cZ rfl rfl (aN.aF (H.l 0 rfl) (aK.l (aK.all _)) rfl) (cK cL (by simp only [aS]; omega)) ?_
 refine WL.call aGt rfl (aH5 (s := s) (l := l) (k := q) (f := wH 186) H.aR (by exact (H.bK 2 rfl : aJ _ (gJ s l) _)) hx hl (by omega) hq (EW hq)) ?_
 rintro _ w4 ⟨r, b, rfl, hO, hr, hlo, hge, hb⟩
 replace H := H.out hO
 refine WL.mv rfl rfl (WL.pv (PV.extract rfl rfl rfl) rfl (WL.pv (PV.extract rfl rfl rfl) rfl (WL.as rfl rfl (WL.as rfl rfl (WL.nil (WE.seq (WE.aA ?_)))))))
 refine WL.mv rfl rfl (WL.nil ?_)
 refine WE.cond rfl (fun iR => ?_) (fun iR => ?_)
 ·
  try simp only [bW] at iR
  have hbt : b = true := by exact iR
  obtain ⟨hrl, hrn⟩ := hb.1 hbt
  have hrk : l[r].k = q := (CD (hx _ (List.getElem_mem hrl)) hq).1 hrn
  refine WE.aA (WL.mv rfl rfl (WL.as rfl rfl (WL.nil (WE.ret ⟨[_], _, .nil _, ⟨rfl, trivial⟩, ?_⟩))))
  refine ⟨l, H.aL, H.gF (by exact (H.bK 2 rfl : aJ _ (gJ s l) _)), H.gF (by exact (H.bK 3 rfl : aJ _ (gI l) _)), ⟨hx, hl, hsh⟩, Nat.le_succ _, (fun c hc => .inl hc), fun d e he _ => ?_⟩
  rw [OR hx hl (by rw [he]; exact hq) ⟨l[r], List.getElem_mem hrl, by rw [he]; exact hrk⟩]
 ·
  try simp only [bW] at iR
  have hbf : b = false := by exact iR
  have NQ : ∀ c ∈ l, c.k ≠ q := fun c hc hh => by obtain ⟨i, hi, rfl⟩ := List.getElem_of_mem hc; rcases Nat.lt_or_ge i r with h_ | h_; have PK := hlo i hi h_; rw [hh] at PK; omega; rcases Nat.lt_or_ge r i with YS | YS; have h4_ := List.pairwise_iff_getElem.1 hl r i (by omega) hi YS; have h5_ := hge r (by omega) (Nat.le_refl _); rw [hh] at h4_; omega; (have h6_ : i = r := by omega); subst h6_; have h7_ := hb.2 ⟨hi, by rw [hh]⟩; rw [hbf] at h7_; cases h7_
  refine WE.skip ?_
  refine WE.bH (.take 0 (.take 2 (.take 3 (.take 4 (.take 5 (.take 6 (.take 7 (.jO 1 (.aG 8 (.aG 9 (.take 10 .done))) 8 (.aG 1 (.aG 9 (.take 10 .done))))))))))) mixed (by kernel_rfl) ?_
  replace H := H.out (Out.drew _)
  refine WP.mv rfl rfl rfl (WP.mv rfl rfl rfl (WP.aC rfl rfl (PV.fieldAddr rfl gW rfl) ?_))
  refine WP.dN rfl rfl rfl cZ rfl (aN.aF (H.l 0 rfl) (aK.l (aK.all _)) rfl) (cK cL (by simp only [aS]; omega)) ?_
  refine WP.aC rfl rfl (PV.fieldAddr rfl mY rfl) ?_
  refine WP.aM rfl rfl (RV.aV rfl eU rfl) (aN.aF (H.l 0 rfl) (aK.r (aK.all _) rfl) (by simp [aI, aQ, *])) ?_
  refine WP.aC rfl rfl (PV.dM rfl RG wQ (Fl.cons rfl rfl (by simp only [aS]; omega) (Laid.left (Laid.all (by simp only [aS]; omega))) (Fl.cons rfl (cells_one LF) (by simp only [aS]) (Laid.right (Laid.left (Laid.all (by simp only [aS]))) (by simp only [aS]; omega)) Fl.nil))) ?_
  refine WP.jO rfl rfl ?_ ?_ 
  ·
   refine WL.call TL rfl (zC (l := l) H.aR (by exact (H.bK 2 rfl : aJ _ (gJ s l) _)) hx (by omega) gK) ?_
   rintro v20 w5 ⟨hO, iB⟩
   replace H := H.push hO (aP.hU w.heap.size v20 127 34 _ _) (gR iB H.size) (fun b hb => (iB.lt b hb).1)
   refine WL.nil ⟨(fa (fun _ _ => (aN.aF (H.l 1 rfl) (aK.r (aK.all _) rfl) (by simp [aI, aQ, *]))) (fa (fun _ _ => (aN.aF (H.l 1 rfl) (aK.l (aK.all _)) rfl)) c5)), ?_⟩
   refine WP.aG rfl ?_
   refine WL.bB (l0 := ((kc (List.replicate 32 0) ++ ([.slice none 0 0] ++ ([.bool false]))))) H rfl sF (by decide) rfl (Fl.cons rfl rfl (by simp only [aS]; omega) (Laid.all (by simp only [aS]; omega)) Fl.nil) rfl ?_
   intro b27 w6 H
   refine WL.nil ⟨(fa (nw 8 6) (fa (nw 8 4) c5)), ?_⟩
   refine WP.aG rfl ?_
   have hnv : ¬ v20.ownBlock = some b27 := by exact fun h => e8 H.iM (i := 1) (j := 0) (by decide) rfl rfl b27 ⟨h, rfl⟩
   refine WL.call aA7 rfl (GV (base := w.heap.size) (vb := b27) (l := l) (x := ⟨q, QI, u, false⟩) (by exact St.aAA H 1 0 rfl rfl (by decide)) hx hq gK LF (by omega) (by exact H.l 1 rfl) H.size hnv hr) ?_
   rintro v28 w7 ⟨hO, iB, hfp⟩
   replace H := H.oX (i := 1) rfl hO (aP.hU w.heap.size v28 127 34 _ _) iB hfp
   refine WL.nil ⟨(fa (nw 9 6) (fa (nw 9 4) c5)), ?_⟩
   refine WP.as rfl rfl rfl (WP.done (WE.ret ⟨[_], _, .nil _, ⟨rfl, trivial⟩, ?_⟩))
   have hlt : r9 (kT l r ⟨q, QI, u, false⟩) := LA hl hlo (fun i h hi => by have PK := hge i h hi; rcases Nat.lt_or_ge (num q) (num l[i].k) with YS | YS; exact YS; exact absurd ((CD (hx _ (List.getElem_mem h)) hq).1 (by omega)) (NQ _ (List.getElem_mem h)))
   refine ⟨kT l r ⟨q, QI, u, false⟩, H.aL, (by exact (mT hX (H.l 1 rfl)).imp fun _ h => cN.dJ h), (H.gF (aJ.and (by exact (H.bK 3 rfl : aJ _ (gI l) _)) (by exact (H.bK 0 rfl : aJ _ (bJ QI u) _)))).imp fun _ h c hc => ?_, ⟨fun c hc => ?_, hlt, fun c hc => ?_⟩, by rw [xX l _ hr]; exact Nat.le_refl _, fun c hc => ?_, fun d e he hv => ?_⟩
   ·
    rcases jA.1 hc with rfl | h_; exact h.2; exact h.1 c h_
   ·
    rcases jA.1 hc with rfl | h_; exact hq; exact hx c h_
   ·
    rcases jA.1 hc with rfl | h_; exact hul; exact hsh c h_
   ·
    rcases jA.1 hc with rfl | h_; exact .inr rfl; exact .inl h_
   ·
    rw [MC (l := l) (e := ⟨q, QI, u⟩) hx hl hlt hq NQ (fun c => jA)]; exact CY (JS l _ _ (by obtain ⟨ek, es, ev⟩ := e; subst he; subst hv; rfl))
  ·
   refine WL.bB (l0 := ((kc (List.replicate 32 0) ++ ([.slice none 0 0] ++ ([.bool false]))))) H rfl sF (by decide) rfl (Fl.cons rfl rfl (by simp only [aS]; omega) (Laid.all (by simp only [aS]; omega)) Fl.nil) rfl ?_
   intro b27 w8 H
   refine WL.nil ⟨(fa (nw 8 6) (fa (nw 8 4) c5)), ?_⟩
   refine WP.aG rfl ?_
   refine WL.call TL rfl (zC (l := l) H.aR (by exact (H.bK 2 rfl : aJ _ (gJ s l) _)) hx (by omega) gK) ?_
   rintro v20 w9 ⟨hO, iB⟩
   replace H := H.push hO (aP.hU w.heap.size v20 127 34 _ _) (gR iB H.size) (fun b hb => (iB.lt b hb).1)
   refine WL.nil ⟨(fa (fun _ _ => (aN.aF (H.l 2 rfl) (aK.r (aK.all _) rfl) (by simp [aI, aQ, *]))) (fa (fun _ _ => (aN.aF (H.l 2 rfl) (aK.l (aK.all _)) rfl)) c5)), ?_⟩
   refine WP.aG rfl ?_
   have hnv : ¬ v20.ownBlock = some b27 := by exact fun h => e8 H.iM (i := 0) (j := 1) (by decide) rfl rfl b27 ⟨h, rfl⟩
   refine WL.call aA7 rfl (GV (base := w.heap.size) (vb := b27) (l := l) (x := ⟨q, QI, u, false⟩) (by exact St.aAA H 0 1 rfl rfl (by decide)) hx hq gK LF (by omega) (by exact H.l 0 rfl) H.size hnv hr) ?_
   rintro v28 tM ⟨hO, iB, hfp⟩
   replace H := H.oX (i := 0) rfl hO (aP.hU w.heap.size v28 127 34 _ _) iB hfp
   refine WL.nil ⟨(fa (nw 9 6) (fa (nw 9 4) c5)), ?_⟩
   refine WP.as rfl rfl rfl (WP.done (WE.ret ⟨[_], _, .nil _, ⟨rfl, trivial⟩, ?_⟩))
   have hlt : r9 (kT l r ⟨q, QI, u, false⟩) := LA hl hlo (fun i h hi => by have PK := hge i h hi; rcases Nat.lt_or_ge (num q) (num l[i].k) with YS | YS; exact YS; exact absurd ((CD (hx _ (List.getElem_mem h)) hq).1 (by omega)) (NQ _ (List.getElem_mem h)))
   refine ⟨kT l r ⟨q, QI, u, false⟩, H.aL, (by exact (mT hX (H.l 0 rfl)).imp fun _ h => cN.dJ h), (H.gF (aJ.and (by exact (H.bK 3 rfl : aJ _ (gI l) _)) (by exact (H.bK 0 rfl : aJ _ (bJ QI u) _)))).imp fun _ h c hc => ?_, ⟨fun c hc => ?_, hlt, fun c hc => ?_⟩, by rw [xX l _ hr]; exact Nat.le_refl _, fun c hc => ?_, fun d e he hv => ?_⟩
   ·
    rcases jA.1 hc with rfl | h_; exact h.2; exact h.1 c h_
   ·
    rcases jA.1 hc with rfl | h_; exact hq; exact hx c h_
   ·
    rcases jA.1 hc with rfl | h_; exact hul; exact hsh c h_
   ·
    rcases jA.1 hc with rfl | h_; exact .inr rfl; exact .inl h_
   ·
    rw [MC (l := l) (e := ⟨q, QI, u⟩) hx hl hlt hq NQ (fun c => jA)]; exact CY (JS l _ _ (by obtain ⟨ek, es, ev⟩ := e; subst he; subst hv; rfl))
theorem VB {X : Nat → Prop} {w : World} {n : Nat} {f : Value} {p : Nat → Bool} (hX : cY X w) (hf : ∀ (i : Nat) (W : World), i < n → Out Nil w W → eQ prog f [.int .i64 (i : Int)] W fun v W' => v = .bool (p i) ∧ Out Nil W W') (hn : n ≤ 1000000) :
  bC prog 189 [.int .i64 (n : Int), f].toArray w fun v w' => ∃ r : Nat, v = .int .i64 (r : Int) ∧ Out Nil w w' ∧ r ≤ n ∧ (∀ i, i + 1 = r → p i = false) ∧ (r < n → p r = true) := by
 refine bC.aH (N := 26) func189 rfl rfl (by simp) ?_
 have H := St.begin hX
 refine WE.aA (WL.as rfl rfl (WL.nil (WE.aA (WL.mv rfl rfl (WL.as rfl rfl (WL.as rfl rfl (WL.nil ?_)))))))
 refine WE.seq (WE.block ?_)
 refine WE.loop (α := Nat × Nat) (rg [(5, 3), (9, 16)]) (fun q => [(5, .int .i64 (q.1 : Int)), (6, .int .i64 (q.2 : Int))]) (fun q wl => (q.1 ≤ q.2 ∧ q.2 ≤ n ∧ (∀ i, i + 1 = q.1 → p i = false) ∧ (q.2 < n → p q.2 = true)) ∧ St X w wl [] [] []) (fun q => q.2 - q.1) (0, n) ⟨rfl, rfl, trivial⟩ ⟨⟨Nat.zero_le _, Nat.le_refl _, (fun i h => by cases h), fun h => absurd h (Nat.lt_irrefl _)⟩, H⟩ ?_
 intro ⟨lo, jI⟩ γ0 w1 hI
 try dsimp only at hI
 obtain ⟨hq, H⟩ := hI
 have aK2 : lo ≤ jI := hq.1
 have aIP : jI ≤ n := hq.2.1
 refine WE.seq (WE.aA (WL.mv rfl rfl (WL.mv rfl rfl (WL.pv (PV.lss rfl rfl rfl) rfl (WL.nil ?_)))))
 refine WE.cond rfl (fun jU => ?_) (fun jU => ?_)
 ·
  try simp only [bW] at jU
  have hlt : lo < jI := by omega
  refine WE.skip (WE.block (WE.aA (WL.mv rfl rfl (WL.mv rfl rfl (WL.pv (PV.eq (v' := .int .i64 ((lo + jI : Nat) : Int)) (PV.bT rfl rfl rfl (by omega) (by omega)) rfl) rfl ?_)))))
  refine WL.pv (PV.eq (v' := .int .u64 ((lo + jI : Nat) : Int)) (PV.conv rfl sZ zR rfl) (by (rw [oP]; congr 1; omega))) rfl ?_
  refine WL.pv (PV.eq (v' := .int .u64 (((lo + jI) / 2 : Nat) : Int)) (PV.W7 rfl rfl rfl (by omega)) (by (congr 1; show Int.fdiv _ 2 = _; rw [Int.fdiv_eq_ediv_of_nonneg _ (by omega)]; omega))) rfl ?_
  refine WL.pv (PV.eq (v' := .int .i64 (((lo + jI) / 2 : Nat) : Int)) (PV.lM rfl zR sZ rfl (by omega) (by omega)) rfl) rfl ?_
  refine WL.as rfl rfl (WL.nil (WE.aA (WL.mv rfl rfl (WL.mv rfl rfl ?_))))
  have x8 := hf ((lo + jI) / 2) _ (by omega) H.aL
  refine WL.iW rfl rfl x8 ?_
  rintro _ w4 ⟨rfl, hO⟩
  replace H := H.out hO
  refine WL.pv (PV.not rfl rfl) rfl (WL.nil ?_)
  refine WE.cond rfl (fun pB => ?_) (fun pB => ?_)
  ·
   try simp only [bW] at pB
   have hpf : p ((lo + jI) / 2) = false := by exact pB
   let q2 : Nat × Nat := ((lo + jI) / 2 + 1, jI)
   have YH : q2.1 ≤ q2.2 ∧ q2.2 ≤ n ∧ (∀ i, i + 1 = q2.1 → p i = false) ∧ (q2.2 < n → p q2.2 = true) := ⟨by show (lo + jI) / 2 + 1 ≤ jI; omega, aIP, (fun i hi => by have h_ : i = (lo + jI) / 2 := Nat.succ.inj hi; rw [h_]; exact hpf), hq.2.2.2⟩
   have hd2 : q2.2 - q2.1 < jI - lo := by show jI - ((lo + jI) / 2 + 1) < jI - lo; omega
   refine WE.dY (WL.mv rfl rfl ?_)
   refine WL.pv (PV.eq (v' := .int .i64 (((lo + jI) / 2 + 1 : Nat) : Int)) (PV.bT rfl rfl rfl (by omega) (by omega)) rfl) rfl ?_
   refine WL.as rfl rfl (WL.nil ?_)
   exact ⟨q2, (by repeat (first | with_reducible exact bM.refl _ _ | refine bM.dD rfl ?_ | refine bM.bY rfl ?_ | refine bM.bV rfl ?_)), ⟨rfl, rfl, trivial⟩, rfl, ⟨YH, H⟩, hd2⟩
  ·
   try simp only [bW] at pB
   have hpt : p ((lo + jI) / 2) = true := by exact pB
   let q2 : Nat × Nat := (lo, (lo + jI) / 2)
   have YH : q2.1 ≤ q2.2 ∧ q2.2 ≤ n ∧ (∀ i, i + 1 = q2.1 → p i = false) ∧ (q2.2 < n → p q2.2 = true) := ⟨by show lo ≤ (lo + jI) / 2; omega, by show (lo + jI) / 2 ≤ n; have h_ := hq.2.1; omega, hq.2.2.1, fun _ => hpt⟩
   have hd2 : q2.2 - q2.1 < jI - lo := by show (lo + jI) / 2 - lo < jI - lo; omega
   refine WE.dY (WL.mv rfl rfl (WL.as rfl rfl (WL.nil ?_)))
   exact ⟨q2, (by repeat (first | with_reducible exact bM.refl _ _ | refine bM.dD rfl ?_ | refine bM.bY rfl ?_ | refine bM.bV rfl ?_)), ⟨rfl, rfl, trivial⟩, rfl, ⟨YH, H⟩, hd2⟩
 ·
  try simp only [bW] at jU
  have heq : lo = jI := by omega
  refine WE.exit (WE.aA (WL.mv rfl rfl (WL.as rfl rfl (WL.nil (WE.ret ⟨[_], _, .nil _, ⟨rfl, trivial⟩, ?_⟩)))))
  refine ⟨lo, rfl, H.aL, by omega, hq.2.2.1, fun h => ?_⟩
  rw [heq]; exact hq.2.2.2 (by omega)
theorem U7 {X : Nat → Prop} {w : World} {b1 b2 : Nat} {s : Value} {ks : List (List UInt8)} {i d : Nat} (hX : cY X w) (bU : aJ X (fun w => dA w ⟨b1, 0, none⟩ [s]) w) (dI : aJ X (fun w => dA w ⟨b2, 0, none⟩ [.int .i64 (d : Int)]) w) (fU : aJ X (fB s ks) w) (nM : K32 ks) (hi : i < ks.length) (hd : d < 256) :
  bC prog 190 [.int .i64 (i : Int), .pointer (some ⟨b1, 0, none⟩), .pointer (some ⟨b2, 0, none⟩)].toArray w fun v w' => v = .bool (decide ((bI ks[i] d : Int) = 1)) ∧ Out Nil w w' := by
 refine bC.aH (N := 12) func190 rfl rfl (by simp) ?_
 have H := (((St.begin hX).add (cE fU)).add (cE dI)).add (cE bU)
 have hki := nM _ (List.getElem_mem hi)
 refine WE.aA (WL.as rfl rfl (WL.nil ?_))
 refine WE.bH (.take 0 (.take 1 (.take 2 (.take 3 (.take 4 (.aG 5 (.take 6 (.take 7 .done)))))))) mixed (by kernel_rfl) ?_
 replace H := H.out (Out.drew _)
 refine WP.aM rfl rfl (RV.aV rfl aBo rfl) (H.p 0 rfl) (WP.mv rfl rfl rfl ?_)
 refine WP.aC rfl rfl (PV.eA rfl (by exact (H.p 2 rfl : fB s ks _)) wZ cL rfl rfl (by omega) (by omega)) ?_
 refine WP.dN rfl rfl rfl cZ rfl (fB.rd (by exact (H.p 2 rfl : fB s ks _)) nM i hi) (cK cL (by simp only [aS]; omega)) ?_
 refine WP.aM rfl rfl (RV.aV rfl pR rfl) (H.p 1 rfl) (WP.aG rfl ?_)
 refine WL.call FR rfl (jZ (k := ks[i]) (d := d) H.aR  hki hd) ?_
 rintro _ w1 ⟨rfl, hO⟩
 replace H := H.out hO
 refine WL.nil ⟨(fa (nw 5 4) (fa (nw 5 3) (fa (nw 5 0) c5))), ?_⟩
 refine WP.aC rfl rfl (PV.eql rfl rfl rfl) (WP.as rfl rfl rfl (WP.done (WE.ret ⟨[_], _, .nil _, ⟨rfl, trivial⟩, ?_⟩)))
 exact ⟨rfl, H.aL⟩
def aEf (b2 b3 : Nat) : Value := .func (.func 190) ([] : List Value).toArray [.pointer (some ⟨b2, 0, none⟩), .pointer (some ⟨b3, 0, none⟩)].toArray
theorem GQ {X : Nat → Prop} {w : World} {s : Value} {ks : List (List UInt8)} {d b2 b3 : Nat} (NX : aJ X (fun w => dA w ⟨b2, 0, none⟩ [s]) w) (G8 : aJ X (fun w => dA w ⟨b3, 0, none⟩ [.int .i64 (d : Int)]) w) (hR3 : aJ X (fB s ks) w) (nM : K32 ks) (hd : d < 256) (i : Nat) (W : World) (hi : i < ks.length) (hW : Out Nil w W) :
  eQ prog (aEf b2 b3) [.int .i64 (i : Int)] W fun v W' => v = .bool (decide ((bI (ks.getD i []) d : Int) = 1)) ∧ Out Nil W W' := by
 refine eQ.jL (fs := []) (cs := [.pointer (some ⟨b2, 0, none⟩), .pointer (some ⟨b3, 0, none⟩)]) aGq ?_
 refine (U7 (X := Nil) (s := s) (ks := ks) (i := i) (d := d) (b1 := b2) (b2 := b3) (fun _ h => h.elim) (NX.out hW (fun _ _ h => h.elim) (fun _ _ h => h.elim)) (G8.out hW (fun _ _ h => h.elim) (fun _ _ h => h.elim)) (hR3.out hW (fun _ _ h => h.elim) (fun _ _ h => h.elim)) nM hi hd).mono fun v W' hv => ?_
 rw [List.getD_eq_getElem?_getD, List.getElem?_eq_getElem hi]
 exact hv
theorem ZZ {X : Nat → Prop} {w : World} {s : Value} {ks : List (List UInt8)} {d : Nat} (hX : cY X w) (bU : aJ X (fB s ks) w) (nM : K32 ks) (hlen : ks.length ≤ 1000000) (hd : d < 256) :
  bC prog 151 [s, .int .i64 (d : Int)].toArray w fun v w' => ∃ r : Nat, v = .int .i64 (r : Int) ∧ Out Nil w w' ∧ r ≤ ks.length ∧ (∀ i (h : i < ks.length), i + 1 = r → bI ks[i] d ≠ 1) ∧ (∀ h : r < ks.length, bI ks[r] d = 1) := by
 refine bC.aH (N := 9) func151 rfl rfl (by simp) ?_
 have H := (St.begin hX).add (cE bU)
 have hs1 : s.oneCell' = true := cN.fX (H.p 0 rfl : fB s ks _)
 refine WE.aA ?_
 refine WL.box (l := [s]) H rfl (cells_one hs1) rfl ?_
 intro b2 w1 H
 refine WL.box (l := [.int .i64 (d : Int)]) H rfl (rfl) rfl ?_
 intro b3 w2 H
 refine WL.as rfl rfl (WL.nil (WE.aA (WL.aY rfl aBo rfl rfl (aN.aF (H.l 1 rfl) (aK.all _) rfl) ?_)))
 refine WL.pv (PV.dR (by exact (H.p 0 rfl : fB s ks _)) wZ rfl) rfl ?_
 refine WL.pv (PV.makeFunc rfl) rfl ?_
 replace H := H.freeze (i := 0) rfl
 replace H := H.freeze (i := 0) rfl
 have NX := (H.bK 0 rfl).imp fun _ h => h.rd
 have G8 := (H.bK 1 rfl).imp fun _ h => h.rd
 have hR3 := H.bK 2 rfl
 refine WL.call aGr rfl (VB (X := Nil) (f := aEf b2 b3) (p := fun i => decide ((bI (ks.getD i []) d : Int) = 1)) (fun _ h => h.elim) (GQ NX G8 hR3 nM hd) hlen) ?_
 rintro _ w3 ⟨r, rfl, hO, R8, hr2, hr3⟩
 replace H := H.out hO
 refine WL.as rfl rfl (WL.nil (WE.ret ⟨[_], _, .nil _, ⟨rfl, trivial⟩, ?_⟩))
 refine ⟨r, rfl, H.aL, R8, fun i hi he h1 => ?_, fun h => ?_⟩
 ·
  have h_ := hr2 i he; rw [List.getD_eq_getElem?_getD, List.getElem?_eq_getElem hi] at h_; simp [h1] at h_
 ·
  have h_ := hr3 h; rw [List.getD_eq_getElem?_getD, List.getElem?_eq_getElem h] at h_; simp at h_; omega
structure AP (d : Nat) (T : Tr) (m : List En) (l : List Ch) : Prop where
 er : T.er = grow d m
 srt : j7 m
 kl : KL m
 near : pN d m l
 xl : XL l
 lt : r9 l
 sh : nL l
 sz : m.length + l.length ≤ 900000
 dle : d ≤ 256
theorem AP.pm {d : Nat} {T : Tr} {m : List En} {l : List Ch} (h : AP d T m l) : Pm d m where
 le := h.dle
 kl := h.kl
 N9 := h.srt.N9
 ZI := by obtain ⟨p, h1, _⟩ := h.near; exact fun a ha b hb => (h1 a ha).trans (h1 b hb).symm
theorem AP.pm2 {d : Nat} {T : Tr} {m : List En} {l : List Ch} (h : AP d T m l) : Pm d (lU m l) := aC5 h.dle h.srt h.kl h.xl h.lt h.near
theorem AP.one {d : Nat} {a : Nat} {q u : List UInt8} {s0 : Value} {m : List En} {l : List Ch} (h : AP d (.leaf a q u s0) m l) : ∃ e, m = [e] ∧ e.k = q ∧ e.v = u := by
 have h1 := h.er
 have h2 := mD h.pm
 rw [← h1] at h2
 match m, h, h1, h2 with
 | [e], _, h1, _ => rw [dO] at h1; injection h1 with h3 h4; exact ⟨e, rfl, h3.symm, h4.symm⟩
 | [], _, _, h2 => cases h2
 | _ :: _ :: _, _, _, h2 => simp [Tr.er, Sh.gH] at h2
theorem AP.none {d : Nat} {m : List En} {l : List Ch} (h : AP d .nil m l) : m = [] := by
 have h2 := mD h.pm
 rw [← h.er] at h2
 exact List.eq_nil_of_length_eq_zero h2.symm
theorem AP.sub {d b : Nat} {T : Tr} {m : List En} {l : List Ch} (h : AP d T m l) (hd : d < 256) (hb : b < 2) (hk : T.er.kind ≠ 1) : AP (d + 1) (T.child b) (bO m d b) (lS l d b) where
 er := by
  cases T with
  | nil =>
   rw [h.none]
   have : (Tr.child .nil b) = .nil := by unfold Tr.child; split <;> rfl
   rw [this]; exact (eF _).symm
  | leaf a q u s => exact absurd rfl hk
  | inner a x y =>
   have h2 : 2 ≤ m.length := (oC h.pm).1 (by rw [← h.er]; rfl)
   have h3 := h.er
   rw [iP d m hd h2] at h3
   injection h3 with h4 h5
   rcases (show b = 0 ∨ b = 1 by omega) with rfl | rfl
   ·
    exact h4
   ·
    exact h5
 srt := h.srt.part
 kl := fun e he => h.kl e (iG.1 he).1
 near := h.near.part hd h.kl h.xl
 xl := h.xl.sub fun c hc => (iF.1 hc).1
 lt := h.lt.sub (AO l d b)
 sh := fun c hc => h.sh c (iF.1 hc).1
 sz := by
  have h1 : (bO m d b).length ≤ m.length := List.length_filter_le ..
  have h2 : (lS l d b).length ≤ l.length := List.length_filter_le ..
  have := h.sz
  omega
 dle := hd
theorem AP.live {d : Nat} {l : List Ch} (h : AP d .nil [] l) : AP d .nil [] (eP l) ∧ grow d (lU [] (eP l)) = grow d (lU [] l) := by
 refine ⟨⟨h.er, h.srt, h.kl, ?_, h.xl.sub fun c hc => (jH.1 hc).1, h.lt.sub (AY l), fun c hc => h.sh c (jH.1 hc).1, ?_, h.dle⟩, by rw [UW h.xl h.lt]⟩
 ·
  obtain ⟨p, h1, h2⟩ := h.near
  exact ⟨p, h1, fun c hc => h2 c (jH.1 hc).1⟩
 ·
  have h2 : (eP l).length ≤ l.length := List.length_filter_le ..
  have := h.sz
  omega
theorem AP.merge {d a : Nat} {q u : List UInt8} {s0 : Value} {m : List En} {l l' : List Ch} (h : AP d (.leaf a q u s0) m l) (hX : XL l' ∧ r9 l' ∧ nL l') (hn : l'.length ≤ l.length + 1) (hm : ∀ c ∈ l', c ∈ l ∨ c.k = q) (hg : ∀ (d : Nat) (e : En), e.k = q → e.v = u → grow d (lU [] l') = grow d (lU [e] l)) :
  AP d .nil [] l' ∧ grow d (lU [] l') = grow d (lU m l) := by
 obtain ⟨e, rfl, hk, hv⟩ := h.one
 refine ⟨⟨(eF d).symm, List.Pairwise.nil, (fun _ h => by cases h), ?_, hX.1, hX.2.1, hX.2.2, ?_, h.dle⟩, hg d e hk hv⟩
 ·
  obtain ⟨p, h1, h2⟩ := h.near
  refine ⟨p, (fun _ h => by cases h), fun c hc => ?_⟩
  rcases hm c hc with h3 | h3
  ·
   exact h2 c h3
  ·
   rw [h3, ← hk]; exact h1 e (by simp)
 ·
  have := h.sz
  simp at this ⊢
  omega
theorem AP.join {d : Nat} {T l r : Tr} {m : List En} {cs : List Ch} (h : AP d T m cs) (hd : d < 256) (hl : l.er = grow (d + 1) (lU (bO m d 0) (lS cs d 0))) (hr : r.er = grow (d + 1) (lU (bO m d 1) (lS cs d 1))) : kM l.er r.er = grow d (lU m cs) ∧ l.er.gH + r.er.gH ≤ 1000000000 := by
 rw [hl, hr, ← GM h.srt h.kl h.xl h.lt, ← GM h.srt h.kl h.xl h.lt]
 refine ⟨o8 h.pm2 hd, ?_⟩
 rw [mD (h.pm2.part hd 0), mD (h.pm2.part hd 1), nV]
 have h1 := ZT cs m
 have := h.sz
 omega
theorem NL {T : Tr} (h : T.er.kind = 1) : ∃ a q u s0, T = .leaf a q u s0 := by
 cases T with
 | nil => cases h
 | leaf a q u s => exact ⟨a, q, u, s, rfl⟩
 | inner a l r => cases h
def aBy (d : Nat) : Prop := ∀ {X : Nat → Prop} {w : World} {bh bc : Nat} {bits c0 : Int} {T : Tr} {m : List En} {l : List Ch} {s : Value}, (∀ b, X b → b < w.heap.size) → aN w bc 213 [.int .i64 c0] → aJ (fun c => X c ∨ c = bc) (fQ bh bc bits) w →
 aJ (fun c => X c ∨ c = bc) (cW bits T) w → aJ (fun c => X c ∨ c = bc) (gJ s l) w → aJ (fun c => X c ∨ c = bc) (gI l) w → aJ (fun c => X c ∨ c = bc) aZ w → 0 ≤ bits ∧ bits ≤ 256 → AP d T m l →
 bC prog 96 [.pointer (some ⟨bh, 0, none⟩), T.ptr, s, .int .i64 (d : Int)].toArray w fun v w' => ∃ (T' : Tr) (k : Int), v = T'.ptr ∧ T'.er = grow d (lU m l) ∧ Out (· = bc) w w' ∧ aN w' bc 213 [.int .i64 k] ∧ aJ (fun c => X c ∨ c = bc) (cW bits T') w'
theorem MK {X : Nat → Prop} {w : World} {bh bc : Nat} {bits c0 : Int} {T : Tr} {m : List En} {l : List Ch} {s : Value} {d : Nat} (hX : cY X w) (eY : aN w bc 213 ([.int .i64 c0])) (bU : aJ (fun c_ => X c_ ∨ c_ = bc) (fQ bh bc bits) w) (dI : aJ (fun c_ => X c_ ∨ c_ = bc) (cW bits T) w) (fU : aJ (fun c_ => X c_ ∨ c_ = bc) (gJ s l) w) (jY : aJ (fun c_ => X c_ ∨ c_ = bc) (gI l) w) (o9 : aJ (fun c_ => X c_ ∨ c_ = bc) (aZ) w) (bS : 0 ≤ bits ∧ bits ≤ 256) (hap : AP d T m l) (ih : d < 256 → aBy (d + 1)) :
  bC prog 96 [.pointer (some ⟨bh, 0, none⟩), T.ptr, s, .int .i64 (d : Int)].toArray w fun v w' => ∃ (T' : Tr) (k : Int), v = T'.ptr ∧ T'.er = grow d (lU m l) ∧ Out (· = bc) w w' ∧ aN w' bc 213 [.int .i64 k] ∧ aJ (fun c => X c ∨ c = bc) (cW bits T') w' := by
 refine bC.aH (N := 73) func96 rfl rfl (by simp) ?_
 have H := (((((St.dG (b := bc) (t := 213) (l := [.int .i64 c0]) hX eY).add (cC o9)).add (cC jY)).add (cC fU)).add (cC dI)).add (cC bU)
 have hsz := hap.sz
 have SN := hap.dle
 refine WE.aA (WL.as rfl rfl (WL.nil ?_))
 refine WE.cut (α := Tr × Value × List Ch × List En) (rg [(1, 2), (8, 1), (12, 12)]) (fun p => [(1, p.1.ptr), (2, p.2.1)]) (fun p wl => (AP d p.1 p.2.2.2 p.2.2.1 ∧ p.1.er.kind ≠ 1 ∧ grow d (lU p.2.2.2 p.2.2.1) = grow d (lU m l)) ∧ St X w wl [aP.blk bc 213 [.int .i64 c0]] [] [fQ bh bc bits, cW bits p.1, gJ p.2.1 p.2.2.1, gI p.2.2.1, aZ]) ?_ ?_
 ·
  refine WE.block (WE.aA (WL.mv rfl rfl ?_))
  refine WL.pv (PV.dR (by exact (H.p 2 rfl : (gJ s l) _)) dZ rfl) rfl ?_
  refine WL.pv (PV.eql rfl rfl rfl) rfl (WL.as rfl rfl (WL.nil ?_))
  refine WE.cond rfl (fun lJ => ?_) (fun lJ => ?_)
  ·
   try simp only [bW] at lJ
   have hl0 : l = [] := List.eq_nil_of_length_eq_zero (by omega)
   refine WE.aA (WL.mv rfl rfl (WL.as rfl rfl (WL.nil (WE.ret ⟨[_], _, .nil _, ⟨rfl, trivial⟩, ?_⟩))))
   subst hl0
   exact ⟨T, c0, rfl, hap.er, H.cR, H.o 0 rfl, H.fV (by exact (H.bK 1 rfl : aJ _ (cW bits T) _))⟩
  ·
   try simp only [bW] at lJ
   refine WE.aA (WL.mv rfl rfl ?_)
   refine WL.call lX rfl (eX (T := T) (bits := bits) H.aR (by exact H.bK 1 rfl) ) ?_
   rintro _ w1 ⟨rfl, hO⟩
   replace H := H.out hO
   refine WL.pv (PV.eql rfl rfl rfl) rfl (WL.as rfl rfl (WL.nil ?_))
   refine WE.cond rfl (fun iR => ?_) (fun iR => ?_)
   ·
    try simp only [bW] at iR
    have wG : T.er.kind = 1 := by exact iR
    obtain ⟨a, q, u, s0, rfl⟩ := NL wG
    refine WE.dY (WL.mv rfl rfl (WL.mv rfl rfl ?_))
    refine WL.call aGM rfl (XS (bits := bits) (s := s) (l := l) (a := a) (q := q) (u := u) (s0 := s0) H.aR (by exact (H.bK 1 rfl : aJ _ (cW bits (.leaf a q u s0)) _)) (by exact (H.bK 2 rfl : aJ _ (gJ s l) _)) (by exact (H.bK 3 rfl : aJ _ (gI l) _)) hap.xl hap.lt hap.sh (by omega)) ?_
    rintro v23 w2 ⟨l23, hO, aJm, aJk, aJj, aI2, aI3, CP⟩
    replace H := ((H.out hO).add aJk).add aJm
    have hmg := hap.merge aJj aI2 aI3 CP
    replace H := H.add (show aJ _ (cW bits .nil) _ from fun _ _ => trivial)
    refine WL.as rfl rfl (WL.as rfl rfl (WL.nil ?_))
    exact ⟨(.nil, v23, l23, []), (by repeat (first | with_reducible exact bM.refl _ _ | refine bM.dD rfl ?_)), ⟨rfl, rfl, trivial⟩, rfl, ⟨⟨hmg.1, (by show (0 : Int) ≠ 1; decide), hmg.2⟩, H.uB [3, 0, 1, 2, 7]⟩⟩
   ·
    try simp only [bW] at iR
    have wG : T.er.kind ≠ 1 := by exact iR
    refine WE.skip ?_
    exact ⟨(T, s, l, m), (by repeat (first | with_reducible exact bM.refl _ _ | refine bM.dD rfl ?_)), ⟨rfl, rfl, trivial⟩, rfl, ⟨⟨hap, wG, rfl⟩, H⟩⟩
 ·
  intro ⟨T1, s1, l1, m1⟩ γ w3 hI
  try dsimp only at hI
  obtain ⟨⟨zT, wG, hg1⟩, H⟩ := hI
  try dsimp only at zT wG hg1
  refine WE.cut (α := Value × List Ch) (rg [(2, 1), (8, 1), (24, 22)]) (fun p => [(2, p.1)]) (fun p wl => (AP d T1 m1 p.2 ∧ d < 256 ∧ grow d (lU m1 p.2) = grow d (lU m l)) ∧ St X w wl [aP.blk bc 213 [.int .i64 c0]] [] [fQ bh bc bits, cW bits T1, gJ p.1 p.2, gI p.2, aZ]) ?_ ?_
  ·
   refine WE.aA (WL.mv rfl rfl (WL.pv (PV.jP rfl xK rfl rfl) rfl (WL.nil ?_)))
   refine WE.cond rfl (fun rS => ?_) (fun rS => ?_)
   ·
    try simp only [bW] at rS
    obtain rfl : T1 = .nil := Tr.IG (by exact rS)
    obtain rfl := zT.none
    have aAM := gJ.one (s := s1) (by exact (H.p 3 rfl : (gI l1) _))
    have hlv := zT.live
    have aKX := zT.sz
    refine WE.aA (WL.mv rfl rfl ?_)
    refine WL.call TL rfl (zC (l := l1) H.aR (by exact (H.bK 2 rfl : aJ _ (gJ s1 l1) _)) zT.xl (by omega) aAM) ?_
    rintro v27 w4 ⟨hO, iB⟩
    replace H := H.push hO (aP.hU w.heap.size v27 127 34 _ _) (gR iB H.size) (fun b hb => (iB.lt b hb).1)
    refine WL.call aGL rfl (GX (l := l1) (f := wH 150) (H.l 0 rfl) zT.xl (by omega) aAM GK) ?_
    rintro v28 w5 ⟨hO, iB, NP⟩
    replace H := H.oX (i := 0) rfl hO (aP.hU w.heap.size v28 127 34 _ _) iB (fun b hb => .inl (NP.symm.trans hb))
    replace H := H.freeze (i := 0) rfl
    replace H := H.add (show aJ _ (gJ v28 (eP l1)) _ from (H.bK 0 rfl).imp fun _ h => cN.dJ h)
    replace H := H.add (show aJ _ (gI (eP l1)) _ from (by exact (H.bK 5 rfl : aJ _ (gI l1) _).imp fun _ h => h.sub fun c hc => (jH.1 hc).1))
    refine WL.as rfl rfl (WL.nil (WE.aA (WL.mv rfl rfl ?_)))
    refine WL.pv (PV.dR (by exact (H.p 1 rfl : (gJ v28 (eP l1)) _)) dZ rfl) rfl ?_
    refine WL.nil (WE.block (WE.aA (WL.pv (PV.eql rfl rfl rfl) rfl (WL.as rfl rfl (WL.nil ?_)))))
    refine WE.cond rfl (fun kU => ?_) (fun kU => ?_)
    ·
     try simp only [bW] at kU
     have hl0 : eP l1 = [] := List.eq_nil_of_length_eq_zero (by omega)
     refine WE.aA (WL.as rfl rfl (WL.nil (WE.ret ⟨[_], _, .nil _, ⟨rfl, trivial⟩, ?_⟩)))
     refine ⟨.nil, c0, rfl, ?_, H.cR, H.o 0 rfl, H.fV (fun _ _ => trivial)⟩
     rw [← hg1, ← hlv.2, hl0]; exact (eF d).symm
    ·
     try simp only [bW] at kU
     refine WE.aA (WL.pv (PV.eql rfl rfl rfl) rfl (WL.as rfl rfl (WL.nil ?_)))
     refine WE.cond rfl (fun I9 => ?_) (fun I9 => ?_)
     ·
      try simp only [bW] at I9
      have hl1 : 0 < (eP l1).length := by omega
      obtain ⟨c1, hc1⟩ := List.length_eq_one_iff.1 (show (eP l1).length = 1 by omega)
      have CT : c1 ∈ eP l1 := by rw [hc1]; simp
      have pT := hlv.1.xl _ CT
      have hge : (eP l1)[0] = c1 := by simp [hc1]
      refine WE.bH (.take 0 (.take 1 (.take 2 (.take 3 (.take 4 (.take 5 (.take 6 (.take 7 (.take 8 (.take 9 (.aG 10 (.take 11 .done)))))))))))) mixed (by kernel_rfl) ?_
      replace H := H.out (Out.drew _)
      refine WP.mv rfl rfl rfl (WP.mv rfl rfl rfl ?_)
      refine WP.aC rfl rfl (PV.eA rfl (by exact (H.p 1 rfl : (gJ v28 (eP l1)) _)) dZ eH rfl rfl (by omega) (by omega)) ?_
      refine WP.aC rfl rfl (PV.dQ rfl qP rfl) ?_
      refine WP.dN rfl rfl rfl cZ rfl ((by have h_ := gJ.rd (by exact (H.p 1 rfl : (gJ v28 (eP l1)) _)) hlv.1.xl 0 hl1; rw [hge] at h_; exact h_.sub (aK.l (aK.all _)))) (cK cL (by simp only [aS]; omega)) ?_
      refine WP.mv rfl rfl rfl ?_
      refine WP.aC rfl rfl (PV.eA rfl (by exact (H.p 1 rfl : (gJ v28 (eP l1)) _)) dZ eH rfl rfl (by omega) (by omega)) ?_
      refine WP.aC rfl rfl (PV.dQ rfl Y6 rfl) ?_
      refine WP.aM rfl rfl (RV.aV rfl eU rfl) ((by have h_ := gJ.rd (by exact (H.p 1 rfl : (gJ v28 (eP l1)) _)) hlv.1.xl 0 hl1; rw [hge] at h_; exact h_.sub (aK.r (aK.l (aK.all _)) (by rw [aI, pT])))) ?_
      refine WP.aC rfl rfl (PV.dM rfl xL kL (Fl.cons rfl rfl (by simp only [aS]; omega) (Laid.left (Laid.all (by simp only [aS]; omega))) (Fl.cons rfl (cN.cells ((show gI (eP l1) _ from (by exact (H.p 0 rfl : (gI (eP l1)) _))) c1 CT)) (by simp only [aS]) (Laid.right (Laid.all (by simp only [aS])) (by simp only [aS]; omega)) Fl.nil))) ?_
      refine WP.aG rfl ?_
      refine WL.call aBd rfl (y7 (k := c1.k) (lv := c1.v) (s := c1.s) (bits := bits) H.aR (H.o 0 rfl) (by exact (H.aO 0 rfl 3 rfl : aJ _ (fQ bh bc bits) _)) (by exact (H.aO 0 rfl 7 rfl : aJ _ (aZ) _)) bS (hlv.1.sh _ CT) pT (by exact ((H.aO 0 rfl 0 rfl : aJ _ (gI (eP l1)) _).imp fun _ h => h _ CT).wk1)) ?_
      rintro _ w6 ⟨aKg, aKH, rfl, aFo, hO, hB, hR⟩
      replace H := H.dH 0 rfl hO hB hR
      refine WL.nil ⟨(fa (nw 10 8) (fa (nw 10 4) c5)), ?_⟩
      refine WP.as rfl rfl rfl (WP.done (WE.ret ⟨[_], _, .nil _, ⟨rfl, trivial⟩, ?_⟩))
      refine ⟨aKg, _, rfl, ?_, H.cR, H.o 0 rfl, H.fV (H.bK 0 rfl)⟩
      have hcd := (jH.1 CT).2
      rw [aFo, ← hg1, ← hlv.2, hc1]
      have e_ : lU [] [c1] = [c1.en] := by show yW [] c1 = _; unfold yW; rw [hcd]; rfl
      rw [e_, dO]; rfl
     ·
      try simp only [bW] at I9
      have DR : d < 256 := by rcases Nat.lt_or_ge d 256 with h_ | h_; exact h_; (have PK : d = 256 := by omega); subst PK; have YS := pN.one hlv.1.near hlv.1.xl hlv.1.lt; omega
      refine WE.skip ?_
      exact ⟨(v28, eP l1), (by repeat (first | with_reducible exact bM.refl _ _ | refine bM.dD rfl ?_)), ⟨rfl, trivial⟩, rfl, ⟨⟨hlv.1, DR, hlv.2.trans hg1⟩, H.uB [3, 4, 1, 0, 7]⟩⟩
   ·
    try simp only [bW] at rS
    have DR : d < 256 := by cases aCD : T1 with | nil => subst aCD; simp [Tr.addr] at rS | leaf a q u s => subst aCD; exact absurd rfl wG | inner a x y => subst aCD; exact zT.pm.lt ((oC zT.pm).1 (by rw [← zT.er]; rfl))
    refine WE.skip ?_
    exact ⟨(s1, l1), (by repeat (first | with_reducible exact bM.refl _ _ | refine bM.dD rfl ?_)), ⟨rfl, trivial⟩, rfl, ⟨⟨zT, DR, hg1⟩, H⟩⟩
  ·
   intro ⟨s2, l2⟩ γ w7 hI
   try dsimp only at hI
   obtain ⟨⟨vV, DR, hg2⟩, H⟩ := hI
   try dsimp only at vV DR hg2
   have aKW := vV.sz
   refine WE.aA (WL.mv rfl rfl ?_)
   refine WL.call aBb rfl (R2 (s := s2) (l := l2) (f := wH 152) H.aR (by exact (H.bK 2 rfl : aJ _ (gJ s2 l2) _)) vV.xl (by omega) (gJ.one (s := s2) (by exact (H.p 3 rfl : (gI l2) _))) GJ) ?_
   rintro v47 w8 ⟨hO, hR⟩
   replace H := (H.out hO).add hR
   refine WL.mv rfl rfl ?_
   refine WL.call aGJ rfl (ZZ (ks := l2.map Ch.k) (d := d) H.aR (H.bK 0 rfl) (GU vV.xl) (by rw [List.length_map]; omega) DR) ?_
   rintro _ w9 ⟨r, rfl, hO, hr, hlo, hhi⟩
   replace H := H.out hO
   rw [List.length_map] at hr
   have hps := EP vV.xl vV.lt vV.near DR hr (fun i h hi => by have h_ := hlo i (by rw [List.length_map]; exact h) hi; rw [List.getElem_map] at h_; exact h_) (fun h => by have h_ := hhi (by rw [List.length_map]; exact h); rw [List.getElem_map] at h_; exact h_)
   have hs0 := vV.sub DR (b := 0) (by omega) wG
   have aIM := vV.sub DR (b := 1) (by omega) wG
   refine WL.as rfl rfl (WL.nil ?_)
   refine WE.bH (.take 0 (.take 1 (.take 3 (.take 4 (.take 5 (.take 6 (.take 7 (.take 8 (.aG 2 (.aG 9 (.take 10 .done))))))))))) mixed (by kernel_rfl) ?_
   replace H := H.out (Out.drew _)
   refine WP.mv rfl rfl rfl (WP.mv rfl rfl rfl (WP.mv rfl rfl rfl (WP.mv rfl rfl rfl (WP.mv rfl rfl rfl ?_))))
   refine WP.aC rfl rfl (PV.aD6 rfl (by exact (H.p 3 rfl : (gJ s2 l2) _)) dZ eH rfl rfl rfl (by omega) (by omega)) ?_
   refine WP.mv rfl rfl rfl ?_
   refine WP.aC rfl rfl (PV.eq (v' := .int .i64 ((d + 1 : Nat) : Int)) (PV.bT rfl rfl rfl (by omega) (by omega)) (by congr 1)) ?_
   refine WP.aG rfl ?_
   refine WL.call N3 rfl (qX (T := T1) (bits := bits) (b := 0) H.aR (by exact (H.bK 2 rfl : aJ _ (cW bits T1) _))) ?_
   rintro _ tM ⟨rfl, hO⟩
   replace H := H.out hO
   refine WL.nil ⟨c5, ?_⟩
   refine WP.aG rfl ?_
   refine WL.call aCH rfl (ih DR (T := T1.child 0) (m := bO m1 d 0) (l := lS l2 d 0) (bits := bits) H.aR (H.o 0 rfl) (by exact (H.aO 0 rfl 1 rfl : aJ _ (fQ bh bc bits) _)) (by exact (H.aO 0 rfl 2 rfl : aJ _ (cW bits T1) _).imp fun _ h => h.left) (by exact (H.aO 0 rfl 3 rfl : aJ _ (gJ s2 l2) _).imp fun _ h => (by have h_ := h.MY vV.xl (lo := 0) (hi := r) (Nat.zero_le _) hr; rw [List.drop_zero, Nat.sub_zero, hps.1] at h_; exact h_)) (by exact (H.aO 0 rfl 4 rfl : aJ _ (gI l2) _).imp fun _ h => h.sub fun c hc => (iF.1 hc).1) (by exact (H.aO 0 rfl 5 rfl : aJ _ (aZ) _)) bS hs0) ?_
   rintro _ wT ⟨aHO, aKE, rfl, aFm, hO, hB, hR⟩
   replace H := H.dH 0 rfl hO hB hR
   refine WL.nil ⟨c5, ?_⟩
   refine WP.as rfl rfl rfl (WP.done ?_)
   refine WE.bH (.take 0 (.take 1 (.take 3 (.take 4 (.take 5 (.take 6 (.take 7 (.aG 2 (.aG 8 (.take 9 .done)))))))))) mixed (by kernel_rfl) ?_
   replace H := H.out (Out.drew _)
   refine WP.mv rfl rfl rfl (WP.mv rfl rfl rfl (WP.mv rfl rfl rfl (WP.mv rfl rfl rfl ?_)))
   refine WP.aC rfl rfl (PV.qZ rfl (by exact (H.p 4 rfl : (gJ s2 l2) _)) dZ eH rfl rfl (by omega) (by omega)) ?_
   refine WP.mv rfl rfl rfl ?_
   refine WP.aC rfl rfl (PV.eq (v' := .int .i64 ((d + 1 : Nat) : Int)) (PV.bT rfl rfl rfl (by omega) (by omega)) (by congr 1)) ?_
   refine WP.aG rfl ?_
   refine WL.call N3 rfl (qX (T := T1) (bits := bits) (b := 1) H.aR (by exact (H.bK 3 rfl : aJ _ (cW bits T1) _))) ?_
   rintro _ G2 ⟨rfl, hO⟩
   replace H := H.out hO
   refine WL.nil ⟨c5, ?_⟩
   refine WP.aG rfl ?_
   refine WL.call aCH rfl (ih DR (T := T1.child 1) (m := bO m1 d 1) (l := lS l2 d 1) (bits := bits) H.aR (H.o 0 rfl) (by exact (H.aO 0 rfl 2 rfl : aJ _ (fQ bh bc bits) _)) (by exact (H.aO 0 rfl 3 rfl : aJ _ (cW bits T1) _).imp fun _ h => h.right) (by exact (H.aO 0 rfl 4 rfl : aJ _ (gJ s2 l2) _).imp fun _ h => (by have h_ := h.sub vV.xl (lo := r) (hi := l2.length) hr (Nat.le_refl _); rw [List.take_of_length_le (by rw [List.length_drop]; exact Nat.le_refl _), hps.2] at h_; exact h_)) (by exact (H.aO 0 rfl 5 rfl : aJ _ (gI l2) _).imp fun _ h => h.sub fun c hc => (iF.1 hc).1) (by exact (H.aO 0 rfl 6 rfl : aJ _ (aZ) _)) bS aIM) ?_
   rintro _ D4 ⟨aHN, aKD, rfl, aFl, hO, hB, hR⟩
   replace H := H.dH 0 rfl hO hB hR
   refine WL.nil ⟨c5, ?_⟩
   refine WP.as rfl rfl rfl (WP.done (WE.aA (WL.mv rfl rfl (WL.mv rfl rfl (WL.mv rfl rfl ?_)))))
   have hjn := vV.join DR aFm aFl
   refine WL.call FV rfl (y8 (l := aHO) (r := aHN) (bits := bits) H.aR (H.o 0 rfl) (by exact (H.aO 0 rfl 3 rfl : aJ _ (fQ bh bc bits) _)) (by exact (H.aO 0 rfl 1 rfl : aJ _ (cW bits aHO) _)) (by exact (H.aO 0 rfl 0 rfl : aJ _ (cW bits aHN) _)) (by exact (H.aO 0 rfl 7 rfl : aJ _ (aZ) _)) bS hjn.2) ?_
   rintro _ KG ⟨aKe, aKC, rfl, aFk, hO, hB, hR⟩
   replace H := H.dH 0 rfl hO hB hR
   refine WL.as rfl rfl (WL.nil (WE.ret ⟨[_], _, .nil _, ⟨rfl, trivial⟩, ?_⟩))
   refine ⟨aKe, _, rfl, ?_, H.cR, H.o 0 rfl, H.fV (H.bK 0 rfl)⟩
   rw [aFk, hjn.1]; exact hg2
theorem V2 : ∀ (n d : Nat), 256 - d = n → aBy d
 | 0, d, hn => fun hX h0 h1 h2 h3 h4 h5 h6 h7 => MK hX h0 h1 h2 h3 h4 h5 h6 h7 (fun h => by omega)
 | n + 1, d, hn => fun hX h0 h1 h2 h3 h4 h5 h6 h7 => MK hX h0 h1 h2 h3 h4 h5 h6 h7 (fun _ => V2 n (d + 1) (by omega))
abbrev LtK (l : List (List UInt8)) : Prop := l.Pairwise fun a b => num a < num b
theorem F5 : ∀ l : List (List UInt8), qG l = 0 → LtK l
 | [], _ => .nil
 | [a], _ => List.pairwise_singleton _ _
 | a :: b :: r, h => by
  have h0 : (if iI a b = 0 then (9 : Int) else if 0 < iI a b then 8 else qG (b :: r)) = 0 := h
  by_cases h1 : iI a b = 0
  ·
   rw [if_pos h1] at h0; cases h0
  ·
   rw [if_neg h1] at h0
   by_cases h2 : 0 < iI a b
   ·
    rw [if_pos h2] at h0; cases h0
   ·
    rw [if_neg h2] at h0
    have ih := F5 (b :: r) h0
    have hab : num a < num b := mG.1 (by omega)
    refine List.pairwise_cons.2 ⟨fun z hz => ?_, ih⟩
    rcases List.mem_cons.1 hz with rfl | hz
    ·
     exact hab
    ·
     exact Nat.lt_trans hab ((List.pairwise_cons.1 ih).1 z hz)
theorem T9 {a b : List UInt8} : 0 < iI a b ↔ num b < num a := by
 unfold iI
 by_cases h : num a < num b
 ·
  simp [h]; omega
 ·
  by_cases h2 : num b < num a
  ·
   simp [h, h2]
  ·
   simp [h, h2]
theorem DC : ∀ (l : List (List UInt8)), LtK l → qG l = 0
 | [], _ => rfl
 | [a], _ => rfl
 | a :: b :: r, h => by
  have h1 := List.pairwise_cons.1 h
  have h2 := h1.1 b (by simp)
  have e1 : ¬ iI a b = 0 := fun e => by have := uT.1 e; omega
  have e2 : ¬ 0 < iI a b := fun e => by have := T9.1 e; omega
  show (if iI a b = 0 then 9 else if 0 < iI a b then 8 else qG (b :: r)) = 0
  rw [if_neg e1, if_neg e2]
  exact DC (b :: r) h1.2
theorem r9.aB5 {l : List Ch} (h : qG (l.map Ch.k) = 0) : r9 l := (List.pairwise_map (f := Ch.k) (R := fun a b => num a < num b)).1 (F5 _ h)
theorem r9.chk {l : List Ch} (h : r9 l) : qG (l.map Ch.k) = 0 := DC _ ((List.pairwise_map (f := Ch.k) (R := fun a b => num a < num b)).2 h)
theorem BX {X : Nat → Prop} {w : World} {bh bc : Nat} {bits c0 : Int} {T : Tr} {m : List En} {l : List Ch} {s : Value} (hX : cY X w) (eY : aN w bc 213 ([.int .i64 c0])) (bU : aJ (fun c_ => X c_ ∨ c_ = bc) (fQ bh bc bits) w) (dI : aJ (fun c_ => X c_ ∨ c_ = bc) (cW bits T) w) (fU : aJ (fun c_ => X c_ ∨ c_ = bc) (gJ s l) w) (jY : aJ (fun c_ => X c_ ∨ c_ = bc) (gI l) w) (o9 : aJ (fun c_ => X c_ ∨ c_ = bc) (aZ) w) (bS : 0 ≤ bits ∧ bits ≤ 256) (hT : T.er = grow 0 m) (hs : j7 m) (tN : KL m) (hx : XL l) (hsh : nL l) (pT : qG (l.map Ch.k) = 0) (hsz : m.length + l.length ≤ 900000) :
  bC prog 55 [.pointer (some ⟨bh, 0, none⟩), T.ptr, s].toArray w fun v w' => ∃ (T' : Tr) (k : Int), v = .tuple [T'.ptr, .int .i64 0].toArray ∧ T'.er = grow 0 (lU m l) ∧ Out (· = bc) w w' ∧ aN w' bc 213 [.int .i64 k] ∧ aJ (fun c => X c ∨ c = bc) (cW bits T') w' := by
 refine bC.aH (N := 18) func55 rfl rfl (by simp) ?_
 have H := (((((St.dG (b := bc) (t := 213) (l := [.int .i64 c0]) hX eY).add (cC o9)).add (cC jY)).add (cC fU)).add (cC dI)).add (cC bU)
 have hlt := r9.aB5 pT
 refine WE.aA (WL.as rfl rfl (WL.as rfl rfl (WL.nil (WE.seq (WE.aA (WL.mv rfl rfl ?_))))))
 refine WL.call aJu rfl (ZK (s := s) (l := l) H.aR (by exact (H.bK 2 rfl : aJ _ (gJ s l) _)) hx (by omega) (gJ.one (s := s) (by exact (H.p 3 rfl : (gI l) _)))) ?_
 rintro _ w1 ⟨rfl, hO⟩
 replace H := H.out hO
 refine WL.as rfl rfl (WL.nil (WE.aA (WL.mv rfl rfl (WL.pv (PV.neq rfl rfl rfl) rfl (WL.nil ?_)))))
 refine WE.bD rfl (by simp [pT]) ?_
 refine WE.skip (WE.aA (WL.mv rfl rfl (WL.mv rfl rfl (WL.mv rfl rfl ?_))))
 refine WL.call aCH rfl (V2 256 0 rfl (T := T) (m := m) (l := l) (s := s) (bits := bits) H.aR (H.o 0 rfl) (by exact (H.aO 0 rfl 0 rfl : aJ _ (fQ bh bc bits) _)) (by exact (H.aO 0 rfl 1 rfl : aJ _ (cW bits T) _)) (by exact (H.aO 0 rfl 2 rfl : aJ _ (gJ s l) _)) (by exact (H.aO 0 rfl 3 rfl : aJ _ (gI l) _)) (by exact (H.aO 0 rfl 4 rfl : aJ _ (aZ) _)) bS ⟨hT, hs, tN, pN.zero tN hx, hx, hlt, hsh, hsz, Nat.zero_le _⟩) ?_
 rintro _ w2 ⟨aKm, aKO, rfl, aFw, hO, hB, hR⟩
 replace H := H.dH 0 rfl hO hB hR
 refine WL.as rfl rfl (WL.as rfl rfl (WL.nil (WE.ret ⟨[_, _], _, .nil _, ⟨rfl, rfl, trivial⟩, ?_⟩)))
 exact ⟨aKm, _, rfl, aFw, H.cR, H.o 0 rfl, H.fV (H.bK 0 rfl)⟩
def zX (e : En) : Ch := ⟨e.k, e.s, e.v, false⟩
def BS (l : List En) (i : Nat) : List Ch := (l.map zX).take i ++ List.replicate (l.length - i) PS
theorem aH6 {l : List En} (h : KL l) (i : Nat) : XL (BS l i) := fun c hc => by
 rcases List.mem_append.1 hc with hc | hc
 ·
  obtain ⟨e, he, rfl⟩ := List.mem_map.1 (List.mem_of_mem_take hc)
  exact h e he
 ·
  rw [(List.mem_replicate.1 hc).2]; rfl
theorem aDA (l : List En) {i : Nat} (hi : i ≤ l.length) : (BS l i).length = l.length := by simp [BS]; omega
theorem aDz {l : List En} {i : Nat} (hi : i < l.length) : (BS l i).set i (zX l[i]) = BS l (i + 1) := by
 have h := aA2 (l := l.map zX) (z := PS) (i := i) (m := l.length - (i + 1)) (by rw [List.length_map]; exact hi)
 rw [List.getElem_map] at h
 unfold BS
 rw [show l.length - i = l.length - (i + 1) + 1 by omega]
 exact h
theorem aDB (l : List En) : BS l l.length = l.map zX := by
 unfold BS
 rw [List.take_of_length_le (by simp), Nat.sub_self]; simp
theorem aAk (l : List En) : (BS l 0).flatMap eC = jM l.length (eC PS) := by
 rw [KA]; rfl
theorem UE (l : List En) : (l.map zX).map Ch.k = l.map En.k := by rw [List.map_map]; rfl
theorem MD (l : List En) : ∀ m : List En, lU m (l.map zX) = l.foldl fS m := by
 induction l with
 | nil => intro m; rfl
 | cons e l ih => intro m; exact ih (fS m e)
theorem UC {l : List En} (h : KL l) : XL (l.map zX) := fun c hc => by obtain ⟨e, he, rfl⟩ := List.mem_map.1 hc; exact h e he
theorem aC0 {l : List En} (h : kZ l) : nL (l.map zX) := fun c hc => by obtain ⟨e, he, rfl⟩ := List.mem_map.1 hc; exact h e he
theorem UD {l : List En} {w : World} (h : eL l w) : gI (l.map zX) w := fun c hc => by obtain ⟨e, he, rfl⟩ := List.mem_map.1 hc; exact h e he
theorem PC {X : Nat → Prop} {w : World} {bh bc : Nat} {bits c0 : Int} {l : List En} {s : Value} (hX : cY X w) (eY : aN w bc 213 ([.int .i64 c0])) (bU : aJ (fun c_ => X c_ ∨ c_ = bc) (fQ bh bc bits) w) (dI : aJ (fun c_ => X c_ ∨ c_ = bc) (fP s l) w) (fU : aJ (fun c_ => X c_ ∨ c_ = bc) (eL l) w) (jY : aJ (fun c_ => X c_ ∨ c_ = bc) (aZ) w) (bS : 0 ≤ bits ∧ bits ≤ 256) (nM : KL l) (hsv : kZ l) (pT : qG (l.map En.k) = 0) (hlen : l.length ≤ 900000) :
  bC prog 24 [.pointer (some ⟨bh, 0, none⟩), s].toArray w fun v w' => ∃ (T' : Tr) (k : Int), v = .tuple [T'.ptr, .int .i64 0].toArray ∧ T'.er = grow 0 (ofM l) ∧ Out (· = bc) w w' ∧ aN w' bc 213 [.int .i64 k] ∧ aJ (fun c => X c ∨ c = bc) (cW bits T') w' := by
 refine bC.aH (N := 33) func24 rfl rfl (by simp) ?_
 have H := ((((St.dG (b := bc) (t := 213) (l := [.int .i64 c0]) hX eY).add (cC jY)).add (cC fU)).add (cC dI)).add (cC bU)
 have gK := pS.of (fU.here)
 refine WE.aA (WL.as rfl rfl (WL.as rfl rfl (WL.nil (WE.aA (WL.mv rfl rfl ?_)))))
 refine WL.pv (PV.dR (by exact (H.p 1 rfl : (fP s l) _)) nR rfl) rfl ?_
 refine WL.makeSlice (n := l.length) H rfl sF rfl (by omega) (by omega) rfl ?_
 intro DU w2 H
 replace H := H.conv (L' := [aP.blk DU 127 ((BS l 0).flatMap eC)]) (by rw [aAk]; rfl)
 refine WL.as rfl rfl (WL.nil (WE.seq (WE.aA (WL.mv rfl rfl ?_))))
 refine WL.pv (PV.dR (by exact (H.p 1 rfl : (fP s l) _)) nR rfl) rfl ?_
 refine WL.mv rfl rfl (WL.nil (WE.block ?_))
 refine WE.loop (α := Nat) (rg [(7, 2), (14, 14)]) (fun i => [(14, .int .i64 (i : Int))]) (fun i wl => i ≤ l.length ∧ St X w wl [aP.blk bc 213 [.int .i64 c0]] [aP.blk DU 127 ((BS l i).flatMap eC)] [fQ bh bc bits, fP s l, eL l, aZ]) (fun i => l.length - i) 0 ⟨rfl, trivial⟩ ⟨Nat.zero_le _, H⟩ ?_
 intro i γ0 w4 hI
 try dsimp only at hI
 obtain ⟨hi, H⟩ := hI
 refine WE.aA (WL.pv (PV.lss rfl rfl rfl) rfl (WL.nil (WE.seq ?_)))
 refine WE.cond rfl (fun uP => ?_) (fun uP => ?_)
 ·
  try simp only [bW] at uP
  have hlt : i < l.length := by omega
  have hki := nM _ (List.getElem_mem hlt)
  have hE2 : (nN l[i]).length = 33 := jV hki
  have I8 : (eC (zX l[i])).length = 34 := iV hki
  have hbs := aDz hlt
  refine WE.skip (WE.seq (WE.block (WE.aA (WL.mv rfl rfl ?_))))
  refine WL.pv (PV.eA rfl (by exact (H.p 1 rfl : (fP s l) _)) nR fH rfl rfl (by omega) (by omega)) rfl ?_
  refine WL.bE rfl oM rfl rfl (fP.rd (by exact (H.p 1 rfl : (fP s l) _)) nM i hlt) (by (rw [fH]; refine congrArg some ?_; (simp [aI, aQ, *]; done))) ?_
  refine WL.alloc H rfl kL rfl ?_
  intro b8 w5 H
  refine WL.as rfl rfl ?_
  refine WL.aW H 0 rfl rfl rfl (new := nN l[i]) rfl (by (rw [fH]; refine congrArg some ?_; (simp [aI, aQ, *]; done))) (qL (gK _ (List.getElem_mem hlt))) (Laid.at (Laid.all (by simp only [aS]; omega)) rfl) rfl ?_
  intro w6 H
  refine WL.nil (WE.dY (WL.mv rfl rfl (WL.mv rfl rfl (WL.pv (PV.fieldAddr rfl gW rfl) rfl ?_))))
  refine WL.bE rfl cZ rfl rfl (aN.aF (H.l 0 rfl) (aK.l (aK.all _)) rfl) (cK cL (by simp only [aS]; omega)) ?_
  refine WL.pv (PV.fieldAddr rfl mY rfl) rfl ?_
  refine WL.aY rfl eU rfl rfl (aN.aF (H.l 0 rfl) (aK.r (aK.all _) rfl) (by simp [aI, aQ, *])) ?_
  refine WL.pv (PV.dM rfl RG wQ (Fl.cons rfl rfl (by simp only [aS]; omega) (Laid.left (Laid.all (by simp only [aS]; omega))) (Fl.cons rfl (cells_one (gK _ (List.getElem_mem hlt))) (by simp only [aS]) (Laid.right (Laid.left (Laid.all (by simp only [aS]))) (by simp only [aS]; omega)) Fl.nil))) rfl ?_
  refine WL.pv (PV.eq (v' := .pointer (some ⟨DU, i * 34, none⟩)) (PV.sY rfl dZ eH rfl rfl (by omega) (by omega)) (by simp)) rfl ?_
  refine WL.aW H 1 rfl rfl rfl (new := eC (zX l[i])) rfl (by (rw [eH]; refine congrArg some ?_; (simp [aI, aQ, *]; done))) (k3 (gK _ (List.getElem_mem hlt))) (by have h_ := oE (C := eC) (BS l i) (aH6 nM i).len [] (i := i) (x := zX l[i]) (by rw [aDA _ (by omega)]; exact hlt) I8 rfl; rw [List.append_nil, List.append_nil] at h_; exact h_) rfl ?_
  intro w7 H
  refine WL.nil (WE.dY (WL.pv (PV.eq (v' := .int .i64 ((i + 1 : Nat) : Int)) (PV.bT rfl rfl rfl (by omega) (by omega)) rfl) rfl (WL.mv rfl rfl (WL.nil ?_))))
  replace H := H.forget 0
  exact ⟨i + 1, (by repeat (first | with_reducible exact bM.refl _ _ | refine bM.dD rfl ?_ | refine bM.bY rfl ?_ | refine bM.bV rfl ?_)), ⟨rfl, trivial⟩, rfl, ⟨by omega, H.conv (by rw [← hbs]; rfl)⟩, (by omega)⟩
 ·
  try simp only [bW] at uP
  have tO : i = l.length := by omega
  refine WE.exit (WE.aA ?_)
  subst tO
  rw [aDB] at H
  replace H := H.freeze (i := 0) rfl
  replace H := H.add (show aJ _ (gJ (.slice (some ⟨DU, 0, none⟩) l.length l.length) (l.map zX)) _ from (H.bK 0 rfl).imp fun _ h => (by have h_ := cN.bZ (n := l.length) (sz := 34) h (by rw [dB _ (UC nM).len, List.length_map]); unfold gJ; rw [List.length_map]; exact h_))
  replace H := H.add (show aJ _ (gI (l.map zX)) _ from (by exact (H.bK 4 rfl : aJ _ (eL l) _).imp fun _ h => UD h))
  refine WL.mv rfl rfl (WL.mv rfl rfl ?_)
  have aLc := pT
  refine WL.call aFZ rfl (BX (T := .nil) (m := []) (l := l.map zX) (s := .slice (some ⟨DU, 0, none⟩) l.length l.length) (bits := bits) H.aR (H.o 0 rfl) (by exact (H.aO 0 rfl 3 rfl : aJ _ (fQ bh bc bits) _)) (fun _ _ => trivial) (by exact (H.aO 0 rfl 1 rfl : aJ _ (gJ (.slice (some ⟨DU, 0, none⟩) l.length l.length) (l.map zX)) _)) (by exact (H.aO 0 rfl 0 rfl : aJ _ (gI (l.map zX)) _)) (by exact (H.aO 0 rfl 6 rfl : aJ _ (aZ) _)) bS (eF 0).symm List.Pairwise.nil (fun _ h => by cases h) (UC nM) (aC0 hsv) (by rw [UE]; exact pT) (by simp; omega)) ?_
  rintro _ w8 ⟨DF, aIy, rfl, FJ, hO, hB, hR⟩
  replace H := H.dH 0 rfl hO hB hR
  refine WL.pv (PV.extract rfl rfl rfl) rfl (WL.pv (PV.extract rfl rfl rfl) rfl (WL.as rfl rfl (WL.as rfl rfl (WL.nil (WE.ret ⟨[_, _], _, .nil _, ⟨rfl, rfl, trivial⟩, ?_⟩)))))
  exact ⟨DF, _, rfl, by rw [FJ, MD]; rfl, H.cR, H.o 0 rfl, H.fV (H.bK 0 rfl)⟩
section
variable {r : Option Nat} {N : Nat} {σ : Env} {ds : List Deferred} {w : World} {ops : Array Oper} {rest : List Oper} {K : Env → List Deferred → World → Prop}
end
theorem UJ (B : List UInt8) (i : Nat) (x : UInt8) (j : Nat) (hi : i / 8 < B.length) : bI (B.set (i / 8) x) j = if j / 8 = i / 8 then x.toNat / 2 ^ (7 - j % 8) % 2 else bI B j := by
 unfold bI
 by_cases h : j / 8 = i / 8
 ·
  rw [if_pos h, h, List.getD_eq_getElem?_getD, List.getElem?_set_self hi]; rfl
 ·
  rw [if_neg h, List.getD_eq_getElem?_getD, List.getElem?_set_ne (fun e => h e.symm), ← List.getD_eq_getElem?_getD]
theorem U0 : ∀ r s : Fin 8, ∀ x : Fin 256, x.val / 2 ^ (7 - r.val) % 2 = 0 → x.val + 2 ^ (7 - r.val) < 256 ∧ (x.val + 2 ^ (7 - r.val)) / 2 ^ (7 - s.val) % 2 = if s = r then 1 else x.val / 2 ^ (7 - s.val) % 2 := by decide +kernel
theorem QJ : ∀ r s : Fin 8, ∀ x : Fin 256, x.val / 2 ^ (7 - r.val) % 2 = 1 → 2 ^ (7 - r.val) ≤ x.val ∧ (x.val - 2 ^ (7 - r.val)) / 2 ^ (7 - s.val) % 2 = if s = r then 0 else x.val / 2 ^ (7 - s.val) % 2 := by decide +kernel
theorem kG (B : List UInt8) (i : Nat) : (jK B i).length = B.length := by unfold jK; rw [List.length_set]
theorem BO {B : List UInt8} (hB : B.length = 32) {i : Nat} (hi : i < 256) (j : Nat) : bI (jK B i) j = if j = i then 1 - bI B i else bI B j := by
 unfold jK
 rw [UJ _ _ _ _ (by omega)]
 have hx := UInt8.toNat_lt (B.getD (i / 8) 0)
 by_cases hj : j / 8 = i / 8
 ·
  rw [if_pos hj]
  have hjx : bI B j = (B.getD (i / 8) 0).toNat / 2 ^ (7 - j % 8) % 2 := by unfold bI; rw [hj]
  have hix : bI B i = (B.getD (i / 8) 0).toNat / 2 ^ (7 - i % 8) % 2 := rfl
  by_cases h0 : bI B i = 0
  ·
   rw [if_pos h0]
   have h1 := U0 ⟨i % 8, by omega⟩ ⟨j % 8, by omega⟩ ⟨(B.getD (i / 8) 0).toNat, hx⟩ (by rw [← h0]; rfl)
   dsimp only at h1
   rw [UInt8.toNat_ofNat', Nat.mod_eq_of_lt h1.1, h1.2]
   by_cases hji : j = i
   ·
    subst hji; rw [if_pos rfl, if_pos rfl, h0]
   ·
    rw [if_neg hji, if_neg (fun h => hji (by have h2 := congrArg Fin.val h; dsimp only at h2; omega)), hjx]
  ·
   have h01 : bI B i = 1 := by have := dX B i; omega
   rw [if_neg h0]
   have h1 := QJ ⟨i % 8, by omega⟩ ⟨j % 8, by omega⟩ ⟨(B.getD (i / 8) 0).toNat, hx⟩ (by rw [← h01]; rfl)
   dsimp only at h1
   rw [UInt8.toNat_ofNat', Nat.mod_eq_of_lt (Nat.lt_of_le_of_lt (Nat.sub_le _ _) hx), h1.2]
   by_cases hji : j = i
   ·
    subst hji; rw [if_pos rfl, if_pos rfl, h01]
   ·
    rw [if_neg hji, if_neg (fun h => hji (by have h2 := congrArg Fin.val h; dsimp only at h2; omega)), hjx]
 ·
  rw [if_neg hj, if_neg (fun h => hj (by rw [h]))]
def pG (B : List UInt8) (i : Nat) : List UInt8 := if bI B i = 1 then B else jK B i
def qA (B : List UInt8) (i : Nat) : List UInt8 := if bI B i = 1 then jK B i else B
theorem bL (B : List UInt8) (i : Nat) : (pG B i).length = B.length := by unfold pG; split; rfl; exact kG B i
theorem CH (B : List UInt8) (i : Nat) : (qA B i).length = B.length := by unfold qA; split; exact kG B i; rfl
theorem OM {B : List UInt8} (hB : B.length = 32) {i : Nat} (hi : i < 256) (j : Nat) : bI (pG B i) j = if j = i then 1 else bI B j := by
 unfold pG
 split
 ·
  rename_i h; split
  ·
   rename_i e; rw [e, h]
  ·
   rfl
 ·
  rename_i h
  have := dX B i
  rw [BO hB hi, show bI B i = 0 by omega]
theorem uY {B : List UInt8} (hB : B.length = 32) {i : Nat} (hi : i < 256) (j : Nat) : bI (qA B i) j = if j = i then 0 else bI B j := by
 unfold qA
 split
 ·
  rename_i h
  rw [BO hB hi, h]
 ·
  rename_i h
  have := dX B i
  split
  ·
   rename_i e; rw [e]; omega
  ·
   rfl
def bitsOf (B : List UInt8) (n : Nat) : List Nat := (List.range n).filter fun i => decide (bI B i = 1)
theorem vG (B : List UInt8) (n : Nat) : bitsOf B (n + 1) = if bI B n = 1 then bitsOf B n ++ [n] else bitsOf B n := by
 unfold bitsOf
 rw [List.range_succ, List.filter_append]
 split
 ·
  rename_i h; simp [h]
 ·
  rename_i h; simp [h]
theorem r4 (B : List UInt8) (n : Nat) : (bitsOf B n).length ≤ n := by
 have := List.length_filter_le (fun i => decide (bI B i = 1)) (List.range n)
 rw [List.length_range] at this
 exact this
theorem vW (B : List UInt8) (n : Nat) : (bitsOf B n).Pairwise (· < ·) := List.Pairwise.filter _ List.pairwise_lt_range
def rL : List UInt8 := List.replicate 32 0
theorem uX (i : Nat) : bI rL i = 0 := by
 unfold bI rL
 have : (List.replicate 32 (0 : UInt8)).getD (i / 8) 0 = 0 := by
  rw [List.getD_eq_getElem?_getD, List.getElem?_replicate]; split <;> rfl
 rw [this]; simp
def pop8 (x : Nat) : Nat := ((List.range 8).filter fun j => decide (x / 2 ^ (7 - j) % 2 = 1)).length
theorem KX (x : Nat) : pop8 x ≤ 8 := by
 have := List.length_filter_le (fun j => decide (x / 2 ^ (7 - j) % 2 = 1)) (List.range 8)
 rw [List.length_range] at this
 exact this
theorem GF (B : List UInt8) (i : Nat) : (bitsOf B (8 * (i + 1))).length = (bitsOf B (8 * i)).length + pop8 (B.getD i 0).toNat := by
 unfold bitsOf pop8
 rw [show 8 * (i + 1) = 8 * i + 8 by omega, List.range_add, List.filter_append, List.length_append, List.filter_map, List.length_map]
 congr 2
 refine List.filter_congr fun j hj => ?_
 have hj' := List.mem_range.1 hj
 show decide (bI B (8 * i + j) = 1) = _
 unfold bI
 rw [show (8 * i + j) / 8 = i by omega, show (8 * i + j) % 8 = j by omega]
def pX (T : Tr) (k : List UInt8) (j : Nat) : Tr := (T.iX k 0 j).beside k j
def AV (T : Tr) (k : List UInt8) (j : Nat) : Bool := decide ((pX T k j).er.kind ≠ 0)
def RM (T : Tr) (k : List UInt8) (n : Nat) : List Nat := (List.range n).filter (AV T k)
def o5 (T : Tr) (k : List UInt8) : Nat → List UInt8
 | 0 => rL
 | j + 1 => if AV T k j then pG (o5 T k j) j else o5 T k j
def iY (bits : Int) (T : Tr) (k : List UInt8) (n : Nat) : List (List UInt8) := (RM T k n).map fun j => (pX T k j).er.nO bits
theorem EV (T : Tr) (k : List UInt8) (n : Nat) : RM T k (n + 1) = if AV T k n then RM T k n ++ [n] else RM T k n := by
 unfold RM
 rw [List.range_succ, List.filter_append]
 split
 ·
  rename_i h; simp [h]
 ·
  rename_i h; simp [h]
theorem AM (bits : Int) (T : Tr) (k : List UInt8) (n : Nat) : iY bits T k (n + 1) = if AV T k n then iY bits T k n ++ [(pX T k n).er.nO bits] else iY bits T k n := by
 unfold iY
 rw [EV]
 split <;> simp
theorem Q8 (bits : Int) (T : Tr) (k : List UInt8) (n : Nat) : (iY bits T k n).length ≤ n := by
 unfold iY RM
 rw [List.length_map]
 have := List.length_filter_le (AV T k) (List.range n)
 rw [List.length_range] at this
 exact this
theorem bR (T : Tr) (k : List UInt8) : ∀ n, (o5 T k n).length = 32
 | 0 => rfl
 | n + 1 => by
  show (if AV T k n then pG (o5 T k n) n else o5 T k n).length = 32
  split
  ·
   rw [bL, bR T k n]
  ·
   exact bR T k n
theorem CA (T : Tr) (k : List UInt8) : ∀ n, n ≤ 256 → ∀ i, bI (o5 T k n) i = if i < n ∧ AV T k i = true then 1 else 0
 | 0, _, i => by rw [if_neg (by omega)]; exact uX i
 | n + 1, hn, i => by
  have ih := CA T k n (by omega) i
  show bI (if AV T k n then pG (o5 T k n) n else o5 T k n) i = _
  split
  ·
   rename_i h
   rw [OM (bR T k n) (by omega), ih]
   by_cases hi : i = n
   ·
    subst hi; rw [if_pos rfl, if_pos ⟨by omega, h⟩]
   ·
    rw [if_neg hi]
    by_cases h2 : i < n ∧ AV T k i = true
    ·
     rw [if_pos h2, if_pos ⟨by omega, h2.2⟩]
    ·
     rw [if_neg h2, if_neg (fun h3 => h2 ⟨by omega, h3.2⟩)]
  ·
   rename_i h
   rw [ih]
   by_cases h2 : i < n ∧ AV T k i = true
   ·
    rw [if_pos h2, if_pos ⟨by omega, h2.2⟩]
   ·
    rw [if_neg h2, if_neg (fun h3 => h2 ⟨by
     rcases Nat.lt_or_ge i n with h4 | h4
     ·
      exact h4
     ·
      have h5 : i = n := by omega
      rw [h5] at h3; exact absurd h3.2 h, h3.2⟩)]
theorem xM {T : Tr} {k : List UInt8} {n : Nat} (hn : n ≤ 256) : bitsOf (o5 T k n) 256 = RM T k n := by
 unfold bitsOf RM
 rw [show 256 = n + (256 - n) by omega, List.range_add, List.filter_append, List.filter_map]
 have e1 : (List.range n).filter (fun i => decide (bI (o5 T k n) i = 1)) = (List.range n).filter (AV T k) := List.filter_congr fun i hi => by
  have hi' := List.mem_range.1 hi
  rw [CA T k n hn]
  cases h : AV T k i
  ·
   rw [if_neg (by simp)]; rfl
  ·
   rw [if_pos ⟨hi', rfl⟩]; rfl
 have e2 : (List.range (256 - n)).filter ((fun i => decide (bI (o5 T k n) i = 1)) ∘ fun x => n + x) = [] := by
  rw [List.filter_eq_nil_iff]
  intro i _
  show ¬ decide (bI (o5 T k n) (n + i) = 1) = true
  rw [CA T k n hn, if_neg (by omega)]
  decide
 rw [e1, e2]; simp
theorem XR {T : Tr} {m : List En} {k : List UInt8} (hT : T.er = grow 0 m) (hp : Pm 0 m) {n : Nat} (hn : T.dp k 0 = n + 1) : AV T k n = true := by
 have h1 := GH (k := k) hT hp n (by omega)
 have h2 := grow_step k h1.1 h1.2 (Tr.r7 n 0 T (by omega))
 have h3 := UO (k := k) hT hp (i := n) (by omega)
 have h4 := JQ (k := k) hT hp
 rw [hn] at h4
 have h5 := nV (GI k 0 m n) (n + 0)
 have hb := dX k n
 have zG : bI k (n + 0) = bI k n := rfl
 have e1 : GI k 0 m (n + 1) = bO (GI k 0 m n) (n + 0) (bI k (n + 0)) := rfl
 rw [e1] at h4
 have h6 : 1 ≤ (bO (GI k 0 m n) (n + 0) (1 - bI k (n + 0))).length := by
  rcases Nat.lt_or_ge (bI k n) 1 with h | h
  ·
   have h0 : bI k (n + 0) = 0 := by omega
   rw [h0] at h4 ⊢
   show 1 ≤ (bO (GI k 0 m n) (n + 0) 1).length
   have := h3.1
   omega
  ·
   have h0 : bI k (n + 0) = 1 := by omega
   rw [h0] at h4 ⊢
   show 1 ≤ (bO (GI k 0 m n) (n + 0) 0).length
   have := h3.1
   omega
 unfold AV
 rw [decide_eq_true_iff]
 intro h7
 have h8 : (pX T k n).er = grow (n + 0 + 1) (bO (GI k 0 m n) (n + 0) (1 - bI k (n + 0))) := h2.2.2.2
 have h9 : (pX T k n).er.gH = (bO (GI k 0 m n) (n + 0) (1 - bI k (n + 0))).length := by rw [h8]; exact mD (h1.2.part h2.1 _)
 have h10 : (pX T k n).er.gH = 0 := by
  revert h7
  cases (pX T k n).er with
  | nil => intro _; rfl
  | leaf => intro h; cases h
  | inner => intro h; cases h
 omega
theorem RL {T : Tr} {m : List En} {k : List UInt8} (hT : T.er = grow 0 m) (hp : Pm 0 m) : (RM T k (T.dp k 0)).getLast? = if T.dp k 0 = 0 then none else some (T.dp k 0 - 1) := by
 cases hn : T.dp k 0 with
 | zero => rfl
 | succ n =>
  rw [EV, if_pos (XR hT hp hn), if_neg (by omega)]
  simp
structure jC (kind dp : Nat) (lk lv B : List UInt8) (sb : List (List UInt8)) : Prop where
 kd : kind = 0 ∨ kind = 1
 N8 : dp ≤ 256
 uJ : lk.length = 32
 lvl : lv.length = 32
 lz : kind = 0 → lk = rL ∧ lv = rL
 bl : B.length = 32
 last : (bitsOf B 256).getLast? = if dp = 0 then none else some (dp - 1)
 gH : sb.length = (bitsOf B 256).length
 sl : ∀ s ∈ sb, s.length = 32
def mX (out : List (List UInt8)) : List Nat → List (List UInt8) → List (List UInt8)
 | d :: ds, s :: sb => mX (out.set d s) ds sb
 | _, _ => out
theorem uR : ∀ (ds : List Nat) (sb out : List (List UInt8)), (mX out ds sb).length = out.length
 | [], sb, out => by cases sb <;> rfl
 | d :: ds, [], out => rfl
 | d :: ds, s :: sb, out => by
  show (mX (out.set d s) ds sb).length = _
  rw [uR ds sb, List.length_set]
theorem BB (f : Nat → List UInt8) (e : List UInt8) (n : Nat) : ∀ (ds : List Nat) (g : Nat → List UInt8), ds.Pairwise (· < ·) → (∀ d ∈ ds, d < n) → mX ((List.range n).map g) ds (ds.map f) = (List.range n).map fun d => if d ∈ ds then f d else g d
 | [], g, _, _ => by simp [mX]
 | d :: ds, g, hp, hn => by
  have h1 := List.pairwise_cons.1 hp
  have e1 : ((List.range n).map g).set d (f d) = (List.range n).map fun x => if x = d then f d else g x := by
   refine List.ext_getElem (by simp) fun i h2 h3 => ?_
   rw [List.getElem_set]
   simp only [List.getElem_map, List.getElem_range]
   by_cases h : d = i
   ·
    rw [if_pos h, if_pos h.symm]
   ·
    rw [if_neg h, if_neg (fun h' => h h'.symm)]
  show mX (((List.range n).map g).set d (f d)) ds (ds.map f) = _
  rw [e1, BB f e n ds _ h1.2 fun x hx => hn x (List.mem_cons_of_mem _ hx)]
  refine List.map_congr_left fun x _ => ?_
  by_cases hx : x ∈ ds
  ·
   rw [if_pos hx, if_pos (List.mem_cons_of_mem _ hx)]
  ·
   rw [if_neg hx]
   by_cases hxd : x = d
   ·
    subst hxd; rw [if_pos rfl, if_pos (by simp)]
   ·
    rw [if_neg hxd, if_neg (by simp [hxd, hx])]
def sD (bits : Int) (k : List UInt8) (d : Nat) (s below : List UInt8) : List UInt8 := if bI k d = 0 then vD bits below s else vD bits s below
def upD (bits : Int) (k : List UInt8) (B2 : List (List UInt8)) : Nat → List UInt8 → List UInt8
 | 0, b => b
 | d + 1, b => upD bits k B2 d (sD bits k d (B2.getD d []) b)
theorem D6 {bits : Int} {T : Tr} {k : List UInt8} {B2 : List (List UInt8)} : ∀ n, n ≤ T.dp k 0 → (∀ d, d < n → B2.getD d [] = (pX T k d).er.nO bits) → upD bits k B2 n ((T.iX k 0 n).er.nO bits) = T.er.nO bits
 | 0, _, _ => rfl
 | n + 1, hn, hs => by
  have ih := D6 (bits := bits) (T := T) (k := k) (B2 := B2) n (by omega) fun d hd => hs d (by omega)
  show upD bits k B2 n (sD bits k n (B2.getD n []) ((T.iX k 0 (n + 1)).er.nO bits)) = _
  rw [← ih, hs n (by omega)]
  congr 1
  obtain ⟨a, l, r, e⟩ := Tr.A3 (Tr.r7 (k := k) n 0 T (by omega))
  have e1 : T.iX k 0 (n + 1) = (T.iX k 0 n).step k (n + 0) := rfl
  have hb := dX k n
  unfold sD pX
  rw [e1, e]
  unfold Tr.step Tr.beside Tr.child
  by_cases h : bI k n = 0
  ·
   rw [if_pos h, if_pos (show bI k (n + 0) = 0 from h), if_neg (by omega)]; rfl
  ·
   rw [if_neg h, if_neg (show ¬ bI k (n + 0) = 0 from h), if_pos (by omega)]; rfl
theorem TS {bits : Int} {T : Tr} {k : List UInt8} {n : Nat} : mX (List.replicate n (lL bits)) (RM T k n) (iY bits T k n) = (List.range n).map fun d => (pX T k d).er.nO bits := by
 have e0 : List.replicate n (lL bits) = (List.range n).map fun _ => lL bits := by
  refine List.ext_getElem (by simp) fun i h1 h2 => ?_
  simp
 rw [e0]
 unfold iY
 rw [BB _ (lL bits) n (RM T k n) _ (List.Pairwise.filter _ List.pairwise_lt_range) fun d hd => List.mem_range.1 (List.mem_filter.1 hd).1]
 refine List.map_congr_left fun d hd => ?_
 split
 ·
  rfl
 ·
  rename_i h
  have h1 : ¬ AV T k d = true := fun h2 => h (List.mem_filter.2 ⟨hd, h2⟩)
  unfold AV at h1
  rw [decide_eq_true_iff, ne_eq, Decidable.not_not] at h1
  revert h1
  cases (pX T k d).er with
  | nil => intro _; rfl
  | leaf => intro h; cases h
  | inner => intro h; cases h
theorem CZ {m : List En} {k : List UInt8} {e : En} (h : getM m k = some e) : e ∈ m ∧ e.k = k := ⟨List.mem_of_find?_eq_some h, by have := List.find?_some h; simpa using this⟩
def gS (m : List En) (k : List UInt8) : Value := match getM m k with | some e => e.s | none => .slice none 0 0
def gV (m : List En) (k : List UInt8) : List UInt8 := match getM m k with | some e => e.v | none => []
theorem TE {m : List En} {w : World} (h : eL m w) (k : List UInt8) : bJ (gS m k) (gV m k) w := by
 unfold gS gV
 cases hg : getM m k with
 | none => exact bJ.nil w
 | some e => exact h e (CZ hg).1
theorem aCG {m : List En} (h : kZ m) (k : List UInt8) : (gV m k).length ≤ 1000000 := by
 unfold gV
 cases hg : getM m k with
 | none => exact Nat.zero_le _
 | some e => exact h e (CZ hg).1
theorem YU (m : List En) (k : List UInt8) : TB m k = .tuple [gS m k, .bool (kI m k)].toArray := by
 unfold TB gS kI
 cases getM m k <;> rfl
structure Up where
 sk : Value
 k : List UInt8
 sv : Value
 v : List UInt8
 d : Bool
structure rI where
 n : Int
 sk : Value
 k : List UInt8
 sv : Value
 v : List UInt8
 sb : Value
 b : List Up
instance : Inhabited Up := ⟨⟨.slice none 0 0, [], .slice none 0 0, [], false⟩⟩
instance : Inhabited rI := ⟨⟨0, .slice none 0 0, [], .slice none 0 0, [], .slice none 0 0, []⟩⟩
def QC (u : Up) : List Value := [u.sk] ++ ([u.sv] ++ [.bool u.d])
def AR (o : rI) : List Value := [.int .i64 o.n] ++ ([o.sk] ++ ([o.sv] ++ [o.sb]))
theorem WO (u : Up) : (QC u).length = 3 := rfl
theorem XM (o : rI) : (AR o).length = 4 := rfl
def j8 (v : Value) (l : List Up) (w : World) : Prop := cN w v 3 l.length (l.flatMap QC)
def DI (v : Value) (l : List rI) (w : World) : Prop := cN w v 4 l.length (l.flatMap AR)
def dU (l : List Up) (w : World) : Prop := ∀ u ∈ l, bJ u.sk u.k w ∧ bJ u.sv u.v w
def OV (o : rI) (w : World) : Prop := bJ o.sk o.k w ∧ bJ o.sv o.v w ∧ j8 o.sb o.b w ∧ dU o.b w
def mK (l : List rI) (w : World) : Prop := ∀ o ∈ l, OV o w
theorem j8.rd {v : Value} {l : List Up} {w : World} (h : j8 v l w) (i : Nat) (hi : i < l.length) : dA w (jN v (i * 3)) (QC l[i]) := by
 have := cN.rd h i hi
 rwa [tD l (fun u _ => WO u) i hi] at this
theorem DI.rd {v : Value} {l : List rI} {w : World} (h : DI v l w) (i : Nat) (hi : i < l.length) : dA w (jN v (i * 4)) (AR l[i]) := by
 have := cN.rd h i hi
 rwa [tD l (fun u _ => XM u) i hi] at this
def DJ (l : List Up) : Prop := l.length ≤ 20 ∧ ∀ u ∈ l, u.k.length ≤ 100 ∧ u.v.length ≤ 70000
def O6 (l : List rI) : Prop := l.length ≤ 12 ∧ ∀ o ∈ l, o.k.length ≤ 100 ∧ o.v.length ≤ 70000 ∧ DJ o.b
def cD (k v : List UInt8) : Int := if k.length ≠ 32 then 2 else if 65535 < v.length then 3 else 0
theorem dL {k v : List UInt8} : cD k v = 0 ↔ k.length = 32 ∧ v.length ≤ 65535 := by
 unfold cD
 by_cases h : k.length = 32
 ·
  rw [if_neg (by omega)]
  by_cases h2 : 65535 < v.length
  ·
   rw [if_pos h2]; constructor
   ·
    intro h3; cases h3
   ·
    intro h3; omega
  ·
   rw [if_neg h2]; exact ⟨fun _ => ⟨h, by omega⟩, fun _ => rfl⟩
 ·
  rw [if_pos h]; constructor
  ·
   intro h3; cases h3
  ·
   intro h3; exact absurd h3.1 h
def Up.uv (u : Up) : List UInt8 := if u.d then [] else u.v
def mI (l : List Up) (u : Up) : Int := if cD u.k u.uv ≠ 0 then cD u.k u.uv else if ∃ x ∈ l, x.k = u.k then 9 else 0
def yN (i : Nat) (before : List Up) : List Up → Nat × Int
 | [] => (0, 0)
 | u :: l => if mI before u ≠ 0 then (i, mI before u) else yN (i + 1) (before ++ [u]) l
def j6 (l : List Up) : Nat × Int := yN 0 [] l
theorem BM (l : List Up) : ∀ (n i : Nat), i + n = l.length → yN i (l.take i) (l.drop i) = if h : i < l.length then (if mI (l.take i) l[i] ≠ 0 then (i, mI (l.take i) l[i]) else yN (i + 1) (l.take (i + 1)) (l.drop (i + 1))) else (0, 0) := by
 intro n i hi
 by_cases h : i < l.length
 ·
  rw [dif_pos h, List.drop_eq_getElem_cons h, List.take_succ_eq_append_getElem h]; rfl
 ·
  rw [dif_neg h, List.drop_eq_nil_of_le (by omega)]; rfl
def oO (l : List Up) : Prop := (∀ u ∈ l, cD u.k u.uv = 0) ∧ l.Pairwise fun a b => a.k ≠ b.k
theorem uZ {l : List Up} {u : Up} : mI l u = 0 ↔ cD u.k u.uv = 0 ∧ ∀ x ∈ l, x.k ≠ u.k := by
 unfold mI
 by_cases h : cD u.k u.uv = 0
 ·
  rw [if_neg (by simp [h])]
  by_cases h2 : ∃ x ∈ l, x.k = u.k
  ·
   rw [if_pos h2]
   constructor
   ·
    intro h3; cases h3
   ·
    intro h3; obtain ⟨x, hx, hk⟩ := h2; exact absurd hk (h3.2 x hx)
  ·
   rw [if_neg h2]
   exact ⟨fun _ => ⟨h, fun x hx hk => h2 ⟨x, hx, hk⟩⟩, fun _ => rfl⟩
 ·
  rw [if_pos h]
  exact ⟨fun h2 => absurd h2 h, fun h2 => absurd h2.1 h⟩
theorem oO.snoc {l : List Up} {u : Up} (h : oO l) (hu : mI l u = 0) : oO (l ++ [u]) := by
 have h2 := uZ.1 hu
 refine ⟨fun x hx => ?_, List.pairwise_append.2 ⟨h.2, List.pairwise_singleton _ _, fun a ha b hb => ?_⟩⟩
 ·
  rcases List.mem_append.1 hx with hx | hx
  ·
   exact h.1 x hx
  ·
   rw [List.mem_singleton.1 hx]; exact h2.1
 ·
  rw [List.mem_singleton.1 hb]; exact h2.2 a ha
theorem BN : ∀ (l b : List Up) (i : Nat), oO b → (yN i b l).2 = 0 → oO (b ++ l)
 | [], b, _, hb, _ => by rwa [List.append_nil]
 | u :: l, b, i, hb, h => by
  unfold yN at h
  by_cases hu : mI b u = 0
  ·
   rw [if_neg (by simp [hu])] at h
   have := BN l (b ++ [u]) (i + 1) (hb.snoc hu) h
   rwa [List.append_assoc] at this
  ·
   rw [if_pos hu] at h; exact absurd h hu
theorem uU {l : List Up} (h : (j6 l).2 = 0) : oO l := BN l [] 0 ⟨(fun _ h => by cases h), List.Pairwise.nil⟩ h
def Up.ch (u : Up) : Ch := ⟨u.k, if u.d then .slice none 0 0 else u.sv, u.uv, u.d⟩
def UT (m : List En) (u : Up) : List En := if u.d then fG m u.k else fS m ⟨u.k, u.sv, u.v⟩
def tX (m : List En) (l : List Up) : List En := l.foldl UT m
theorem aC4 (m : List En) (u : Up) : UT m u = yW m u.ch := by
 unfold UT yW Up.ch Up.uv Ch.en
 cases u.d <;> rfl
theorem aBF (l : List Up) : ∀ m : List En, tX m l = lU m (l.map Up.ch) := by
 induction l with
 | nil => intro m; rfl
 | cons u l ih => intro m; show tX (UT m u) l = lU (yW m u.ch) (l.map Up.ch); rw [aC4, ih]
theorem QB {l : List Up} {m : List En} {i : Nat} (h : i < l.length) : tX m (l.take (i + 1)) = UT (tX m (l.take i)) l[i] := by
 unfold tX
 rw [List.take_succ_eq_append_getElem h, List.foldl_append]; rfl
def O9 (l : List Ch) : Prop := l.Pairwise fun a b => a.k ≠ b.k
theorem CE : ∀ (l : List Ch) (m : List En) (e : En), O9 l → (e ∈ lU m l ↔ (∃ c ∈ l, c.d = false ∧ e = c.en) ∨ (e ∈ m ∧ ∀ c ∈ l, e.k ≠ c.k))
 | [], m, e, _ => by simp [lU]
 | c :: l, m, e, hl => by
  have h1 := List.pairwise_cons.1 hl
  have ih := CE l (yW m c) e h1.2
  show e ∈ lU (yW m c) l ↔ _
  rw [ih, K4]
  constructor
  ·
   rintro (⟨x, hx, h2, h3⟩ | ⟨⟨h2, h3⟩ | ⟨h2, h3⟩, h4⟩)
   ·
    exact .inl ⟨x, List.mem_cons_of_mem _ hx, h2, h3⟩
   ·
    exact .inl ⟨c, by simp, h2, h3⟩
   ·
    refine .inr ⟨h2, fun x hx => ?_⟩
    rcases List.mem_cons.1 hx with rfl | hx
    ·
     exact h3
    ·
     exact h4 x hx
  ·
   rintro (⟨x, hx, h2, h3⟩ | ⟨h2, h3⟩)
   ·
    rcases List.mem_cons.1 hx with rfl | hx
    ·
     refine .inr ⟨.inl ⟨h2, h3⟩, fun y hy => ?_⟩
     rw [h3]
     exact h1.1 y hy
    ·
     exact .inl ⟨x, hx, h2, h3⟩
   ·
    exact .inr ⟨.inr ⟨h2, h3 c (by simp)⟩, fun x hx => h3 x (List.mem_cons_of_mem _ hx)⟩
theorem UU {l l' : List Ch} {m : List En} (hp : l.Perm l') (hd : O9 l) (hs : j7 m) (hk : KL m) (hx : XL l) : lU m l = lU m l' := by
 have YM : O9 l' := hd.perm hp fun h e => h e.symm
 have hx' : XL l' := fun c hc => hx c (hp.mem_iff.2 hc)
 refine j7.ext (kY l m hs hk hx).1 (kY l' m hs hk hx').1 fun e => ?_
 rw [CE l m e hd, CE l' m e YM]
 simp only [hp.mem_iff]
theorem oO.ch {l : List Up} (h : oO l) : XL (l.map Up.ch) ∧ O9 (l.map Up.ch) ∧ nL (l.map Up.ch) := by
 refine ⟨fun c hc => ?_, (List.pairwise_map (f := Up.ch) (R := fun a b => a.k ≠ b.k)).2 h.2, fun c hc => ?_⟩
 ·
  obtain ⟨u, hu, rfl⟩ := List.mem_map.1 hc
  exact (dL.1 (h.1 u hu)).1
 ·
  obtain ⟨u, hu, rfl⟩ := List.mem_map.1 hc
  have := (dL.1 (h.1 u hu)).2
  show u.uv.length ≤ 1000000
  omega
def pQ (m : List En) (o : rI) : List En :=
 if o.n = 0 then (if cD o.k o.v = 0 then fS m ⟨o.k, o.sv, o.v⟩ else m)
 else if o.n = 1 then m
 else if o.n = 2 then (if cD o.k [] = 0 then fG m o.k else m)
 else if (j6 o.b).2 = 0 then tX m o.b else m
def runM (l : List rI) : List En := l.foldl pQ []
theorem AH {l : List rI} {i : Nat} (h : i < l.length) : runM (l.take (i + 1)) = pQ (runM (l.take i)) l[i] := by
 unfold runM
 rw [List.take_succ_eq_append_getElem h, List.foldl_append]; rfl
structure fC (n : Nat) (m : List En) : Prop where
 s : j7 m
 k : KL m
 l : m.length ≤ n
 v : ∀ e ∈ m, e.v.length ≤ 65535
theorem fC.short {n : Nat} {m : List En} (h : fC n m) : kZ m := fun e he => Nat.le_trans (h.v e he) (by decide)
theorem fC.nil (n : Nat) : fC n [] := ⟨List.Pairwise.nil, (fun _ h => by cases h), Nat.zero_le _, fun _ h => by cases h⟩
theorem fC.more {n n' : Nat} {m : List En} (h : fC n m) (hn : n ≤ n') : fC n' m := ⟨h.s, h.k, Nat.le_trans h.l hn, h.v⟩
theorem fC.put {n : Nat} {m : List En} {e : En} (h : fC n m) (hk : e.k.length = 32) (hv : e.v.length ≤ 65535) : fC (n + 1) (fS m e) := by
 refine ⟨sN h.s h.k hk, wC h.k hk, Nat.le_trans (xJ m e) (Nat.succ_le_succ h.l), fun x hx => ?_⟩
 rcases mB.1 hx with rfl | hx
 ·
  exact hv
 ·
  exact h.v x hx.1
theorem fC.rm {n : Nat} {m : List En} {k : List UInt8} (h : fC n m) : fC n (fG m k) := by
 refine ⟨h.s.filter _, fun e he => h.k e (jG.1 he).1, Nat.le_trans (wB m k) h.l, fun x hx => h.v x (jG.1 hx).1⟩
theorem fC.dD : ∀ (l : List Up) {n : Nat} {m : List En}, fC n m → (∀ u ∈ l, cD u.k u.uv = 0) → fC (n + l.length) (tX m l)
 | [], _, _, h, _ => h
 | u :: l, n, m, h, hg => by
  have h1 := dL.1 (hg u (by simp))
  have h2 : fC (n + 1) (UT m u) := by
   unfold UT
   split
   ·
    exact h.rm.more (by omega)
   ·
    rename_i hd
    refine h.put h1.1 ?_
    have h3 := h1.2
    unfold Up.uv at h3
    rw [if_neg hd] at h3
    exact h3
  have h3 := fC.dD l h2 fun x hx => hg x (List.mem_cons_of_mem _ hx)
  exact h3.more (by rw [List.length_cons]; omega)
theorem fC.do {n : Nat} {m : List En} {o : rI} (h : fC n m) (hf : DJ o.b) : fC (n + 20) (pQ m o) := by
 unfold pQ
 split
 ·
  split
  ·
   rename_i h1
   have h2 := dL.1 h1
   exact (h.put (e := ⟨o.k, o.sv, o.v⟩) h2.1 h2.2).more (by omega)
  ·
   exact h.more (by omega)
 ·
  split
  ·
   exact h.more (by omega)
  ·
   split
   ·
    split
    ·
     exact h.rm.more (by omega)
    ·
     exact h.more (by omega)
   ·
    split
    ·
     rename_i h1
     have := hf.1
     exact (fC.dD o.b h (uU h1).1).more (by omega)
    ·
     exact h.more (by omega)
theorem fC.run {l : List rI} (hf : O6 l) : ∀ i, i ≤ l.length → fC (20 * i) (runM (l.take i))
 | 0, _ => fC.nil _
 | i + 1, h => by
  rw [AH (by omega)]
  have h1 := (fC.run hf i (by omega)).do (hf.2 l[i] (List.getElem_mem (by omega))).2.2
  exact h1.more (by omega)
theorem X5 (l : List UInt8) (i : Nat) (h : i < l.length) : (kc l)[i]? = some (.int .u8 ((l.getD i 0).toNat : Int)) := by
 unfold kc
 rw [List.getElem?_map, List.getElem?_eq_getElem h, e9 h]; rfl
theorem RE : ∀ x : Fin 256, (⟨#[0, 1, 1, 2, 1, 2, 2, 3, 1, 2, 2, 3, 2, 3, 3, 4, 1, 2, 2, 3, 2, 3, 3, 4, 2, 3, 3, 4, 3, 4, 4, 5, 1, 2, 2, 3, 2, 3, 3, 4, 2, 3, 3, 4, 3, 4, 4, 5, 2, 3, 3, 4, 3, 4, 4, 5, 3, 4, 4, 5, 4, 5, 5, 6, 1, 2, 2, 3, 2, 3, 3, 4, 2, 3, 3, 4, 3, 4, 4, 5, 2, 3, 3, 4, 3, 4, 4, 5, 3, 4, 4, 5, 4, 5, 5, 6, 2, 3, 3, 4, 3, 4, 4, 5, 3, 4, 4, 5, 4, 5, 5, 6, 3, 4, 4, 5, 4, 5, 5, 6, 4, 5, 5, 6, 5, 6, 6, 7, 1, 2, 2, 3, 2, 3, 3, 4, 2, 3, 3, 4, 3, 4, 4, 5, 2, 3, 3, 4, 3, 4, 4, 5, 3, 4, 4, 5, 4, 5, 5, 6, 2, 3, 3, 4, 3, 4, 4, 5, 3, 4, 4, 5, 4, 5, 5, 6, 3, 4, 4, 5, 4, 5, 5, 6, 4, 5, 5, 6, 5, 6, 6, 7, 2, 3, 3, 4, 3, 4, 4, 5, 3, 4, 4, 5, 4, 5, 5, 6, 3, 4, 4, 5, 4, 5, 5, 6, 4, 5, 5, 6, 5, 6, 6, 7, 3, 4, 4, 5, 4, 5, 5, 6, 4, 5, 5, 6, 5, 6, 6, 7, 4, 5, 5, 6, 5, 6, 6, 7, 5, 6, 6, 7, 6, 7, 7, 8]⟩ : ByteArray)[x.val]? = some (UInt8.ofNat (pop8 x.val)) := by decide +kernel
theorem RF (x : UInt8) : (⟨#[0, 1, 1, 2, 1, 2, 2, 3, 1, 2, 2, 3, 2, 3, 3, 4, 1, 2, 2, 3, 2, 3, 3, 4, 2, 3, 3, 4, 3, 4, 4, 5, 1, 2, 2, 3, 2, 3, 3, 4, 2, 3, 3, 4, 3, 4, 4, 5, 2, 3, 3, 4, 3, 4, 4, 5, 3, 4, 4, 5, 4, 5, 5, 6, 1, 2, 2, 3, 2, 3, 3, 4, 2, 3, 3, 4, 3, 4, 4, 5, 2, 3, 3, 4, 3, 4, 4, 5, 3, 4, 4, 5, 4, 5, 5, 6, 2, 3, 3, 4, 3, 4, 4, 5, 3, 4, 4, 5, 4, 5, 5, 6, 3, 4, 4, 5, 4, 5, 5, 6, 4, 5, 5, 6, 5, 6, 6, 7, 1, 2, 2, 3, 2, 3, 3, 4, 2, 3, 3, 4, 3, 4, 4, 5, 2, 3, 3, 4, 3, 4, 4, 5, 3, 4, 4, 5, 4, 5, 5, 6, 2, 3, 3, 4, 3, 4, 4, 5, 3, 4, 4, 5, 4, 5, 5, 6, 3, 4, 4, 5, 4, 5, 5, 6, 4, 5, 5, 6, 5, 6, 6, 7, 2, 3, 3, 4, 3, 4, 4, 5, 3, 4, 4, 5, 4, 5, 5, 6, 3, 4, 4, 5, 4, 5, 5, 6, 4, 5, 5, 6, 5, 6, 6, 7, 3, 4, 4, 5, 4, 5, 5, 6, 4, 5, 5, 6, 5, 6, 6, 7, 4, 5, 5, 6, 5, 6, 6, 7, 5, 6, 6, 7, 6, 7, 7, 8]⟩ : ByteArray)[x.toNat]? = some (UInt8.ofNat (pop8 x.toNat)) := RE ⟨x.toNat, x.toNat_lt⟩
theorem PU : ∀ r : Fin 8, ∀ x : Fin 256, x.val ^^^ 2 ^ (7 - r.val) = if x.val / 2 ^ (7 - r.val) % 2 = 0 then x.val + 2 ^ (7 - r.val) else x.val - 2 ^ (7 - r.val) := by decide +kernel
theorem RD : ∀ r : Fin 8, 2 ^ (7 - r.val) < 256 := by decide +kernel
def TF (B : List UInt8) (i : Nat) : UInt8 := if bI B i = 0 then UInt8.ofNat ((B.getD (i / 8) 0).toNat + 2 ^ (7 - i % 8)) else UInt8.ofNat ((B.getD (i / 8) 0).toNat - 2 ^ (7 - i % 8))
theorem PT (B : List UInt8) (i : Nat) : IntKind.u8.wrap ((BitVec.ofInt IntKind.u8.bits ((B.getD (i / 8) 0).toNat : Int) ^^^ BitVec.ofInt IntKind.u8.bits ((2 ^ (7 - i % 8) : Nat) : Int)).toNat : Int) = ((TF B i).toNat : Int) := by
 have hx := (B.getD (i / 8) 0).toNat_lt
 have hp := RD ⟨i % 8, by omega⟩
 have h1 := PU ⟨i % 8, by omega⟩ ⟨(B.getD (i / 8) 0).toNat, hx⟩
 dsimp only at h1 hp
 have e2 : UInt8.ofNat (2 ^ (7 - i % 8)) = UInt8.ofNat (2 ^ (7 - i % 8)) := rfl
 have h2 : ((2 ^ (7 - i % 8) : Nat) : Int) = ((UInt8.ofNat (2 ^ (7 - i % 8))).toNat : Int) := by rw [UInt8.toNat_ofNat_of_lt' hp]
 rw [h2, aDS, UInt8.toNat_xor, UInt8.toNat_ofNat_of_lt' hp, h1]
 have hb : bI B i = (B.getD (i / 8) 0).toNat / 2 ^ (7 - i % 8) % 2 := rfl
 have hlt := Nat.xor_lt_two_pow (n := 8) hx hp
 rw [h1] at hlt
 unfold TF
 rw [hb]
 split
 ·
  rename_i h; rw [if_pos h] at hlt; rw [UInt8.toNat_ofNat_of_lt' hlt]
 ·
  rename_i h; rw [if_neg h] at hlt; rw [UInt8.toNat_ofNat_of_lt' hlt]
theorem RC {r : Nat} (h : r < 8) : IntKind.u8.wrap (1 * 2 ^ (min ((7 - r : Nat) : Int).toNat IntKind.u8.bits)) = ((2 ^ (7 - r) : Nat) : Int) := by
 have : ∀ r : Fin 8, IntKind.u8.wrap (1 * 2 ^ (min ((7 - r.val : Nat) : Int).toNat IntKind.u8.bits)) = ((2 ^ (7 - r.val) : Nat) : Int) := by decide +kernel
 exact this ⟨r, h⟩
def n4 (l : List Nat) : Int := match l.getLast? with | none => -1 | some d => (d : Int)
theorem IL (l : List Nat) (d : Nat) : n4 (l ++ [d]) = (d : Int) := by unfold n4; simp
theorem JN {R : List UInt8} (hR : R.length = 32) {c : Nat} (hc : c < 256) (h1 : bI R c = 1) (h0 : ∀ j, j < c → bI R j = 0) : bitsOf R 256 = c :: bitsOf (qA R c) 256 := by
 unfold bitsOf
 have e : List.range 256 = List.range c ++ (c :: (List.range (255 - c)).map fun x => c + (x + 1)) := by
  have h2 : 256 = c + (1 + (255 - c)) := by omega
  rw [h2, List.range_add, List.range_add, List.map_append, List.map_map]
  have h3 : c + (1 + (255 - c)) = 256 := by omega
  simp [Function.comp_def, Nat.add_comm]
 rw [e, List.filter_append, List.filter_append]
 have f1 : (List.range c).filter (fun i => decide (bI R i = 1)) = [] := List.filter_eq_nil_iff.2 fun i hi => by
  rw [h0 i (List.mem_range.1 hi)]; decide
 have f2 : (List.range c).filter (fun i => decide (bI (qA R c) i = 1)) = [] := List.filter_eq_nil_iff.2 fun i hi => by
  have hi' := List.mem_range.1 hi
  rw [uY hR hc, if_neg (by omega), h0 i hi']; decide
 rw [f1, f2, List.filter_cons_of_pos (by simp [h1]), List.filter_cons_of_neg (by rw [uY hR hc, if_pos rfl]; decide)]
 rw [List.nil_append, List.nil_append]
 congr 1
 refine List.filter_congr fun i hi => ?_
 obtain ⟨x, _, rfl⟩ := List.mem_map.1 hi
 rw [uY hR hc, if_neg (by omega)]
theorem T5 {R : List UInt8} (hR : R.length = 32) (hne : R ≠ List.replicate 32 0) : fN R (List.replicate 32 0) < 256 ∧ bI R (fN R (List.replicate 32 0)) = 1 ∧ ∀ j, j < fN R (List.replicate 32 0) → bI R j = 0 := by
 have hz : (List.replicate 32 (0 : UInt8)).length = 32 := List.length_replicate
 have h1 := LY R (List.replicate 32 0)
 obtain ⟨_, aJb, aI9⟩ := qT R (List.replicate 32 0)
 have h2 : fN R (List.replicate 32 0) ≠ 256 := fun h => hne ((oF hR hz).1 (by omega))
 have z : ∀ j, bI (List.replicate 32 (0 : UInt8)) j = 0 := uX
 have h3 : fN R (List.replicate 32 0) < 256 := by omega
 refine ⟨h3, ?_, fun j hj => ?_⟩
 ·
  have := aI9 h3
  rw [z] at this
  have := dX R (fN R (List.replicate 32 0))
  omega
 ·
  have := aJb j hj
  rw [z] at this
  exact this
theorem GD : bitsOf (List.replicate 32 (0 : UInt8)) 256 = [] := List.filter_eq_nil_iff.2 fun i _ => by
 have : bI (List.replicate 32 (0 : UInt8)) i = 0 := uX i
 rw [this]; decide
def xS (n : Nat) : Value := .int .i64 (n : Int)
theorem J9 {X : Nat → Prop} {w : World} {B : List UInt8} {d : Nat} (hX : cY X w) (hB : B.length = 32) (hd : d < 256) :
  bC prog 75 [.agg (kc B).toArray, .int .i64 (d : Int)].toArray w fun v w' => v = .bool (decide (bI B d = 1)) ∧ Out Nil w w' := by
 refine bC.aH (N := 9) func75 rfl rfl (by simp) ?_
 have H := St.begin hX
 refine WE.aA ?_
 refine WL.box (l := kc B) H rfl rfl rfl ?_
 intro b2 w1 H
 refine WL.as rfl rfl (WL.nil (WE.aA ?_))
 refine WL.bE rfl mP rfl rfl (aN.aF (H.l 0 rfl) (aK.all _) rfl) (cK j0 (by simp only [aS, aX, aB]; omega)) ?_
 refine WL.mv rfl rfl ?_
 refine WL.call FR rfl (jZ (k := B) (d := d) H.aR  (by assumption) (by assumption)) ?_
 rintro _ w2 ⟨rfl, hO⟩
 replace H := H.out hO
 refine WL.pv (PV.eql rfl rfl rfl) rfl (WL.as rfl rfl (WL.nil (WE.ret ⟨[_], _, .nil _, ⟨rfl, trivial⟩, ?_⟩)))
 refine ⟨?_, H.aL⟩
 show Value.bool _ = Value.bool _
 congr 1
 rw [decide_eq_decide]
 omega
theorem L9 {X : Nat → Prop} {w : World} {B : List UInt8} {d : Nat} (hX : cY X w) (hB : B.length = 32) (hd : d < 256) :
  bC prog 76 [.agg (kc B).toArray, .int .i64 (d : Int)].toArray w fun v w' => v = .agg (kc (jK B d)).toArray ∧ Out Nil w w' := by
 refine bC.aH (N := 22) func76 rfl rfl (by simp) ?_
 have H := St.begin hX
 have hx := (B.getD (d / 8) 0).toNat_lt
 have FC := kG B d
 refine WE.aA ?_
 refine WL.box (l := kc B) H rfl rfl rfl ?_
 intro b2 w1 H
 refine WL.alloc H rfl qY rfl ?_
 intro b4 w2 H
 refine WL.nil (WE.seq (WE.aA (WL.mv rfl rfl (WL.pv (PV.geq rfl rfl rfl) rfl (WL.mv rfl rfl (WL.known (t := 7) (c := true) rfl rfl (WL.mv rfl rfl ?_)))))))
 refine WL.pv (PV.lss rfl rfl rfl) rfl (WL.pv (PV.dP rfl rfl rfl) rfl (WL.nil ?_))
 refine WE.cS rfl (by (simp; omega)) ?_
 refine WE.draw (.take 0 (.take 1 (.take 2 (.take 3 (.take 4 (.take 5 (.take 6 (.take 7 (.take 8 (.take 9 (.aG 10 .done))))))))))) mixed (by kernel_rfl) ?_
 replace H := H.out (Out.drew _)
 refine WP.mv rfl rfl rfl ?_
 refine WP.aC rfl rfl (PV.eq (v' := .int .i64 ((d / 8 : Nat) : Int)) (PV.p6 rfl rfl rfl (by omega) (by omega) (by omega)) rfl) ?_
 refine WP.aC rfl rfl (PV.bF rfl gZ gO rfl rfl (by omega) (by omega)) (WP.aM rfl rfl (RV.aV rfl u3 rfl) (aN.JL (H.l 1 rfl) (d / 8) (by omega) (by omega)) (WP.mv rfl rfl rfl ?_))
 refine WP.aC rfl rfl (PV.eq (v' := .int .i64 ((d % 8 : Nat) : Int)) (PV.p5 rfl rfl rfl (by omega) (by omega)) rfl) ?_
 refine WP.aC rfl rfl (PV.eq (v' := .int .i64 ((7 - d % 8 : Nat) : Int)) (PV.gC rfl rfl rfl (by omega) (by omega)) (by (congr 1; omega))) ?_
 refine WP.aC rfl rfl (PV.eq (v' := .int .u8 ((2 ^ (7 - d % 8) : Nat) : Int)) (PV.W8 rfl rfl rfl (by omega)) (congrArg (Value.int .u8) (RC (Nat.mod_lt d (by decide))))) ?_
 refine WP.aC rfl rfl (PV.eq (v' := .int .u8 ((TF B d).toNat : Int)) (PV.aBA rfl rfl rfl) (congrArg (Value.int .u8) (PT B d))) ?_
 refine WP.aC rfl rfl (PV.bF rfl gZ gO rfl rfl (by omega) (by omega)) (WP.aG rfl ?_)
 refine WL.aW H 1 rfl rfl rfl (new := _) rfl (by exact gO) (bA _ rfl) (Laid.at (Laid.tI (d / 8) (by omega)) (by omega)) rfl ?_
 intro w3 H
 replace H := H.conv (L' := [aP.blk b4 24 (kc (List.replicate 32 0)), aP.blk b2 24 (kc (jK B d))]) rfl
 refine WL.nil ⟨(fa (nw 10 3) c5), ?_⟩
 refine WP.done (WE.aA ?_)
 refine WL.bE rfl cZ rfl rfl (aN.aF (H.l 1 rfl) (aK.all _) rfl) (cK cL (by simp only [aS, aX, aB]; omega)) ?_
 refine WL.aW H 0 rfl rfl rfl (new := kc (jK B d)) rfl (cK cL (by simp only [aS, aX, aB]; omega)) (bG _) (Laid.at (Laid.all (by simp only [aS, aX, aB]; omega)) rfl) rfl ?_
 intro w4 H
 refine WL.nil (WE.ret ⟨[_], _, .nil _, ⟨⟨_, rfl, aU cZ (aN.aF (H.l 0 rfl) (aK.all _) rfl) (cK cL (by simp only [aS, aX, aB]; omega))⟩, trivial⟩, ?_⟩)
 exact ⟨rfl, H.aL⟩
theorem aAj {X : Nat → Prop} {w : World} {B : List UInt8} {d : Nat} (hX : cY X w) (hB : B.length = 32) (hd : d < 256) :
  bC prog 34 [.agg (kc B).toArray, .int .i64 (d : Int)].toArray w fun v w' => v = .agg (kc (pG B d)).toArray ∧ Out Nil w w' := by
 refine bC.aH (N := 12) func34 rfl rfl (by simp) ?_
 have H := St.begin hX
 have FC := kG B d
 refine WE.aA ?_
 refine WL.box (l := kc B) H rfl rfl rfl ?_
 intro b2 w1 H
 refine WL.alloc H rfl MM rfl ?_
 intro b4 w2 H
 refine WL.nil (WE.seq (WE.aA ?_))
 refine WL.bE rfl mP rfl rfl (aN.aF (H.l 1 rfl) (aK.all _) rfl) (cK j0 (by simp only [aS, aX, aB]; omega)) ?_
 refine WL.mv rfl rfl ?_
 refine WL.call aCK rfl (J9 (B := B) (d := d) H.aR  (by assumption) (by assumption)) ?_
 rintro _ w3 ⟨rfl, hO⟩
 replace H := H.out hO
 refine WL.nil ?_
 refine WE.cond rfl (fun vU => ?_) (fun vU => ?_)
 ·
  try simp only [bW] at vU
  have h1 : bI B d = 1 := by exact vU
  have hw : pG B d = B := if_pos h1
  refine WE.aA ?_
  refine WL.bE rfl mP rfl rfl (aN.aF (H.l 1 rfl) (aK.all _) rfl) (cK j0 (by simp only [aS, aX, aB]; omega)) ?_
  refine WL.aW H 0 rfl rfl rfl (new := kc B) rfl (cK j0 (by simp only [aS, aX, aB]; omega)) (bG _) (Laid.at (Laid.all (by simp only [aS, aX, aB]; omega)) rfl) rfl ?_
  intro w4 H
  refine WL.nil (WE.ret ⟨[_], _, .nil _, ⟨⟨_, rfl, aU mP (aN.aF (H.l 0 rfl) (aK.all _) rfl) (cK j0 (by simp only [aS, aX, aB]; omega))⟩, trivial⟩, ?_⟩)
  exact ⟨by rw [hw]; rfl, H.aL⟩
 ·
  try simp only [bW] at vU
  have h1 : ¬ bI B d = 1 := by exact vU
  have hw : pG B d = jK B d := if_neg h1
  refine WE.skip (WE.aA ?_)
  refine WL.bE rfl mP rfl rfl (aN.aF (H.l 1 rfl) (aK.all _) rfl) (cK j0 (by simp only [aS, aX, aB]; omega)) ?_
  refine WL.mv rfl rfl ?_
  refine WL.call aFU rfl (L9 (B := B) (d := d) H.aR  (by assumption) (by assumption)) ?_
  rintro _ w5 ⟨rfl, hO⟩
  replace H := H.out hO
  refine WL.aW H 0 rfl rfl rfl (new := kc (jK B d)) rfl (cK j0 (by simp only [aS, aX, aB]; omega)) (bG _) (Laid.at (Laid.all (by simp only [aS, aX, aB]; omega)) rfl) rfl ?_
  intro w6 H
  refine WL.nil (WE.ret ⟨[_], _, .nil _, ⟨⟨_, rfl, aU mP (aN.aF (H.l 0 rfl) (aK.all _) rfl) (cK j0 (by simp only [aS, aX, aB]; omega))⟩, trivial⟩, ?_⟩)
  exact ⟨by rw [hw]; rfl, H.aL⟩
theorem aAm {X : Nat → Prop} {w : World} {B : List UInt8} {d : Nat} (hX : cY X w) (hB : B.length = 32) (hd : d < 256) :
  bC prog 163 [.agg (kc B).toArray, .int .i64 (d : Int)].toArray w fun v w' => v = .agg (kc (qA B d)).toArray ∧ Out Nil w w' := by
 refine bC.aH (N := 13) func163 rfl rfl (by simp) ?_
 have H := St.begin hX
 have FC := kG B d
 refine WE.aA ?_
 refine WL.box (l := kc B) H rfl rfl rfl ?_
 intro b2 w1 H
 refine WL.alloc H rfl MM rfl ?_
 intro b4 w2 H
 refine WL.nil (WE.seq (WE.aA ?_))
 refine WL.bE rfl mP rfl rfl (aN.aF (H.l 1 rfl) (aK.all _) rfl) (cK j0 (by simp only [aS, aX, aB]; omega)) ?_
 refine WL.mv rfl rfl ?_
 refine WL.call aCK rfl (J9 (B := B) (d := d) H.aR  (by assumption) (by assumption)) ?_
 rintro _ w3 ⟨rfl, hO⟩
 replace H := H.out hO
 refine WL.pv (PV.not rfl rfl) rfl (WL.nil ?_)
 refine WE.cond rfl (fun lT => ?_) (fun lT => ?_)
 ·
  try simp only [bW] at lT
  have h1 : ¬ bI B d = 1 := by exact lT
  have hw : qA B d = B := if_neg h1
  refine WE.aA ?_
  refine WL.bE rfl mP rfl rfl (aN.aF (H.l 1 rfl) (aK.all _) rfl) (cK j0 (by simp only [aS, aX, aB]; omega)) ?_
  refine WL.aW H 0 rfl rfl rfl (new := kc B) rfl (cK j0 (by simp only [aS, aX, aB]; omega)) (bG _) (Laid.at (Laid.all (by simp only [aS, aX, aB]; omega)) rfl) rfl ?_
  intro w4 H
  refine WL.nil (WE.ret ⟨[_], _, .nil _, ⟨⟨_, rfl, aU mP (aN.aF (H.l 0 rfl) (aK.all _) rfl) (cK j0 (by simp only [aS, aX, aB]; omega))⟩, trivial⟩, ?_⟩)
  exact ⟨by rw [hw]; rfl, H.aL⟩
 ·
  try simp only [bW] at lT
  have h1 : bI B d = 1 := by exact lT
  have hw : qA B d = jK B d := if_pos h1
  refine WE.skip (WE.aA ?_)
  refine WL.bE rfl mP rfl rfl (aN.aF (H.l 1 rfl) (aK.all _) rfl) (cK j0 (by simp only [aS, aX, aB]; omega)) ?_
  refine WL.mv rfl rfl ?_
  refine WL.call aFU rfl (L9 (B := B) (d := d) H.aR  (by assumption) (by assumption)) ?_
  rintro _ w5 ⟨rfl, hO⟩
  replace H := H.out hO
  refine WL.aW H 0 rfl rfl rfl (new := kc (jK B d)) rfl (cK j0 (by simp only [aS, aX, aB]; omega)) (bG _) (Laid.at (Laid.all (by simp only [aS, aX, aB]; omega)) rfl) rfl ?_
  intro w6 H
  refine WL.nil (WE.ret ⟨[_], _, .nil _, ⟨⟨_, rfl, aU mP (aN.aF (H.l 0 rfl) (aK.all _) rfl) (cK j0 (by simp only [aS, aX, aB]; omega))⟩, trivial⟩, ?_⟩)
  exact ⟨by rw [hw]; rfl, H.aL⟩
theorem Z5 {X : Nat → Prop} {w : World} {x : UInt8} (hX : cY X w) :
  bC prog 165 [.int .u8 (x.toNat : Int)].toArray w fun v w' => v = .int .i64 (pop8 x.toNat : Int) ∧ Out Nil w w' := by
 refine bC.aH (N := 6) func165 rfl rfl (by simp) ?_
 have H := St.begin hX
 have hle := KX x.toNat
 refine WE.aA (WL.as rfl rfl (WL.nil (WE.aA (WL.mv rfl rfl (WL.pv (PV.E3 (i := x.toNat) rfl (by kernel_rfl) rfl rfl (RF x)) rfl ?_)))))
 refine WL.pv (PV.eq (v' := .int .i64 ((pop8 x.toNat : Nat) : Int)) (PV.lM rfl mC sZ rfl (by omega) (by have := (UInt8.ofNat (pop8 x.toNat)).toNat_lt; omega)) (by congr 1; rw [UInt8.toNat_ofNat_of_lt' (by show _ < 256; omega)])) rfl ?_
 refine WL.as rfl rfl (WL.nil (WE.ret ⟨[_], _, .nil _, ⟨rfl, trivial⟩, ?_⟩))
 exact ⟨rfl, H.aL⟩
theorem aDC {X : Nat → Prop} {w : World} {B : List UInt8} (hX : cY X w) (hB : B.length = 32) :
  bC prog 120 [.agg (kc B).toArray].toArray w fun v w' => v = .int .i64 ((bitsOf B 256).length : Int) ∧ Out Nil w w' := by
 refine bC.aH (N := 16) func120 rfl rfl (by simp) ?_
 have H := St.begin hX
 refine WE.aA ?_
 refine WL.box (l := kc B) H rfl rfl rfl ?_
 intro b1 w1 H
 refine WL.as rfl rfl (WL.nil (WE.aA (WL.as rfl rfl (WL.nil (WE.seq (WE.aA ?_))))))
 refine WL.bE rfl mP rfl rfl (aN.aF (H.l 0 rfl) (aK.all _) rfl) (cK j0 (by simp only [aS, aX, aB]; omega)) ?_
 refine WL.mv rfl rfl (WL.nil (WE.block ?_))
 refine WE.loop (α := Nat) (rg [(3, 1), (5, 1), (7, 8)]) (fun i => [(3, .int .i64 ((bitsOf B (8 * i)).length : Int)), (7, .int .i64 (i : Int))]) (fun i wl => i ≤ 32 ∧ St X w wl [] [aP.blk b1 85 (kc B)] []) (fun i => 32 - i) 0 ⟨rfl, rfl, trivial⟩ ⟨Nat.zero_le _, H⟩ ?_
 intro i γ0 w2 hI
 try dsimp only at hI
 obtain ⟨hi, H⟩ := hI
 refine WE.aA (WL.pv (PV.lss rfl rfl rfl) rfl (WL.nil (WE.seq ?_)))
 refine WE.cond rfl (fun lT => ?_) (fun lT => ?_)
 ·
  try simp only [bW] at lT
  have hlt : i < 32 := by omega
  have hbb := GF B i
  have hbl := r4 B (8 * i)
  have hp8 := KX (B.getD i 0).toNat
  refine WE.skip (WE.seq (WE.block (WE.aA (WL.pv (PV.IX (l := kc B) rfl aC3 gO u3 rfl rfl (by omega) (X5 B i (by omega))) rfl (WL.as rfl rfl (WL.nil (WE.dY ?_)))))))
  refine WL.mv rfl rfl (WL.mv rfl rfl ?_)
  refine WL.call aGy rfl (Z5 (x := B.getD i 0) H.aR  ) ?_
  rintro _ w3 ⟨rfl, hO⟩
  replace H := H.out hO
  refine WL.pv (PV.eq (v' := .int .i64 (((bitsOf B (8 * i)).length + pop8 (B.getD i 0).toNat : Nat) : Int)) (PV.bT rfl rfl rfl (by omega) (by omega)) rfl) rfl ?_
  refine WL.as rfl rfl (WL.nil (WE.dY (WL.pv (PV.eq (v' := .int .i64 ((i + 1 : Nat) : Int)) (PV.bT rfl rfl rfl (by omega) (by omega)) rfl) rfl (WL.mv rfl rfl (WL.nil ?_)))))
  exact ⟨i + 1, (by repeat (first | with_reducible exact bM.refl _ _ | refine bM.dD rfl ?_ | refine bM.bY rfl ?_ | refine bM.bV rfl ?_)), ⟨(by rw [hbb]; rfl), rfl, trivial⟩, rfl, ⟨by omega, H⟩, (by omega)⟩
 ·
  try simp only [bW] at lT
  have tO : i = 32 := by omega
  refine WE.exit (WE.aA (WL.mv rfl rfl (WL.as rfl rfl (WL.nil (WE.ret ⟨[_], _, .nil _, ⟨rfl, trivial⟩, ?_⟩)))))
  subst tO
  exact ⟨rfl, H.aL⟩
theorem aAl {X : Nat → Prop} {w : World} {B : List UInt8} (hX : cY X w) (hB : B.length = 32) :
  bC prog 212 [.agg (kc B).toArray].toArray w fun v w' => Out Nil w w' ∧ aJ X (kK v ((bitsOf B 256).map xS)) w' := by
 refine bC.aH (N := 17) func212 rfl rfl (by simp) ?_
 have H := St.begin hX
 refine WE.aA ?_
 refine WL.box (l := kc B) H rfl rfl rfl ?_
 intro b1 w1 H
 refine WL.as rfl rfl (WL.nil (WE.aA (WL.as rfl rfl ?_)))
 replace H := H.kS 3 1
 refine WL.nil (WE.seq (WE.aA (WL.mv rfl rfl (WL.nil (WE.block ?_)))))
 refine WE.loop (α := Nat × Value) (rg [(3, 13)]) (fun p => [(5, .int .i64 (p.1 : Int)), (3, p.2)]) (fun p wl => p.1 ≤ 256 ∧ St X w wl [] [aP.hU w.heap.size p.2 3 1 (bitsOf B (p.1)).length ((bitsOf B (p.1)).map xS), aP.blk b1 85 (kc B)] []) (fun p => 256 - p.1) (0, .slice none 0 0) ⟨rfl, rfl, trivial⟩ ⟨Nat.zero_le _, H⟩ ?_
 intro ⟨i, q⟩ γ0 w2 hI
 try dsimp only at hI
 obtain ⟨hi, H⟩ := hI
 refine WE.aA (WL.pv (PV.lss rfl rfl rfl) rfl (WL.nil (WE.seq ?_)))
 refine WE.cond rfl (fun SQ => ?_) (fun SQ => ?_)
 ·
  try simp only [bW] at SQ
  have hlt : i < 256 := by omega
  have hbl := r4 B i
  refine WE.skip ?_
  refine WE.cut (α := Value) (rg [(3, 2), (7, 8)]) (fun g_ => [(3, g_)]) (fun g_ wl => St X w wl [] [aP.hU w.heap.size g_ 3 1 (bitsOf B (i + 1)).length ((bitsOf B (i + 1)).map xS), aP.blk b1 85 (kc B)] []) ?_ ?_
  ·
   refine WE.block (WE.aA (WL.mv rfl rfl (WL.as rfl rfl (WL.nil (WE.aA ?_)))))
   refine WL.bE rfl mP rfl rfl (aN.aF (H.l 1 rfl) (aK.all _) rfl) (cK j0 (by simp only [aS, aX, aB]; omega)) ?_
   refine WL.mv rfl rfl ?_
   refine WL.call aCK rfl (J9 (B := B) (d := i) H.aR  (by assumption) (by assumption)) ?_
   rintro _ w3 ⟨rfl, hO⟩
   replace H := H.out hO
   refine WL.nil ?_
   refine WE.cond rfl (fun j5 => ?_) (fun j5 => ?_)
   ·
    try simp only [bW] at j5
    have h1 : bI B i = 1 := by exact j5
    refine WE.dY (WL.mv rfl rfl (WL.mv rfl rfl ?_))
    refine WL.bB (l0 := [.int .i64 (0)]) H rfl sE (by decide) (cT _ _) (Fl.cons rfl rfl (by simp only [aS, aX, aB]) Laid.head Fl.nil) rfl ?_
    intro b13 w4 H
    refine WL.append (m := 1) H 1 sE (by decide) rfl rfl rfl (cN.bZ (n := 1) (H.l 0 rfl) rfl) (bA _ rfl) (by omega) (by decide) rfl ?_
    intro v14 w5 H
    replace H := H.forget 0
    replace H := H.conv (L' := [aP.hU w.heap.size v14 3 1 (bitsOf B (i + 1)).length ((bitsOf B (i + 1)).map xS), aP.blk b1 85 (kc B)]) (by rw [vG, if_pos h1, List.length_append, List.map_append]; rfl)
    refine WL.as rfl rfl (WL.nil ?_)
    exact ⟨v14, (by repeat (first | with_reducible exact bM.refl _ _ | refine bM.dD rfl ?_)), ⟨rfl, trivial⟩, rfl, H⟩
   ·
    try simp only [bW] at j5
    have h1 : ¬ bI B i = 1 := by exact j5
    replace H := H.conv (L' := [aP.hU w.heap.size q 3 1 (bitsOf B (i + 1)).length ((bitsOf B (i + 1)).map xS), aP.blk b1 85 (kc B)]) (by rw [vG, if_neg h1])
    refine WE.skip ?_
    exact ⟨q, (by repeat (first | with_reducible exact bM.refl _ _ | refine bM.dD rfl ?_)), ⟨rfl, trivial⟩, rfl, H⟩
  ·
   intro g_ γ w6 hI
   try dsimp only at hI
   replace H := hI
   refine WE.dY (WL.pv (PV.eq (v' := .int .i64 ((i + 1 : Nat) : Int)) (PV.bT rfl rfl rfl (by omega) (by omega)) rfl) rfl (WL.mv rfl rfl (WL.nil ?_)))
   exact ⟨(i + 1, g_), (by repeat (first | with_reducible exact bM.refl _ _ | refine bM.dD rfl ?_ | refine bM.bY rfl ?_ | refine bM.bV rfl ?_)), ⟨rfl, rfl, trivial⟩, rfl, ⟨by dsimp only; omega, H⟩, (by dsimp only; omega)⟩
 ·
  try simp only [bW] at SQ
  have tO : i = 256 := by omega
  refine WE.exit (WE.aA (WL.mv rfl rfl (WL.as rfl rfl (WL.nil (WE.ret ⟨[_], _, .nil _, ⟨rfl, trivial⟩, ?_⟩)))))
  subst tO
  replace H := H.freeze (i := 0) rfl
  exact ⟨H.aL, H.gF ((H.bK 0 rfl).imp fun _ h => by have h_ := cN.dJ h; unfold kK; rw [List.length_map]; exact h_)⟩
theorem aAn {X : Nat → Prop} {w : World} {B : List UInt8} (hX : cY X w) (hB : B.length = 32) :
  bC prog 118 [.agg (kc B).toArray].toArray w fun v w' => v = .int .i64 (n4 (bitsOf B 256)) ∧ Out Nil w w' := by
 refine bC.aH (N := 17) func118 rfl rfl (by simp) ?_
 have H := St.begin hX
 have CM : (List.replicate 32 (0 : UInt8)).length = 32 := List.length_replicate
 refine WE.aA ?_
 refine WL.box (l := kc B) H rfl rfl rfl ?_
 intro b1 w1 H
 refine WL.as rfl rfl (WL.nil (WE.aA (WL.as rfl rfl (WL.nil (WE.seq (WE.aA ?_))))))
 refine WL.bE rfl mP rfl rfl (aN.aF (H.l 0 rfl) (aK.all _) rfl) (cK j0 (by simp only [aS, aX, aB]; omega)) ?_
 refine WL.alloc H rfl MM rfl ?_
 intro b4 w2 H
 refine WL.aW H 0 rfl rfl rfl (new := kc B) rfl (cK j0 (by simp only [aS, aX, aB]; omega)) (bG _) (Laid.at (Laid.all (by simp only [aS, aX, aB]; omega)) rfl) rfl ?_
 intro w3 H
 refine WL.nil (WE.block ?_)
 refine WE.loop (α := List Nat × List UInt8 × Nat) (rg [(3, 2), (6, 10)]) (fun p => [(3, .int .i64 (n4 p.1)), (4, .pointer (some ⟨p.2.2, 0, none⟩))]) (fun p wl => (bitsOf B 256 = p.1 ++ bitsOf p.2.1 256 ∧ p.2.1.length = 32) ∧ St X w wl [] [aP.blk p.2.2 85 (kc p.2.1), aP.blk b1 85 (kc B)] []) (fun p => (bitsOf p.2.1 256).length) ([], B, b4) ⟨rfl, rfl, trivial⟩ ⟨⟨rfl, hB⟩, H⟩ ?_
 intro ⟨pre, R, bb⟩ γ0 w4 hI
 try dsimp only at hI
 obtain ⟨⟨tT, hR⟩, H⟩ := hI
 try dsimp only at tT hR
 refine WE.seq (WE.aA ?_)
 refine WL.bE rfl mP rfl rfl (aN.aF (H.l 0 rfl) (aK.all _) rfl) (cK j0 (by simp only [aS, aX, aB]; omega)) ?_
 refine WL.pv (PV.lP rfl aC3 gO MM Fl.nil) rfl (WL.pv (PV.RO rfl aC3 mC gO (by kernel_rfl) rfl rfl (by assumption) (by assumption)) rfl (WL.nil ?_))
 refine WE.cond rfl (fun lT => ?_) (fun lT => ?_)
 ·
  try simp only [bW] at lT
  have hne : R ≠ List.replicate 32 0 := by exact lT
  have hcz := T5 hR hne
  have hbf := JN hR hcz.1 hcz.2.1 hcz.2.2
  have G5 := CH R (fN R (List.replicate 32 0))
  have hlt := hcz.1
  refine WE.skip (WE.seq (WE.block (WE.dY ?_)))
  refine WL.bE rfl mP rfl rfl (aN.aF (H.l 0 rfl) (aK.all _) rfl) (cK j0 (by simp only [aS, aX, aB]; omega)) ?_
  refine WL.pv (PV.lP rfl gZ gO qY Fl.nil) rfl ?_
  refine WL.call TJ rfl (zB (a := R) (b := List.replicate 32 0) H.aR  (by assumption) (by assumption)) ?_
  rintro _ w5 ⟨rfl, hO⟩
  replace H := H.out hO
  refine WL.as rfl rfl (WL.nil (WE.seq (WE.aA ?_)))
  refine WL.bE rfl mP rfl rfl (aN.aF (H.l 0 rfl) (aK.all _) rfl) (cK j0 (by simp only [aS, aX, aB]; omega)) ?_
  refine WL.nil (WE.dY ?_)
  refine WL.alloc H rfl MM rfl ?_
  intro b4 w6 H
  refine WL.aW H 0 rfl rfl rfl (new := kc R) rfl (cK j0 (by simp only [aS, aX, aB]; omega)) (bG _) (Laid.at (Laid.all (by simp only [aS, aX, aB]; omega)) rfl) rfl ?_
  intro w7 H
  refine WL.nil (WE.dY ?_)
  refine WL.bE rfl mP rfl rfl (aN.aF (H.l 0 rfl) (aK.all _) rfl) (cK j0 (by simp only [aS, aX, aB]; omega)) ?_
  refine WL.mv rfl rfl ?_
  refine WL.call aGz rfl (aAm (B := R) (d := fN R (List.replicate 32 0)) H.aR  (by assumption) (by assumption)) ?_
  rintro _ w8 ⟨rfl, hO⟩
  replace H := H.out hO
  refine WL.aW H 0 rfl rfl rfl (new := kc (qA R (fN R (List.replicate 32 0)))) rfl (cK j0 (by simp only [aS, aX, aB]; omega)) (bG _) (Laid.at (Laid.all (by simp only [aS, aX, aB]; omega)) rfl) rfl ?_
  intro w9 H
  refine WL.nil ?_
  replace H := H.forget 1
  exact ⟨(pre ++ [fN R (List.replicate 32 0)], qA R (fN R (List.replicate 32 0)), b4), (by repeat (first | with_reducible exact bM.refl _ _ | refine bM.dD rfl ?_ | refine bM.bY rfl ?_ | refine bM.bV rfl ?_)), ⟨(by dsimp only; rw [IL]; rfl), rfl, trivial⟩, rfl, ⟨⟨by dsimp only; rw [tT, hbf, List.append_assoc]; rfl, by dsimp only; rw [G5, hR]⟩, H⟩, (by dsimp only; rw [hbf, List.length_cons]; omega)⟩
 ·
  try simp only [bW] at lT
  have hre : R = List.replicate 32 0 := by exact lT
  rw [hre, GD, List.append_nil] at tT
  refine WE.exit (WE.aA (WL.mv rfl rfl (WL.as rfl rfl (WL.nil (WE.ret ⟨[_], _, .nil _, ⟨rfl, trivial⟩, ?_⟩)))))
  refine ⟨?_, H.aL⟩
  rw [tT]; rfl
theorem _root_.Go.Sp.DW : cM prog 35 = some ([.int .i64 0] ++ ([.int .i64 0] ++ ((kc (List.replicate 32 0) ++ kc (List.replicate 32 0)) ++ (kc (List.replicate 32 0) ++ [.slice none 0 0])))) := by kernel_rfl
def fT (kd dp : Nat) (lk lv B : List UInt8) (sl : Value) : List Value := [.int .i64 (kd : Int)] ++ ([.int .i64 (dp : Int)] ++ ((kc lk ++ kc lv) ++ (kc B ++ [sl])))
theorem gQ {kd dp : Nat} {lk lv B : List UInt8} {sl : Value} (hk : lk.length = 32) (hv : lv.length = 32) (hB : B.length = 32) : (fT kd dp lk lv B sl).length = 99 := by simp [fT, aI, hk, hv, hB]
theorem aD (kd dp : Nat) (lk lv B : List UInt8) (sl : Value) : (fT kd dp lk lv B sl).length = 3 + (lk.length + lv.length + B.length) := by simp [fT, aI]; omega
theorem sO {kd dp : Nat} {lk lv B : List UInt8} {sl : Value} (h : sl.oneCell' = true) : ∀ v ∈ fT kd dp lk lv B sl, v.oneCell' = true := bN (bA _ rfl) (bN (bA _ rfl) (bN (bN (bG _) (bG _)) (bN (bG _) (eE h))))
theorem jC.n4 {kd dp : Nat} {lk lv B : List UInt8} {sb : List (List UInt8)} (h : jC kd dp lk lv B sb) : n4 (bitsOf B 256) = (dp : Int) - 1 := by
 unfold Go.Sp.Tryz.n4
 rw [h.last]
 by_cases hd : dp = 0
 ·
  rw [if_pos hd, hd]; rfl
 ·
  rw [if_neg hd]; show ((dp - 1 : Nat) : Int) = _; omega
theorem jC.PL {kd dp : Nat} {lk lv B : List UInt8} {sb : List (List UInt8)} (h : jC kd dp lk lv B sb) : sb.length ≤ 256 := by
 rw [h.gH]; exact r4 B 256
theorem aEn {X : Nat → Prop} {w : World} {kd dp : Nat} {lk lv B : List UInt8} {sl : Value} {sb : List (List UInt8)} (hX : cY X w) (bU : aJ X (fB sl sb) w) (hp : jC kd dp lk lv B sb) :
  bC prog 114 [.agg (fT kd dp lk lv B sl).toArray, .agg (kc B).toArray].toArray w fun v w' => v = .bool true ∧ Out Nil w w' := by
 refine bC.aH (N := 13) func114 rfl rfl (by simp) ?_
 have H := (St.begin hX).add (cE bU)
 have wF := hp.kd
 have DQ := hp.N8
 have mN := hp.uJ
 have hlv := hp.lvl
 have pU := hp.bl
 have hli := hp.n4
 have I5 := hp.gH
 have pP := hp.PL
 have vS : (fT kd dp lk lv B sl).length = 99 := gQ hp.uJ hp.lvl hp.bl
 have CM : (List.replicate 32 (0 : UInt8)).length = 32 := List.length_replicate
 have hs1 : sl.oneCell' = true := cN.fX (H.p 0 rfl : fB sl sb _)
 refine WE.aA ?_
 refine WL.box (l := fT kd dp lk lv B sl) H rfl rfl rfl ?_
 intro b2 w1 H
 refine WL.box (l := kc B) H rfl rfl rfl ?_
 intro b3 w2 H
 refine WL.as rfl rfl (WL.nil (WE.aA (WL.pv (PV.fieldAddr rfl nI rfl) rfl (WL.aY rfl pR rfl rfl (aN.aF (H.l 1 rfl) (aK.l (aK.all _)) rfl) (WL.pv (PV.eql rfl rfl rfl) rfl (WL.mv rfl rfl ?_))))))
 refine WL.split (t := 8) rfl (fun FB => ?_) (fun FB => ?_)
 ·
  refine WL.known (t := 7) (c := true) rfl FB ?_
  try simp only [bW] at FB
  refine WL.off rfl (WL.off rfl (WL.off rfl (WL.pv (PV.dP rfl rfl rfl) rfl (WL.as rfl rfl (WL.nil (WE.ret ⟨[_], _, .nil _, ⟨rfl, trivial⟩, ?_⟩))))))
  refine ⟨?_, H.aL⟩
  rfl
 ·
  refine WL.known (t := 7) (c := false) rfl FB ?_
  try simp only [bW] at FB
  refine WL.pv (PV.fieldAddr rfl nI rfl) rfl (WL.aY rfl pR rfl rfl (aN.aF (H.l 1 rfl) (aK.l (aK.all _)) rfl) (WL.pv (PV.eql rfl rfl rfl) rfl (WL.pv (PV.dF rfl rfl rfl) rfl (WL.as rfl rfl (WL.nil (WE.ret ⟨[_], _, .nil _, ⟨rfl, trivial⟩, ?_⟩))))))
  refine ⟨?_, H.aL⟩
  (show Value.bool _ = Value.bool true; (congr 1; exact decide_eq_true (by omega)))
theorem aEm {X : Nat → Prop} {w : World} {kd dp : Nat} {lk lv B : List UInt8} {sl : Value} {sb : List (List UInt8)} (hX : cY X w) (bU : aJ X (fB sl sb) w) (hp : jC kd dp lk lv B sb) :
  bC prog 115 [.agg (fT kd dp lk lv B sl).toArray, .agg (kc B).toArray].toArray w fun v w' => v = .bool true ∧ Out Nil w w' := by
 refine bC.aH (N := 13) func115 rfl rfl (by simp) ?_
 have H := (St.begin hX).add (cE bU)
 have wF := hp.kd
 have DQ := hp.N8
 have mN := hp.uJ
 have hlv := hp.lvl
 have pU := hp.bl
 have hli := hp.n4
 have I5 := hp.gH
 have pP := hp.PL
 have vS : (fT kd dp lk lv B sl).length = 99 := gQ hp.uJ hp.lvl hp.bl
 have CM : (List.replicate 32 (0 : UInt8)).length = 32 := List.length_replicate
 have hs1 : sl.oneCell' = true := cN.fX (H.p 0 rfl : fB sl sb _)
 refine WE.aA ?_
 refine WL.box (l := fT kd dp lk lv B sl) H rfl rfl rfl ?_
 intro b2 w1 H
 refine WL.box (l := kc B) H rfl rfl rfl ?_
 intro b3 w2 H
 refine WL.as rfl rfl (WL.nil (WE.aA (WL.pv (PV.fieldAddr rfl rW rfl) rfl (WL.aY rfl pR rfl rfl (aN.aF (H.l 1 rfl) (aK.r (aK.l (aK.all _)) rfl) rfl) (WL.pv (PV.geq rfl rfl rfl) rfl (WL.mv rfl rfl (WL.known (t := 8) (c := true) rfl rfl ?_)))))))
 refine WL.pv (PV.fieldAddr rfl rW rfl) rfl (WL.aY rfl pR rfl rfl (aN.aF (H.l 1 rfl) (aK.r (aK.l (aK.all _)) rfl) rfl) (WL.pv (PV.leq rfl rfl rfl) rfl (WL.pv (PV.dP rfl rfl rfl) rfl (WL.as rfl rfl (WL.nil (WE.ret ⟨[_], _, .nil _, ⟨rfl, trivial⟩, ?_⟩))))))
 refine ⟨?_, H.aL⟩
 (show Value.bool _ = Value.bool true; (congr 1; exact decide_eq_true (by omega)))
theorem aEl {X : Nat → Prop} {w : World} {kd dp : Nat} {lk lv B : List UInt8} {sl : Value} {sb : List (List UInt8)} (hX : cY X w) (bU : aJ X (fB sl sb) w) (hp : jC kd dp lk lv B sb) :
  bC prog 116 [.agg (fT kd dp lk lv B sl).toArray, .agg (kc B).toArray].toArray w fun v w' => v = .bool true ∧ Out Nil w w' := by
 refine bC.aH (N := 14) func116 rfl rfl (by simp) ?_
 have H := (St.begin hX).add (cE bU)
 have wF := hp.kd
 have DQ := hp.N8
 have mN := hp.uJ
 have hlv := hp.lvl
 have pU := hp.bl
 have hli := hp.n4
 have I5 := hp.gH
 have pP := hp.PL
 have vS : (fT kd dp lk lv B sl).length = 99 := gQ hp.uJ hp.lvl hp.bl
 have CM : (List.replicate 32 (0 : UInt8)).length = 32 := List.length_replicate
 have hs1 : sl.oneCell' = true := cN.fX (H.p 0 rfl : fB sl sb _)
 refine WE.aA ?_
 refine WL.box (l := fT kd dp lk lv B sl) H rfl rfl rfl ?_
 intro b2 w1 H
 refine WL.box (l := kc B) H rfl rfl rfl ?_
 intro b3 w2 H
 refine WL.as rfl rfl (WL.nil (WE.aA (WL.pv (PV.fieldAddr rfl nI rfl) rfl (WL.aY rfl pR rfl rfl (aN.aF (H.l 1 rfl) (aK.l (aK.all _)) rfl) (WL.pv (PV.eql rfl rfl rfl) rfl (WL.mv rfl rfl ?_))))))
 refine WL.split (t := 8) rfl (fun FB => ?_) (fun FB => ?_)
 ·
  refine WL.known (t := 7) (c := true) rfl FB ?_
  try simp only [bW] at FB
  refine WL.off rfl (WL.off rfl (WL.off rfl (WL.off rfl (WL.pv (PV.dP rfl rfl rfl) rfl (WL.as rfl rfl (WL.nil (WE.ret ?_)))))))
  refine ⟨[_], _, .nil _, ⟨rfl, trivial⟩, ?_⟩
  refine ⟨?_, H.aL⟩
  rfl
 ·
  refine WL.known (t := 7) (c := false) rfl FB ?_
  try simp only [bW] at FB
  have PI : kd = 0 := by omega
  obtain ⟨hlz, hvz⟩ := hp.lz PI
  have aEX : lk = List.replicate 32 0 := hlz
  have aEJ : lv = List.replicate 32 0 := hvz
  refine WL.pv (PV.fieldAddr rfl pD rfl) rfl ?_
  refine WL.bE rfl GN rfl rfl (aN.aF (H.l 1 rfl) (aK.r (aK.r (aK.l (aK.all _)) rfl) rfl) rfl) (cK wX (by simp only [aS, aX, aB]; omega)) ?_
  refine WL.pv (PV.dM rfl XK HG Fl.nil) rfl ?_
  refine WL.pv (PV.aHf rfl aHg rfl rfl (DL.struct (n := 3) aHh (VW.cons (eG.agg cZ (cK cL (by simp only [aS, aX, aB]; omega)) (aK.l (aK.all _))) (eG.agg cZ (by exact cL) (aK.l (aK.all _))) (DL.mono (DL.bytes gZ mC gO (by assumption) (by assumption)) (by decide)) (VW.cons (eG.agg fO (cK c9 (by simp only [aS, aX, aB]; omega)) (aK.r (aK.all _) (by simp only [aS, aX, aB]; omega))) (eG.agg fO (by exact c9) (aK.r (aK.all _) (by simp only [aS, aX, aB]))) (DL.mono (DL.bytes oL mC gO (by assumption) (by assumption)) (by decide)) VW.nil))) (by decide)) rfl ?_
  refine WL.pv (PV.dF rfl rfl rfl) rfl (WL.as rfl rfl (WL.nil (WE.ret ⟨[_], _, .nil _, ⟨rfl, trivial⟩, ?_⟩)))
  refine ⟨?_, H.aL⟩
  (show Value.bool _ = Value.bool true; simp_all)
theorem aEk {X : Nat → Prop} {w : World} {kd dp : Nat} {lk lv B : List UInt8} {sl : Value} {sb : List (List UInt8)} (hX : cY X w) (bU : aJ X (fB sl sb) w) (hp : jC kd dp lk lv B sb) :
  bC prog 117 [.agg (fT kd dp lk lv B sl).toArray, .agg (kc B).toArray].toArray w fun v w' => v = .bool true ∧ Out Nil w w' := by
 refine bC.aH (N := 11) func117 rfl rfl (by simp) ?_
 have H := (St.begin hX).add (cE bU)
 have wF := hp.kd
 have DQ := hp.N8
 have mN := hp.uJ
 have hlv := hp.lvl
 have pU := hp.bl
 have hli := hp.n4
 have I5 := hp.gH
 have pP := hp.PL
 have vS : (fT kd dp lk lv B sl).length = 99 := gQ hp.uJ hp.lvl hp.bl
 have CM : (List.replicate 32 (0 : UInt8)).length = 32 := List.length_replicate
 have hs1 : sl.oneCell' = true := cN.fX (H.p 0 rfl : fB sl sb _)
 refine WE.aA ?_
 refine WL.box (l := fT kd dp lk lv B sl) H rfl rfl rfl ?_
 intro b2 w1 H
 refine WL.box (l := kc B) H rfl rfl rfl ?_
 intro b3 w2 H
 refine WL.as rfl rfl (WL.nil ?_)
 refine WE.bH (.take 0 (.take 2 (.take 3 (.take 4 (.aG 1 (.take 5 (.take 6 .done))))))) mixed (by kernel_rfl) ?_
 replace H := H.out (Out.drew _)
 refine WP.dN rfl rfl rfl mP rfl (aN.aF (H.l 0 rfl) (aK.all _) rfl) (cK j0 (by simp only [aS, aX, aB]; omega)) ?_
 refine WP.aC rfl rfl (PV.fieldAddr rfl rW rfl) (WP.aM rfl rfl (RV.aV rfl pR rfl) (aN.aF (H.l 1 rfl) (aK.r (aK.l (aK.all _)) rfl) rfl) (WP.aC rfl rfl (PV.gC rfl rfl rfl (by omega) (by omega)) (WP.aG rfl ?_)))
 refine WL.call aG3 rfl (aAn (B := B) H.aR  (by assumption)) ?_
 rintro _ w3 ⟨rfl, hO⟩
 replace H := H.out hO
 refine WL.nil ⟨(fa (rk hO) (fa (nw 1 0) c5)), ?_⟩
 refine WP.aC rfl rfl (PV.eql rfl rfl rfl) (WP.as rfl rfl rfl (WP.done (WE.ret ⟨[_], _, .nil _, ⟨rfl, trivial⟩, ?_⟩)))
 refine ⟨?_, H.aL⟩
 (show Value.bool _ = Value.bool true; (congr 1; exact decide_eq_true (by omega)))
theorem aEj {X : Nat → Prop} {w : World} {kd dp : Nat} {lk lv B : List UInt8} {sl : Value} {sb : List (List UInt8)} (hX : cY X w) (bU : aJ X (fB sl sb) w) (hp : jC kd dp lk lv B sb) :
  bC prog 119 [.agg (fT kd dp lk lv B sl).toArray, .agg (kc B).toArray].toArray w fun v w' => v = .bool true ∧ Out Nil w w' := by
 refine bC.aH (N := 11) func119 rfl rfl (by simp) ?_
 have H := (St.begin hX).add (cE bU)
 have wF := hp.kd
 have DQ := hp.N8
 have mN := hp.uJ
 have hlv := hp.lvl
 have pU := hp.bl
 have hli := hp.n4
 have I5 := hp.gH
 have pP := hp.PL
 have vS : (fT kd dp lk lv B sl).length = 99 := gQ hp.uJ hp.lvl hp.bl
 have CM : (List.replicate 32 (0 : UInt8)).length = 32 := List.length_replicate
 have hs1 : sl.oneCell' = true := cN.fX (H.p 0 rfl : fB sl sb _)
 refine WE.aA ?_
 refine WL.box (l := fT kd dp lk lv B sl) H rfl rfl rfl ?_
 intro b2 w1 H
 refine WL.box (l := kc B) H rfl rfl rfl ?_
 intro b3 w2 H
 refine WL.as rfl rfl (WL.nil ?_)
 refine WE.bH (.take 0 (.take 2 (.take 3 (.take 4 (.aG 1 (.take 5 (.take 6 .done))))))) mixed (by kernel_rfl) ?_
 replace H := H.out (Out.drew _)
 refine WP.dN rfl rfl rfl mP rfl (aN.aF (H.l 0 rfl) (aK.all _) rfl) (cK j0 (by simp only [aS, aX, aB]; omega)) ?_
 refine WP.aC rfl rfl (PV.fieldAddr rfl nH rfl) ?_
 refine WP.aM rfl rfl (RV.aV rfl u5 rfl) (aN.aF (H.l 1 rfl) (aK.r (aK.r (aK.r (aK.r (aK.all _) rfl) rfl) rfl) rfl) (by simp [aI, aQ, *])) ?_
 refine WP.aC rfl rfl (PV.dR (by exact (H.p 0 rfl : (fB sl sb) _)) oU rfl) ?_
 refine WP.aG rfl ?_
 refine WL.call aG1 rfl (aDC (B := B) H.aR  (by assumption)) ?_
 rintro _ w3 ⟨rfl, hO⟩
 replace H := H.out hO
 refine WL.nil ⟨(fa (rk hO) (fa (nw 1 0) c5)), ?_⟩
 refine WP.aC rfl rfl (PV.eql rfl rfl rfl) (WP.as rfl rfl rfl (WP.done (WE.ret ⟨[_], _, .nil _, ⟨rfl, trivial⟩, ?_⟩)))
 refine ⟨?_, H.aL⟩
 (show Value.bool _ = Value.bool true; (congr 1; exact decide_eq_true (by omega)))
theorem QS {X : Nat → Prop} {kd dp : Nat} {lk lv B : List UInt8} {sl : Value} {sb : List (List UInt8)} {W : World} (hX : ∀ b, X b → b < W.heap.size) (hs : aJ X (fB sl sb) W) (hp : jC kd dp lk lv B sb) : eQ prog (wH 114) [.agg (fT kd dp lk lv B sl).toArray, .agg (kc B).toArray] W fun v W' => v = .bool true ∧ Out Nil W W' :=
 eQ.jL (fs := []) (cs := []) aG7 (aEn hX hs hp)
theorem QR {X : Nat → Prop} {kd dp : Nat} {lk lv B : List UInt8} {sl : Value} {sb : List (List UInt8)} {W : World} (hX : ∀ b, X b → b < W.heap.size) (hs : aJ X (fB sl sb) W) (hp : jC kd dp lk lv B sb) : eQ prog (wH 115) [.agg (fT kd dp lk lv B sl).toArray, .agg (kc B).toArray] W fun v W' => v = .bool true ∧ Out Nil W W' :=
 eQ.jL (fs := []) (cs := []) aG6 (aEm hX hs hp)
theorem QQ {X : Nat → Prop} {kd dp : Nat} {lk lv B : List UInt8} {sl : Value} {sb : List (List UInt8)} {W : World} (hX : ∀ b, X b → b < W.heap.size) (hs : aJ X (fB sl sb) W) (hp : jC kd dp lk lv B sb) : eQ prog (wH 116) [.agg (fT kd dp lk lv B sl).toArray, .agg (kc B).toArray] W fun v W' => v = .bool true ∧ Out Nil W W' :=
 eQ.jL (fs := []) (cs := []) aG5 (aEl hX hs hp)
theorem QP {X : Nat → Prop} {kd dp : Nat} {lk lv B : List UInt8} {sl : Value} {sb : List (List UInt8)} {W : World} (hX : ∀ b, X b → b < W.heap.size) (hs : aJ X (fB sl sb) W) (hp : jC kd dp lk lv B sb) : eQ prog (wH 117) [.agg (fT kd dp lk lv B sl).toArray, .agg (kc B).toArray] W fun v W' => v = .bool true ∧ Out Nil W W' :=
 eQ.jL (fs := []) (cs := []) aG4 (aEk hX hs hp)
theorem QO {X : Nat → Prop} {kd dp : Nat} {lk lv B : List UInt8} {sl : Value} {sb : List (List UInt8)} {W : World} (hX : ∀ b, X b → b < W.heap.size) (hs : aJ X (fB sl sb) W) (hp : jC kd dp lk lv B sb) : eQ prog (wH 119) [.agg (fT kd dp lk lv B sl).toArray, .agg (kc B).toArray] W fun v W' => v = .bool true ∧ Out Nil W W' :=
 eQ.jL (fs := []) (cs := []) aG2 (aEj hX hs hp)
def QN : List Value := [wH 114, .int .i64 7] ++ ([wH 115, .int .i64 5] ++ ([wH 116, .int .i64 5] ++ ([wH 117, .int .i64 5] ++ ([wH 119, .int .i64 5]))))
theorem XA {X : Nat → Prop} {w : World}  (hX : cY X w) :
  bC prog 77 [].toArray w fun v w' => v = .agg QN.toArray ∧ Out Nil w w' := by
 refine bC.aH (N := 7) func77 rfl rfl (by decide +revert) ?_
 have H := St.begin hX
 refine WE.aA ?_
 refine WL.alloc H rfl aAq rfl ?_
 intro b0 w1 H
 refine WL.nil (WE.aA ?_)
 refine WL.pv (PV.dM rfl EM q5 (Fl.cons rfl (rfl) (by simp only [aS, aX, aB]) Laid.head (Fl.cons rfl (rfl) (by simp only [aS, aX, aB]) (Laid.tail Laid.head rfl) Fl.nil))) rfl ?_
 refine WL.pv (PV.dM rfl EM q5 (Fl.cons rfl (rfl) (by simp only [aS, aX, aB]) Laid.head (Fl.cons rfl (rfl) (by simp only [aS, aX, aB]) (Laid.tail Laid.head rfl) Fl.nil))) rfl ?_
 refine WL.pv (PV.dM rfl EM q5 (Fl.cons rfl (rfl) (by simp only [aS, aX, aB]) Laid.head (Fl.cons rfl (rfl) (by simp only [aS, aX, aB]) (Laid.tail Laid.head rfl) Fl.nil))) rfl ?_
 refine WL.pv (PV.dM rfl EM q5 (Fl.cons rfl (rfl) (by simp only [aS, aX, aB]) Laid.head (Fl.cons rfl (rfl) (by simp only [aS, aX, aB]) (Laid.tail Laid.head rfl) Fl.nil))) rfl ?_
 refine WL.pv (PV.dM rfl EM q5 (Fl.cons rfl (rfl) (by simp only [aS, aX, aB]) Laid.head (Fl.cons rfl (rfl) (by simp only [aS, aX, aB]) (Laid.tail Laid.head rfl) Fl.nil))) rfl ?_
 refine WL.pv (PV.lP rfl BR lR aAq (Fl.cons rfl (rfl) (by simp only [aS, aX, aB]) (Laid.left (Laid.all (by simp only [aS, aX, aB]))) (Fl.cons rfl (rfl) (by simp only [aS, aX, aB]) (Laid.right (Laid.left (Laid.all (by simp only [aS, aX, aB]))) (by simp only [aS, aX, aB])) (Fl.cons rfl (rfl) (by simp only [aS, aX, aB]) (Laid.right (Laid.right (Laid.left (Laid.all (by simp only [aS, aX, aB]))) rfl) (by simp only [aS, aX, aB])) (Fl.cons rfl (rfl) (by simp only [aS, aX, aB]) (Laid.right (Laid.right (Laid.right (Laid.left (Laid.all (by simp only [aS, aX, aB]))) rfl) rfl) (by simp only [aS, aX, aB])) (Fl.cons rfl (rfl) (by simp only [aS, aX, aB]) (Laid.right (Laid.right (Laid.right (Laid.right (Laid.all (by simp only [aS, aX, aB])) rfl) rfl) rfl) (by simp only [aS, aX, aB])) Fl.nil)))))) rfl ?_
 refine WL.aW H 0 rfl rfl rfl (new := QN) rfl (by exact aAv) (bA _ rfl) (Laid.at (Laid.all rfl) rfl) rfl ?_
 intro w2 H
 refine WL.nil (WE.ret ⟨[_], _, .nil _, ⟨⟨_, rfl, aU aHL (aN.aF (H.l 0 rfl) (aK.all _) rfl) (by exact aAv)⟩, trivial⟩, ?_⟩)
 exact ⟨rfl, H.aL⟩
theorem tK {X : Nat → Prop} {w : World} {kd dp : Nat} {lk lv B : List UInt8} {sl : Value} {sb : List (List UInt8)} (hX : cY X w) (bU : aJ X (fB sl sb) w) (hp : jC kd dp lk lv B sb) :
  bC prog 35 [.agg (fT kd dp lk lv B sl).toArray].toArray w fun v w' => v = .int .i64 0 ∧ Out Nil w w' := by
 refine bC.aH (N := 19) func35 rfl rfl (by simp) ?_
 have H := (St.begin hX).add (cE bU)
 have wF := hp.kd
 have DQ := hp.N8
 have mN := hp.uJ
 have hlv := hp.lvl
 have pU := hp.bl
 have hli := hp.n4
 have I5 := hp.gH
 have pP := hp.PL
 have vS : (fT kd dp lk lv B sl).length = 99 := gQ hp.uJ hp.lvl hp.bl
 have CM : (List.replicate 32 (0 : UInt8)).length = 32 := List.length_replicate
 have hs1 : sl.oneCell' = true := cN.fX (H.p 0 rfl : fB sl sb _)
 refine WE.aA ?_
 refine WL.box (l := fT kd dp lk lv B sl) H rfl rfl rfl ?_
 intro b1 w1 H
 refine WL.as rfl rfl (WL.nil (WE.seq (WE.aA ?_)))
 refine WL.call aJD rfl (XA  H.aR  ) ?_
 rintro _ w2 ⟨rfl, hO⟩
 replace H := H.out hO
 refine WL.mv rfl rfl (WL.nil (WE.block ?_))
 refine WE.jX 6 ?_
 refine dW.step ?_
 refine WE.aA (WL.pv (PV.lss rfl rfl rfl) rfl (WL.nil (WE.seq ?_)))
 refine WE.cS rfl rfl ?_
 refine WE.skip (WE.seq (WE.block (WE.aA ?_)))
 refine WL.pv (by exact PV.rQ (i := 0) rfl BR lR rfl rfl (by decide) (eG.agg GO (by exact lR) (aK.l (aK.all _)))) rfl ?_
 refine WL.alloc H rfl q5 rfl ?_
 intro b4 w3 H
 refine WL.aW H 0 rfl rfl rfl (new := _) rfl (by exact lR) (bA _ rfl) (Laid.at (Laid.all (by simp only [aS, aX, aB])) rfl) rfl ?_
 intro w4 H
 refine WL.nil (WE.aA (WL.pv (PV.fieldAddr rfl tF rfl) rfl (WL.aY rfl GP rfl rfl (aN.aF (H.l 0 rfl) aK.hd rfl) ?_)))
 refine WL.bE rfl nJ rfl rfl (aN.aF (H.l 1 rfl) (aK.all _) rfl) (by (rw [k8]; refine congrArg some ?_; (simp [aI, aQ, *]; done))) ?_
 refine WL.pv (PV.fieldAddr rfl qE rfl) rfl ?_
 refine WL.bE rfl DE rfl rfl (aN.aF (H.l 1 rfl) (aK.r (aK.r (aK.r (aK.l (aK.all _)) rfl) rfl) rfl) (by simp [aI, aQ, *])) (cK vN (by simp only [aS, aX, aB]; omega)) ?_
 refine WL.iW rfl rfl (QS H.aR (by exact (H.bK 0 rfl : aJ _ (fB sl sb) _)) hp) ?_
 rintro _ w6 ⟨rfl, hO⟩
 replace H := H.out hO
 refine WL.pv (PV.not rfl rfl) rfl (WL.nil ?_)
 refine WE.bD rfl rfl ?_
 refine WE.skip (WE.dY (WL.pv (PV.bT rfl rfl rfl (by omega) (by omega)) rfl (WL.mv rfl rfl (WL.nil ?_))))
 replace H := H.forget 0
 refine dW.step ?_
 refine WE.aA (WL.pv (PV.lss rfl rfl rfl) rfl (WL.nil (WE.seq ?_)))
 refine WE.cS rfl rfl ?_
 refine WE.skip (WE.seq (WE.block (WE.aA ?_)))
 refine WL.pv (by exact PV.rQ (i := 1) rfl BR lR rfl rfl (by decide) (eG.agg GO (by exact lR) (aK.r (aK.l (aK.all _)) rfl))) rfl ?_
 refine WL.alloc H rfl q5 rfl ?_
 intro b4 w8 H
 refine WL.aW H 0 rfl rfl rfl (new := _) rfl (by exact lR) (bA _ rfl) (Laid.at (Laid.all (by simp only [aS, aX, aB])) rfl) rfl ?_
 intro w9 H
 refine WL.nil (WE.aA (WL.pv (PV.fieldAddr rfl tF rfl) rfl (WL.aY rfl GP rfl rfl (aN.aF (H.l 0 rfl) aK.hd rfl) ?_)))
 refine WL.bE rfl nJ rfl rfl (aN.aF (H.l 1 rfl) (aK.all _) rfl) (by (rw [k8]; refine congrArg some ?_; (simp [aI, aQ, *]; done))) ?_
 refine WL.pv (PV.fieldAddr rfl qE rfl) rfl ?_
 refine WL.bE rfl DE rfl rfl (aN.aF (H.l 1 rfl) (aK.r (aK.r (aK.r (aK.l (aK.all _)) rfl) rfl) rfl) (by simp [aI, aQ, *])) (cK vN (by simp only [aS, aX, aB]; omega)) ?_
 refine WL.iW rfl rfl (QR H.aR (by exact (H.bK 0 rfl : aJ _ (fB sl sb) _)) hp) ?_
 rintro _ wT ⟨rfl, hO⟩
 replace H := H.out hO
 refine WL.pv (PV.not rfl rfl) rfl (WL.nil ?_)
 refine WE.bD rfl rfl ?_
 refine WE.skip (WE.dY (WL.pv (PV.bT rfl rfl rfl (by omega) (by omega)) rfl (WL.mv rfl rfl (WL.nil ?_))))
 replace H := H.forget 0
 refine dW.step ?_
 refine WE.aA (WL.pv (PV.lss rfl rfl rfl) rfl (WL.nil (WE.seq ?_)))
 refine WE.cS rfl rfl ?_
 refine WE.skip (WE.seq (WE.block (WE.aA ?_)))
 refine WL.pv (by exact PV.rQ (i := 2) rfl BR lR rfl rfl (by decide) (eG.agg GO (by exact lR) (aK.r (aK.r (aK.l (aK.all _)) rfl) rfl))) rfl ?_
 refine WL.alloc H rfl q5 rfl ?_
 intro b4 D4 H
 refine WL.aW H 0 rfl rfl rfl (new := _) rfl (by exact lR) (bA _ rfl) (Laid.at (Laid.all (by simp only [aS, aX, aB])) rfl) rfl ?_
 intro KG H
 refine WL.nil (WE.aA (WL.pv (PV.fieldAddr rfl tF rfl) rfl (WL.aY rfl GP rfl rfl (aN.aF (H.l 0 rfl) aK.hd rfl) ?_)))
 refine WL.bE rfl nJ rfl rfl (aN.aF (H.l 1 rfl) (aK.all _) rfl) (by (rw [k8]; refine congrArg some ?_; (simp [aI, aQ, *]; done))) ?_
 refine WL.pv (PV.fieldAddr rfl qE rfl) rfl ?_
 refine WL.bE rfl DE rfl rfl (aN.aF (H.l 1 rfl) (aK.r (aK.r (aK.r (aK.l (aK.all _)) rfl) rfl) rfl) (by simp [aI, aQ, *])) (cK vN (by simp only [aS, aX, aB]; omega)) ?_
 refine WL.iW rfl rfl (QQ H.aR (by exact (H.bK 0 rfl : aJ _ (fB sl sb) _)) hp) ?_
 rintro _ P7 ⟨rfl, hO⟩
 replace H := H.out hO
 refine WL.pv (PV.not rfl rfl) rfl (WL.nil ?_)
 refine WE.bD rfl rfl ?_
 refine WE.skip (WE.dY (WL.pv (PV.bT rfl rfl rfl (by omega) (by omega)) rfl (WL.mv rfl rfl (WL.nil ?_))))
 replace H := H.forget 0
 refine dW.step ?_
 refine WE.aA (WL.pv (PV.lss rfl rfl rfl) rfl (WL.nil (WE.seq ?_)))
 refine WE.cS rfl rfl ?_
 refine WE.skip (WE.seq (WE.block (WE.aA ?_)))
 refine WL.pv (by exact PV.rQ (i := 3) rfl BR lR rfl rfl (by decide) (eG.agg GO (by exact lR) (aK.r (aK.r (aK.r (aK.l (aK.all _)) rfl) rfl) rfl))) rfl ?_
 refine WL.alloc H rfl q5 rfl ?_
 intro b4 P5 H
 refine WL.aW H 0 rfl rfl rfl (new := _) rfl (by exact lR) (bA _ rfl) (Laid.at (Laid.all (by simp only [aS, aX, aB])) rfl) rfl ?_
 intro w19 H
 refine WL.nil (WE.aA (WL.pv (PV.fieldAddr rfl tF rfl) rfl (WL.aY rfl GP rfl rfl (aN.aF (H.l 0 rfl) aK.hd rfl) ?_)))
 refine WL.bE rfl nJ rfl rfl (aN.aF (H.l 1 rfl) (aK.all _) rfl) (by (rw [k8]; refine congrArg some ?_; (simp [aI, aQ, *]; done))) ?_
 refine WL.pv (PV.fieldAddr rfl qE rfl) rfl ?_
 refine WL.bE rfl DE rfl rfl (aN.aF (H.l 1 rfl) (aK.r (aK.r (aK.r (aK.l (aK.all _)) rfl) rfl) rfl) (by simp [aI, aQ, *])) (cK vN (by simp only [aS, aX, aB]; omega)) ?_
 refine WL.iW rfl rfl (QP H.aR (by exact (H.bK 0 rfl : aJ _ (fB sl sb) _)) hp) ?_
 rintro _ w21 ⟨rfl, hO⟩
 replace H := H.out hO
 refine WL.pv (PV.not rfl rfl) rfl (WL.nil ?_)
 refine WE.bD rfl rfl ?_
 refine WE.skip (WE.dY (WL.pv (PV.bT rfl rfl rfl (by omega) (by omega)) rfl (WL.mv rfl rfl (WL.nil ?_))))
 replace H := H.forget 0
 refine dW.step ?_
 refine WE.aA (WL.pv (PV.lss rfl rfl rfl) rfl (WL.nil (WE.seq ?_)))
 refine WE.cS rfl rfl ?_
 refine WE.skip (WE.seq (WE.block (WE.aA ?_)))
 refine WL.pv (by exact PV.rQ (i := 4) rfl BR lR rfl rfl (by decide) (eG.agg GO (by exact lR) (aK.r (aK.r (aK.r (aK.r (aK.all _) rfl) rfl) rfl) rfl))) rfl ?_
 refine WL.alloc H rfl q5 rfl ?_
 intro b4 w23 H
 refine WL.aW H 0 rfl rfl rfl (new := _) rfl (by exact lR) (bA _ rfl) (Laid.at (Laid.all (by simp only [aS, aX, aB])) rfl) rfl ?_
 intro w24 H
 refine WL.nil (WE.aA (WL.pv (PV.fieldAddr rfl tF rfl) rfl (WL.aY rfl GP rfl rfl (aN.aF (H.l 0 rfl) aK.hd rfl) ?_)))
 refine WL.bE rfl nJ rfl rfl (aN.aF (H.l 1 rfl) (aK.all _) rfl) (by (rw [k8]; refine congrArg some ?_; (simp [aI, aQ, *]; done))) ?_
 refine WL.pv (PV.fieldAddr rfl qE rfl) rfl ?_
 refine WL.bE rfl DE rfl rfl (aN.aF (H.l 1 rfl) (aK.r (aK.r (aK.r (aK.l (aK.all _)) rfl) rfl) rfl) (by simp [aI, aQ, *])) (cK vN (by simp only [aS, aX, aB]; omega)) ?_
 refine WL.iW rfl rfl (QO H.aR (by exact (H.bK 0 rfl : aJ _ (fB sl sb) _)) hp) ?_
 rintro _ w26 ⟨rfl, hO⟩
 replace H := H.out hO
 refine WL.pv (PV.not rfl rfl) rfl (WL.nil ?_)
 refine WE.bD rfl rfl ?_
 refine WE.skip (WE.dY (WL.pv (PV.bT rfl rfl rfl (by omega) (by omega)) rfl (WL.mv rfl rfl (WL.nil ?_))))
 replace H := H.forget 0
 refine dW.step ?_
 refine WE.aA (WL.pv (PV.lss rfl rfl rfl) rfl (WL.nil (WE.seq ?_)))
 refine WE.bD rfl rfl ?_
 refine WE.exit (WE.aA (WL.as rfl rfl (WL.nil (WE.ret ⟨[_], _, .nil _, ⟨rfl, trivial⟩, ?_⟩))))
 exact ⟨rfl, H.aL⟩
theorem aDs {X : Nat → Prop} {w : World} {bits : Int} {T : Tr} {m : List En} {k : List UInt8} (hX : cY X w) (bU : aJ X (cW bits T) w) (hk : k.length = 32) (hT : T.er = grow 0 m) (hs : j7 m) (tN : KL m) :
  bC prog 51 [T.ptr, .agg (kc k).toArray].toArray w fun v w' => ∃ s, v = .tuple [s, .bool (kI m k)].toArray ∧ Out Nil w w' ∧ aJ X (bJ s (gV m k)) w' := by
 have pm := hs.pm tN
 have hfit := yC pm
 rw [← hT] at hfit
 have hg0 := TA (k := k) hT pm
 cases hg : getM m k with
 | none =>
  refine (aAe hX bU hk hfit (by rw [hg0, hg]; rfl)).mono ?_
  rintro v w' ⟨rfl, hO⟩
  refine ⟨.slice none 0 0, by unfold kI; rw [hg]; rfl, hO, fun w'' _ => ?_⟩
  unfold gV; rw [hg]; exact bJ.nil w''
 | some e =>
  refine (VU (v0 := e.v) hX bU hk hfit (by rw [hg0, hg]; rfl)).mono ?_
  rintro v w' ⟨s, rfl, hO, iB⟩
  refine ⟨s, by unfold kI; rw [hg]; rfl, hO, ?_⟩
  have h1 := (mT hX iB).imp fun _ h => bJ.dJ h
  unfold gV; rw [hg]; exact h1
theorem AK {X : Nat → Prop} {w : World} {s : Value} {m : List En} {k : List UInt8} (hX : cY X w) (bU : aJ X (fP s m) w) (nM : KL m) (hlen : m.length ≤ 1000000) (hk : k.length = 32) :
  bC prog 40 [s, .agg (kc k).toArray].toArray w fun v w' => v = .tuple [gS m k, .bool (kI m k)].toArray ∧ Out Nil w w' := by
 have := Q3 hX bU nM hlen hk
 rwa [YU] at this
theorem bJ.whole {a : Addr} {n c : Nat} {l : List UInt8} {w : World} (h : bJ (.slice (some a) n c) l w) : dA w a (kc l) := by
 obtain ⟨A, c', hv, _, _, _, hr⟩ := h
 injection hv with hv _ _
 exact hr a hv.symm
theorem bJ.some {s : Value} {l : List UInt8} {w : World} (h : bJ s l w) (hl : 0 < l.length) : ∃ a c, s = .slice (some a) l.length c := by
 obtain ⟨a, c, hv, _⟩ := cN.at_ h 0 hl
 exact ⟨a, c, hv⟩
theorem VJ {X : Nat → Prop} {w : World} {s : Value} {lb : List UInt8} (hX : cY X w) (bU : aJ X (bJ s lb) w) (FA : lb.length = 32) :
  bC prog 133 [s].toArray w fun v w' => v = .tuple [.agg (kc lb).toArray, .int .i64 0].toArray ∧ Out Nil w w' := by
 refine bC.aH (N := 11) func133 rfl rfl (by simp) ?_
 have H := (St.begin hX).add (cE bU)
 obtain ⟨sa, sc, rfl⟩ := bJ.some (H.p 0 rfl : bJ s lb _) (by omega)
 have G5 : lb.length = 32 := FA
 refine WE.aA ?_
 refine WL.alloc H rfl qY rfl ?_
 intro b2 w1 H
 refine WL.as rfl rfl (WL.nil (WE.seq (WE.aA (WL.mv rfl rfl (WL.pv (PV.A0 eM rfl) rfl (WL.pv (PV.neq rfl rfl rfl) rfl (WL.nil ?_)))))))
 refine WE.bD rfl (by simp [FA]) ?_
 refine WE.skip (WE.aA (WL.mv rfl rfl ?_))
 refine WL.pv (PV.vJ (n := 32) rfl gZ (by rw [FA]; rfl)) rfl ?_
 refine WL.bE rfl cZ rfl rfl (bJ.whole (H.p 0 rfl)) (cK cL (by simp only [aS, aX, aB]; omega)) ?_
 refine WL.aW H 0 rfl rfl rfl (new := _) rfl (cK cL (by simp only [aS, aX, aB]; omega)) (bG _) (Laid.at (Laid.all (by simp only [aS, aX, aB]; omega)) rfl) rfl ?_
 intro w2 H
 refine WL.as rfl rfl (WL.nil (WE.ret ⟨[_, _], _, .nil _, ⟨⟨_, rfl, aU cZ (aN.aF (H.l 0 rfl) (aK.all _) rfl) (cK cL (by simp only [aS, aX, aB]; omega))⟩, rfl, trivial⟩, ?_⟩))
 exact ⟨rfl, H.aL⟩
theorem Z6 {X : Nat → Prop} {w : World} {s : Value} {lb : List UInt8} (hX : cY X w) (bU : aJ X (bJ s lb) w) (FA : lb.length ≠ 32) (hle : lb.length ≤ 9223372036854775807) :
  bC prog 133 [s].toArray w fun v w' => v = .tuple [.agg (kc (List.replicate 32 0)).toArray, .int .i64 2].toArray ∧ Out Nil w w' := by
 refine bC.aH (N := 11) func133 rfl rfl (by simp) ?_
 have H := (St.begin hX).add (cE bU)
 refine WE.aA ?_
 refine WL.alloc H rfl qY rfl ?_
 intro b2 w1 H
 refine WL.as rfl rfl (WL.nil (WE.seq (WE.aA (WL.mv rfl rfl (WL.pv (PV.dR (H.p 0 rfl) eM rfl) rfl (WL.pv (PV.neq rfl rfl rfl) rfl (WL.nil ?_)))))))
 refine WE.cS rfl (by simp; omega) ?_
 refine WE.aA (WL.pv (PV.lP rfl gZ gO qY Fl.nil) rfl ?_)
 refine WL.aW H 0 rfl rfl rfl (new := _) rfl (by exact cL) (bG _) (Laid.at (Laid.all rfl) rfl) rfl ?_
 intro w2 H
 refine WL.as rfl rfl (WL.nil (WE.ret ⟨[_, _], _, .nil _, ⟨⟨_, rfl, aU cZ (aN.aF (H.l 0 rfl) (aK.all _) rfl) (by exact cL)⟩, rfl, trivial⟩, ?_⟩))
 exact ⟨rfl, H.aL⟩
theorem YW {lb : List UInt8} {i m : Nat} (h : i < lb.length) : (lb.take i ++ List.replicate (m + 1) (0 : UInt8)).set i lb[i] = lb.take (i + 1) ++ List.replicate m 0 := by
 have h1 : (lb.take i).length = i := by rw [List.length_take]; omega
 rw [List.set_append_right (h := by omega), h1, Nat.sub_self, List.replicate_succ, List.set_cons_zero, List.take_succ_eq_append_getElem h, List.append_assoc]
 rfl
theorem sL {X : Nat → Prop} {w : World} {s : Value} {lb : List UInt8} (hX : cY X w) (bU : aJ X (bJ s lb) w) (FA : lb.length = 32) :
  bC prog 45 [s].toArray w fun v w' => v = .agg (kc lb).toArray ∧ Out Nil w w' := by
 refine bC.aH (N := 16) func45 rfl rfl (by simp) ?_
 have H := (St.begin hX).add (cE bU)
 refine WE.aA ?_
 refine WL.alloc H rfl qY rfl ?_
 intro b2 w1 H
 refine WL.nil (WE.aA ?_)
 refine WL.alloc H rfl qY rfl ?_
 intro b3 w2 H
 refine WL.nil (WE.seq (WE.aA (WL.as rfl rfl (WL.nil (WE.block ?_)))))
 refine WE.loop (α := Nat) (rg [(4, 11)]) (fun i => [(4, .int .i64 (i : Int))]) (fun i wl => i ≤ 32 ∧ St X w wl [] [aP.blk b3 24 (kc (lb.take i ++ List.replicate (32 - i) 0)), aP.blk b2 24 (kc (List.replicate 32 0))] [bJ s lb]) (fun i => 32 - i) 0 ⟨rfl, trivial⟩ ⟨Nat.zero_le _, H.conv rfl⟩ ?_
 intro i γ0 w3 hI
 try dsimp only at hI
 obtain ⟨hi, H⟩ := hI
 refine WE.seq (WE.aA (WL.mv rfl rfl (WL.pv (PV.lss rfl rfl rfl) rfl (WL.nil ?_))))
 refine WE.cond rfl (fun SQ => ?_) (fun SQ => ?_)
 ·
  try simp only [bW] at SQ
  have aCu : i < 32 := by omega
  refine WE.skip (WE.seq (WE.block (WE.dY (WL.mv rfl rfl (WL.mv rfl rfl (WL.mv rfl rfl (WL.pv (PV.eA rfl (H.p 0 rfl) eM gO rfl rfl (by omega) (by omega)) rfl ?_)))))))
  refine WL.aY rfl u3 rfl rfl (bJ.rd (H.p 0 rfl) i (by omega)) (WL.pv (PV.bF rfl gZ gO rfl rfl (by omega) (by omega)) rfl ?_)
  refine WL.aW H 0 rfl rfl rfl (new := _) rfl (by exact gO) (bA _ rfl) (Laid.at (Laid.tI (x := lb[i]) i (by rw [List.length_append, List.length_take, List.length_replicate]; omega)) (by simp)) rfl ?_
  intro w4 H
  refine WL.nil (WE.dY (WL.mv rfl rfl (WL.pv (PV.eq (v' := .int .i64 ((i + 1 : Nat) : Int)) (PV.bT rfl rfl rfl (by omega) (by omega)) rfl) rfl (WL.as rfl rfl (WL.nil ?_)))))
  have hfs : (lb.take i ++ List.replicate (32 - i) (0 : UInt8)).set i lb[i] = lb.take (i + 1) ++ List.replicate (32 - (i + 1)) 0 := by rw [show 32 - i = (32 - (i + 1)) + 1 by omega]; exact YW (by omega)
  exact ⟨i + 1, (by repeat (first | with_reducible exact bM.refl _ _ | refine bM.dD rfl ?_ | refine bM.bY rfl ?_ | refine bM.bV rfl ?_)), ⟨rfl, trivial⟩, rfl, ⟨by omega, H.conv (by rw [← hfs]; rfl)⟩, (by omega)⟩
 ·
  try simp only [bW] at SQ
  have tO : i = 32 := by omega
  refine WE.exit (WE.aA ?_)
  subst tO
  replace H := H.conv (L' := [aP.blk b3 24 (kc lb), aP.blk b2 24 (kc (List.replicate 32 0))]) (by rw [List.take_of_length_le (by omega)]; simp)
  refine WL.bE rfl cZ rfl rfl (aN.aF (H.l 0 rfl) (aK.all _) rfl) (cK cL (by simp only [aS, aX, aB]; omega)) ?_
  refine WL.aW H 1 rfl rfl rfl (new := _) rfl (cK cL (by simp only [aS, aX, aB]; omega)) (bG _) (Laid.at (Laid.all (by simp only [aS, aX, aB]; omega)) rfl) rfl ?_
  intro w5 H
  refine WL.nil (WE.ret ⟨[_], _, .nil _, ⟨⟨_, rfl, aU cZ (aN.aF (H.l 1 rfl) (aK.all _) rfl) (cK cL (by simp only [aS, aX, aB]; omega))⟩, trivial⟩, ?_⟩)
  exact ⟨rfl, H.aL⟩
def dV (op : List UInt8) (ix code : Int) : List Value := [pW op, .int .i64 ix, .iface 42 (.int .i64 code)]
def fI (op : List UInt8) (ix code : Int) (v : Value) (w : World) : Prop :=
 (code = 0 ∧ v = .nilIface) ∨ (code ≠ 0 ∧ ∃ bf, v = .iface 219 (.pointer (some ⟨bf, 0, none⟩)) ∧ aN w bf 221 (dV op ix code))
theorem fI.ifv {op : List UInt8} {ix code : Int} {v : Value} {w : World} (h : fI op ix code v w) : zH v := by
 rcases h with ⟨_, rfl⟩ | ⟨_, bf, rfl, _⟩
 ·
  exact zH.nil
 ·
  exact zH.of
theorem fI.isNil {op : List UInt8} {ix code : Int} {v : Value} {w : World} (h : fI op ix code v w) : iS v = decide (code = 0) := by
 rcases h with ⟨h, rfl⟩ | ⟨h, bf, rfl, _⟩
 ·
  rw [decide_eq_true h]; rfl
 ·
  rw [decide_eq_false h]; rfl
theorem fI.one {op : List UInt8} {ix code : Int} {v : Value} {w : World} (h : fI op ix code v w) : v.oneCell' = true := by
 rcases h with ⟨_, rfl⟩ | ⟨_, bf, rfl, _⟩ <;> rfl
def kD (k : List UInt8) : List UInt8 := if k.length = 32 then k else rL
theorem n5 (k : List UInt8) : (kD k).length = 32 := by
 unfold kD
 split
 ·
  assumption
 ·
  rfl
theorem iK (k : List UInt8) : cD k [] = if k.length = 32 then 0 else 2 := by
 unfold cD
 by_cases h : k.length = 32
 ·
  rw [if_neg (by omega), if_neg (by simp), if_pos h]
 ·
  rw [if_pos h, if_neg h]
theorem aHU {X : Nat → Prop} {w : World} {s : Value} {lb : List UInt8} (hX : cY X w) (bU : aJ X (bJ s lb) w) (hl : lb.length ≤ 9223372036854775807) :
  bC prog 133 [s].toArray w fun v w' => v = .tuple [.agg (kc (kD lb)).toArray, .int .i64 (cD lb [])].toArray ∧ Out Nil w w' := by
 by_cases h : lb.length = 32
 ·
  have := VJ hX bU h
  rw [iK, if_pos h, show kD lb = lb from if_pos h]; exact this
 ·
  have := Z6 hX bU h hl
  rw [iK, if_neg h, show kD lb = rL from if_neg h]; exact this
theorem dV.rd0 {w : World} {bf : Nat} {op : List UInt8} {ix code : Int} (h : aN w bf 221 (dV op ix code)) : dA w ⟨bf, 0, none⟩ [pW op] := aN.aF h (o := 0) ⟨[], [.int .i64 ix, .iface 42 (.int .i64 code)], rfl, rfl⟩ rfl
theorem dV.rd1 {w : World} {bf : Nat} {op : List UInt8} {ix code : Int} (h : aN w bf 221 (dV op ix code)) : dA w ⟨bf, 1, none⟩ [.int .i64 ix] := aN.aF h (o := 1) ⟨[pW op], [.iface 42 (.int .i64 code)], rfl, rfl⟩ rfl
theorem dV.rd2 {w : World} {bf : Nat} {op : List UInt8} {ix code : Int} (h : aN w bf 221 (dV op ix code)) : dA w ⟨bf, 2, none⟩ [.iface 42 (.int .i64 code)] := aN.aF h (o := 2) ⟨[pW op, .int .i64 ix], [], rfl, rfl⟩ rfl
theorem y9 {X : Nat → Prop} {w : World} {op : List UInt8} {ix code : Int} (hX : cY X w) :
  bC prog 80 [pW op, .int .i64 ix, .iface 42 (.int .i64 code)].toArray w fun v w' => ∃ bf, v = .iface 219 (.pointer (some ⟨bf, 0, none⟩)) ∧ Out Nil w w' ∧ w.heap.size ≤ bf ∧ aN w' bf 221 (dV op ix code) := by
 refine bC.aH (N := 15) func80 rfl rfl (by simp) ?_
 have H := St.begin hX
 refine WE.aA (WL.as rfl rfl (WL.nil (WE.seq (WE.aA (WL.mv rfl rfl ?_)))))
 refine WL.pv (PV.qF rfl (by kernel_rfl) (by exact zH.of)) rfl ?_
 refine WL.nil ?_
 refine WE.bD rfl rfl ?_
 refine WE.skip (WE.aA (WL.mv rfl rfl (WL.mv rfl rfl (WL.mv rfl rfl ?_))))
 refine WL.pv (PV.dM rfl aEt aDN (Fl.cons rfl (rfl) (by simp only [aS, aX, aB]) Laid.head (Fl.cons rfl (rfl) (by simp only [aS, aX, aB]) (Laid.tail Laid.head rfl) (Fl.cons rfl (rfl) (by simp only [aS, aX, aB]) (Laid.tail (Laid.tail Laid.head rfl) rfl) Fl.nil)))) rfl ?_
 refine WL.box (l := dV op ix code) H rfl rfl rfl ?_
 intro b13 w1 H
 refine WL.pv (PV.lF rfl (by kernel_rfl)) rfl (WL.as rfl rfl (WL.nil (WE.ret ⟨[_], _, .nil _, ⟨rfl, trivial⟩, ?_⟩)))
 exact ⟨_, rfl, H.aL, H.kF _ (List.mem_of_getElem? (i := 0) rfl) _ rfl, H.l 0 rfl⟩
theorem JF {X : Nat → Prop} {w : World} {op : List UInt8} {ix code : Int} (hX : cY X w) :
  bC prog 53 [pW op, .int .i64 ix, .int .i64 code].toArray w fun v w' => Out Nil w w' ∧ aJ X (fI op ix code v) w' := by
 refine bC.aH (N := 14) func53 rfl rfl (by simp) ?_
 have H := St.begin hX
 refine WE.aA (WL.as rfl rfl (WL.nil (WE.seq (WE.aA (WL.mv rfl rfl (WL.pv (PV.eql rfl rfl rfl) rfl (WL.nil ?_)))))))
 refine WE.cond rfl (fun lT => ?_) (fun lT => ?_)
 ·
  try simp only [bW] at lT
  have hz : code = 0 := by exact lT
  refine WE.aA (WL.as rfl rfl (WL.nil (WE.ret ⟨[_], _, .nil _, ⟨rfl, trivial⟩, ?_⟩)))
  exact ⟨H.aL, fun _ _ => .inl ⟨hz, rfl⟩⟩
 ·
  try simp only [bW] at lT
  have hz : code ≠ 0 := by exact lT
  refine WE.skip (WE.aA (WL.mv rfl rfl (WL.mv rfl rfl (WL.mv rfl rfl (WL.pv (PV.lF rfl (by kernel_rfl)) rfl ?_)))))
  refine WL.call aFS rfl (y9 (op := op) (ix := ix) (code := code) H.aR  ) ?_
  rintro _ w1 ⟨UK, rfl, hO, hge, hB⟩
  replace H := H.push hO (aP.blk UK 221 (dV op ix code)) hB (fun c hc => by cases hc; exact hge)
  refine WL.as rfl rfl (WL.nil (WE.ret ⟨[_], _, .nil _, ⟨rfl, trivial⟩, ?_⟩))
  replace H := H.freeze (i := 0) rfl
  exact ⟨H.aL, (show aJ X (fun w => aN w UK 221 (dV op ix code)) _ from H.gF (H.bK 0 rfl)).imp fun _ h => .inr ⟨hz, UK, rfl, h⟩⟩
theorem U3 {X : Nat → Prop} {w : World} {bf : Nat} {op : List UInt8} {ix code : Int} (hX : cY X w) (bU : aJ X (fun w => aN w bf 221 (dV op ix code)) w) :
  bC prog 249 [.pointer (some ⟨bf, 0, none⟩)].toArray w fun v w' => v = .iface 42 (.int .i64 code) ∧ Out Nil w w' := by
 refine bC.aH (N := 9) func249 rfl rfl (by simp) ?_
 have H := (St.begin hX).add (cE bU)
 refine WE.aA (WL.as rfl rfl (WL.nil (WE.seq (WE.aA (WL.mv rfl rfl (WL.pv (PV.jP rfl aAB rfl rfl) rfl (WL.nil ?_)))))))
 refine WE.bD rfl rfl ?_
 refine WE.skip (WE.aA (WL.mv rfl rfl (WL.pv (PV.nilCheck rfl rfl) rfl (WL.pv (PV.fieldAddr rfl LO rfl) rfl (WL.aY rfl aHD rfl rfl ((dV.rd2 (H.p 0 rfl))) (WL.as rfl rfl (WL.nil ?_)))))))
 refine WE.ret ⟨[_], _, .nil _, ⟨rfl, trivial⟩, ?_⟩
 exact ⟨rfl, H.aL⟩
theorem LW {X : Nat → Prop} {w : World} {s sv : Value} {lb vv : List UInt8} (hX : cY X w) (bU : aJ X (bJ s lb) w) (dI : aJ X (bJ sv vv) w) (FA : lb.length ≤ 9223372036854775807) (hvv : vv.length ≤ 9223372036854775807) :
  bC prog 89 [s, sv].toArray w fun v w' => v = .tuple [.agg (kc (kD lb) ++ [sv]).toArray, .int .i64 (cD lb vv)].toArray ∧ Out Nil w w' := by
 refine bC.aH (N := 24) func89 rfl rfl (by simp) ?_
 have H := ((St.begin hX).add (cE dI)).add (cE bU)
 have wE : sv.oneCell' = true := cN.fX (dI.here)
 have PH := n5 lb
 have R9 := iK lb
 refine WE.aA ?_
 refine WL.alloc H rfl kL rfl ?_
 intro b4 w1 H
 refine WL.as rfl rfl (WL.nil (WE.aA (WL.mv rfl rfl ?_)))
 refine WL.call aGR rfl (aHU (lb := lb) H.aR (by exact (H.bK 0 rfl : aJ _ (bJ s lb) _)) FA) ?_
 rintro _ w2 ⟨rfl, hO⟩
 replace H := H.out hO
 refine WL.mv rfl rfl (WL.pv (PV.extract rfl rfl rfl) rfl (WL.pv (PV.extract rfl rfl rfl) rfl ?_))
 refine WL.alloc H rfl qY rfl ?_
 intro b6 w3 H
 refine WL.aW H 0 rfl rfl rfl (new := kc (kD lb)) rfl (cK cL (by simp only [aS, aX, aB]; omega)) (bG _) (Laid.at (Laid.all (by simp only [aS, aX, aB]; omega)) rfl) rfl ?_
 intro w4 H
 refine WL.as rfl rfl (WL.nil (WE.seq (WE.aA (WL.mv rfl rfl (WL.pv (PV.eql rfl rfl rfl) rfl (WL.mv rfl rfl ?_))))))
 refine WL.split (t := 15) rfl (fun s8 => ?_) (fun s8 => ?_)
 ·
  refine WL.known (t := 14) (c := true) rfl s8 ?_
  try simp only [bW] at s8
  have hok : cD lb [] = 0 := by exact s8
  have G9 : lb.length = 32 := (dL.1 hok).1
  refine WL.mv rfl rfl ?_
  refine WL.pv (PV.dR (by exact (H.p 1 rfl : (bJ sv vv) _)) eM rfl) rfl ?_
  refine WL.pv (PV.gtr rfl rfl rfl) rfl (WL.pv (PV.dP rfl rfl rfl) rfl (WL.nil ?_))
  refine WE.cond rfl (fun j4 => ?_) (fun j4 => ?_)
  ·
   try simp only [bW] at j4
   have hrn : cD lb vv = 3 := by unfold cD; rw [if_neg (by omega), if_pos (by omega)]
   refine WE.dY (WL.as rfl rfl (WL.nil (WE.aA ?_)))
   refine WL.bE rfl cZ rfl rfl (aN.aF (H.l 0 rfl) (aK.all _) rfl) (cK cL (by simp only [aS, aX, aB]; omega)) ?_
   refine WL.mv rfl rfl ?_
   refine WL.pv (PV.dM rfl xL kL (Fl.cons rfl rfl (by simp only [aS, aX, aB]; omega) (Laid.left (Laid.all (by simp only [aS, aX, aB]; omega))) (Fl.cons rfl (cells_one wE) (by simp only [aS, aX, aB]) (Laid.right (Laid.all (by simp only [aS, aX, aB])) (by simp only [aS, aX, aB]; omega)) Fl.nil))) rfl ?_
   refine WL.mv rfl rfl ?_
   refine WL.aW H 1 rfl rfl rfl (new := kc (kD lb) ++ [sv]) rfl (cK fH (by simp only [aS, aX, aB]; omega)) (bN (bG _) (eE wE)) (Laid.at (Laid.all (by simp only [aS, aX, aB]; omega)) rfl) rfl ?_
   intro w5 H
   refine WL.as rfl rfl (WL.nil (WE.ret ⟨[_, _], _, .nil _, ⟨⟨_, rfl, aU oM (aN.aF (H.l 1 rfl) (aK.all _) rfl) (cK fH (by simp only [aS, aX, aB]; omega))⟩, rfl, trivial⟩, ?_⟩))
   refine ⟨?_, H.aL⟩
   rw [hrn]; rfl
  ·
   try simp only [bW] at j4
   have hrn : cD lb vv = cD lb [] := by rw [hok]; exact dL.2 ⟨G9, by omega⟩
   refine WE.skip (WE.aA ?_)
   refine WL.bE rfl cZ rfl rfl (aN.aF (H.l 0 rfl) (aK.all _) rfl) (cK cL (by simp only [aS, aX, aB]; omega)) ?_
   refine WL.mv rfl rfl ?_
   refine WL.pv (PV.dM rfl xL kL (Fl.cons rfl rfl (by simp only [aS, aX, aB]; omega) (Laid.left (Laid.all (by simp only [aS, aX, aB]; omega))) (Fl.cons rfl (cells_one wE) (by simp only [aS, aX, aB]) (Laid.right (Laid.all (by simp only [aS, aX, aB])) (by simp only [aS, aX, aB]; omega)) Fl.nil))) rfl ?_
   refine WL.mv rfl rfl ?_
   refine WL.aW H 1 rfl rfl rfl (new := kc (kD lb) ++ [sv]) rfl (cK fH (by simp only [aS, aX, aB]; omega)) (bN (bG _) (eE wE)) (Laid.at (Laid.all (by simp only [aS, aX, aB]; omega)) rfl) rfl ?_
   intro w6 H
   refine WL.as rfl rfl (WL.nil (WE.ret ⟨[_, _], _, .nil _, ⟨⟨_, rfl, aU oM (aN.aF (H.l 1 rfl) (aK.all _) rfl) (cK fH (by simp only [aS, aX, aB]; omega))⟩, rfl, trivial⟩, ?_⟩))
   refine ⟨?_, H.aL⟩
   rw [hrn]; rfl
 ·
  refine WL.known (t := 14) (c := false) rfl s8 ?_
  try simp only [bW] at s8
  have hok : ¬ cD lb [] = 0 := by exact s8
  have G9 : lb.length ≠ 32 := fun h => hok (dL.2 ⟨h, by simp⟩)
  have hrn : cD lb vv = cD lb [] := by rw [R9, if_neg G9]; exact if_pos G9
  refine WL.off rfl (WL.off rfl (WL.off rfl (WL.pv (PV.dF rfl rfl rfl) rfl (WL.nil (WE.jB rfl (WE.skip (WE.aA ?_)))))))
  refine WL.bE rfl cZ rfl rfl (aN.aF (H.l 0 rfl) (aK.all _) rfl) (cK cL (by simp only [aS, aX, aB]; omega)) ?_
  refine WL.mv rfl rfl ?_
  refine WL.pv (PV.dM rfl xL kL (Fl.cons rfl rfl (by simp only [aS, aX, aB]; omega) (Laid.left (Laid.all (by simp only [aS, aX, aB]; omega))) (Fl.cons rfl (cells_one wE) (by simp only [aS, aX, aB]) (Laid.right (Laid.all (by simp only [aS, aX, aB])) (by simp only [aS, aX, aB]; omega)) Fl.nil))) rfl ?_
  refine WL.mv rfl rfl ?_
  refine WL.aW H 1 rfl rfl rfl (new := kc (kD lb) ++ [sv]) rfl (cK fH (by simp only [aS, aX, aB]; omega)) (bN (bG _) (eE wE)) (Laid.at (Laid.all (by simp only [aS, aX, aB]; omega)) rfl) rfl ?_
  intro w7 H
  refine WL.as rfl rfl (WL.nil (WE.ret ⟨[_, _], _, .nil _, ⟨⟨_, rfl, aU oM (aN.aF (H.l 1 rfl) (aK.all _) rfl) (cK fH (by simp only [aS, aX, aB]; omega))⟩, rfl, trivial⟩, ?_⟩))
  refine ⟨?_, H.aL⟩
  rw [hrn]; rfl
theorem wW {X : Nat → Prop} {w : World} {bt : Nat} {op : List UInt8} {s sv : Value} {lb vv : List UInt8} (hX : cY X w) (bU : aJ X (bJ s lb) w) (dI : aJ X (bJ sv vv) w) (FA : lb.length ≤ 9223372036854775807) (hvv : vv.length ≤ 9223372036854775807) :
  bC prog 49 [.pointer (some ⟨bt, 0, none⟩), pW op, s, sv].toArray w fun v w' => ∃ ev, v = .tuple [.agg (kc (kD lb) ++ [sv]).toArray, ev].toArray ∧ Out Nil w w' ∧ aJ X (fI op 0 (cD lb vv) ev) w' := by
 refine bC.aH (N := 27) func49 rfl rfl (by simp) ?_
 have H := ((St.begin hX).add (cE dI)).add (cE bU)
 have wE : sv.oneCell' = true := cN.fX (dI.here)
 have PH := n5 lb
 refine WE.aA ?_
 refine WL.alloc H rfl kL rfl ?_
 intro b8 w1 H
 refine WL.as rfl rfl (WL.nil (WE.seq (WE.aA (WL.mv rfl rfl (WL.pv (PV.jP rfl H9 rfl rfl) rfl (WL.nil ?_))))))
 refine WE.bD rfl rfl ?_
 refine WE.skip (WE.aA (WL.mv rfl rfl (WL.mv rfl rfl ?_)))
 refine WL.call aFQ rfl (LW (lb := lb) (vv := vv) H.aR (by exact H.bK 0 rfl) (by exact H.bK 1 rfl) (by assumption) (by assumption)) ?_
 rintro _ w2 ⟨rfl, hO⟩
 replace H := H.out hO
 refine WL.mv rfl rfl (WL.pv (PV.extract rfl rfl rfl) rfl (WL.pv (PV.extract rfl rfl rfl) rfl ?_))
 refine WL.alloc H rfl kL rfl ?_
 intro u0 w3 H
 refine WL.aW H 0 rfl rfl rfl (new := _) rfl (cK fH (by simp only [aS, aX, aB]; omega)) (bN (bG _) (eE wE)) (Laid.at (Laid.all (by simp only [aS, aX, aB]; omega)) rfl) rfl ?_
 intro w4 H
 refine WL.as rfl rfl (WL.nil ?_)
 refine WE.bH (.take 0 (.take 1 (.take 2 (.aG 3 (.aG 4 (.take 5 .done)))))) mixed (by kernel_rfl) ?_
 replace H := H.out (Out.drew _)
 refine WP.dN rfl rfl rfl oM rfl (aN.aF (H.l 0 rfl) (aK.all _) rfl) (cK fH (by simp only [aS, aX, aB]; omega)) ?_
 refine WP.mv rfl rfl rfl (WP.mv rfl rfl rfl (WP.aG rfl ?_))
 refine WL.call aCM rfl (JF (op := op) (ix := 0) (code := cD lb vv) H.aR  ) ?_
 rintro v26 w5 ⟨hO, hR⟩
 replace H := (H.out hO).add hR
 refine WL.nil ⟨(fa (fun _ _ => (aN.aF (H.l 0 rfl) (aK.all _) rfl)) c5), ?_⟩
 refine WP.aG rfl ?_
 refine WL.aW H 1 rfl rfl rfl (new := kc (kD lb) ++ [sv]) rfl (cK fH (by simp only [aS, aX, aB]; omega)) (bN (bG _) (eE wE)) (Laid.at (Laid.all (by simp only [aS, aX, aB]; omega)) rfl) rfl ?_
 intro w6 H
 refine WL.nil ⟨(fa (nw 4 0) c5), ?_⟩
 refine WP.as rfl rfl rfl (WP.done (WE.ret ⟨[_, _], _, .nil _, ⟨⟨_, rfl, aU oM (aN.aF (H.l 1 rfl) (aK.all _) rfl) (cK fH (by simp only [aS, aX, aB]; omega))⟩, rfl, trivial⟩, ?_⟩))
 exact ⟨_, rfl, H.aL, H.gF (H.bK 0 rfl)⟩
theorem lY {X : Nat → Prop} {w : World} {bt bh : Nat} {T : Tr} (hX : cY X w) (bU : aJ X (fun w => dA w ⟨bt, 0, none⟩ [.pointer (some ⟨bh, 0, none⟩), T.ptr]) w) :
  bC prog 10 [.pointer (some ⟨bt, 0, none⟩)].toArray w fun v w' => v = .pointer (some ⟨bh, 0, none⟩) ∧ Out Nil w w' := by
 refine bC.aH (N := 9) func10 rfl rfl (by simp) ?_
 have H := (St.begin hX).add (cE bU)
 refine WE.aA (WL.as rfl rfl (WL.nil (WE.seq (WE.aA (WL.mv rfl rfl (WL.pv (PV.jP rfl H9 rfl rfl) rfl (WL.nil ?_)))))))
 refine WE.bD rfl rfl ?_
 refine WE.skip (WE.aA (WL.mv rfl rfl (WL.pv (PV.nilCheck rfl rfl) rfl (WL.pv (PV.fieldAddr rfl yF rfl) rfl ?_))))
 refine WL.aY rfl vX rfl rfl (by exact dA.at_ (o := 0) (H.p 0 rfl) rfl rfl) ?_
 refine WL.as rfl rfl (WL.nil (WE.ret ⟨[_], _, .nil _, ⟨rfl, trivial⟩, ?_⟩))
 exact ⟨rfl, H.aL⟩
theorem MH {X : Nat → Prop} {w : World} {bt bh : Nat} {T : Tr} (hX : cY X w) (bU : aJ X (fun w => dA w ⟨bt, 0, none⟩ [.pointer (some ⟨bh, 0, none⟩), T.ptr]) w) :
  bC prog 11 [.pointer (some ⟨bt, 0, none⟩)].toArray w fun v w' => v = T.ptr ∧ Out Nil w w' := by
 refine bC.aH (N := 9) func11 rfl rfl (by simp) ?_
 have H := (St.begin hX).add (cE bU)
 refine WE.aA (WL.as rfl rfl (WL.nil (WE.seq (WE.aA (WL.mv rfl rfl (WL.pv (PV.jP rfl H9 rfl rfl) rfl (WL.nil ?_)))))))
 refine WE.bD rfl rfl ?_
 refine WE.skip (WE.aA (WL.mv rfl rfl (WL.pv (PV.nilCheck rfl rfl) rfl (WL.pv (PV.fieldAddr rfl pC rfl) rfl ?_))))
 refine WL.aY rfl iL rfl rfl (by exact dA.at_ (o := 1) (H.p 0 rfl) rfl rfl) ?_
 refine WL.as rfl rfl (WL.nil (WE.ret ⟨[_], _, .nil _, ⟨rfl, trivial⟩, ?_⟩))
 exact ⟨rfl, H.aL⟩
theorem DH {X : Nat → Prop} {w : World} {bt bh bc : Nat} {bits c0 : Int} {T : Tr} (hX : cY X w) (eY : aN w bc 213 ([.int .i64 c0])) (bU : aJ (fun c_ => X c_ ∨ c_ = bc) (fun w => dA w ⟨bt, 0, none⟩ [.pointer (some ⟨bh, 0, none⟩), T.ptr]) w) (dI : aJ (fun c_ => X c_ ∨ c_ = bc) (fQ bh bc bits) w) (fU : aJ (fun c_ => X c_ ∨ c_ = bc) (cW bits T) w) (jY : aJ (fun c_ => X c_ ∨ c_ = bc) (aZ) w) (bS : 0 ≤ bits ∧ bits ≤ 256) :
  bC prog 13 [.pointer (some ⟨bt, 0, none⟩)].toArray w fun v w' => ∃ m : Int, v = .agg (kc (T.er.nO bits)).toArray ∧ Out (· = bc) w w' ∧ aN w' bc 213 [.int .i64 m] := by
 refine bC.aH (N := 15) func13 rfl rfl (by simp) ?_
 have H := ((((St.dG (b := bc) (t := 213) (l := [.int .i64 c0]) hX eY).add (cC jY)).add (cC fU)).add (cC dI)).add (cC bU)
 refine WE.aA ?_
 refine WL.alloc H rfl k6 rfl ?_
 intro b2 w1 H
 refine WL.nil (WE.seq (WE.aA (WL.mv rfl rfl (WL.pv (PV.jP rfl H9 rfl rfl) rfl (WL.nil ?_)))))
 refine WE.bD rfl rfl ?_
 refine WE.skip ?_
 refine WE.bH (.take 0 (.take 1 (.take 2 (.take 3 (.take 4 (.take 5 (.take 6 (.take 7 (.aG 8 (.aG 9 .done)))))))))) mixed (by kernel_rfl) ?_
 replace H := H.out (Out.drew _)
 refine WP.mv rfl rfl rfl (WP.aC rfl rfl (PV.nilCheck rfl rfl) (WP.aC rfl rfl (PV.fieldAddr rfl yF rfl) ?_))
 refine WP.aM rfl rfl (RV.aV rfl vX rfl) (by exact dA.at_ (o := 0) (H.p 0 rfl) rfl rfl) ?_
 refine WP.mv rfl rfl rfl (WP.aC rfl rfl (PV.nilCheck rfl rfl) (WP.aC rfl rfl (PV.fieldAddr rfl pC rfl) ?_))
 refine WP.aM rfl rfl (RV.aV rfl iL rfl) (by exact dA.at_ (o := 1) (H.p 0 rfl) rfl rfl) ?_
 refine WP.aG rfl ?_
 refine WL.call N4 rfl (qI (T := T) (bits := bits) H.aR (H.o 0 rfl) (by exact H.aO 0 rfl 1 rfl) (by exact H.aO 0 rfl 2 rfl) (by exact H.aO 0 rfl 3 rfl) (by assumption)) ?_
 rintro _ w2 ⟨aKP, rfl, hO, hB⟩
 replace H := H.fA 0 rfl hO hB
 refine WL.nil ⟨(fa (nw 8 7) (fa (nw 8 3) c5)), ?_⟩
 refine WP.aG rfl ?_
 refine WL.aW H 0 rfl rfl rfl (new := kc (T.er.nO bits)) rfl (cK c9 (by simp only [aS, aX, aB])) (bG _) (Laid.at (Laid.all (by simp only [aS, aX, aB])) rfl) rfl ?_
 intro w3 H
 refine WL.nil ⟨(fa (nw 9 7) (fa (nw 9 3) c5)), ?_⟩
 refine WP.done (WE.ret ⟨[_], _, .nil _, ⟨⟨_, rfl, aU fO (aN.aF (H.l 0 rfl) (aK.all _) rfl) (cK c9 (by simp only [aS, aX, aB]))⟩, trivial⟩, ?_⟩)
 exact ⟨_, rfl, H.cR, H.o 0 rfl⟩
theorem U5 {X : Nat → Prop} {w : World} {i : Int} (hX : cY X w) (hi : 0 ≤ i ∧ i ≤ 256) :
  bC prog 29 [.int .i64 i].toArray w fun v w' => ∃ bt bh bc, v = .tuple [.pointer (some ⟨bt, 0, none⟩), .int .i64 0].toArray ∧ Out Nil w w' ∧ w.heap.size ≤ bt ∧ w.heap.size ≤ bc ∧ bt ≠ bc ∧ aN w' bt 90 [.pointer (some ⟨bh, 0, none⟩), .pointer none] ∧ aN w' bc 213 [.int .i64 0] ∧ aJ (fun c => X c ∨ c = bt ∨ c = bc) (fQ bh bc i) w' := by
 refine bC.aH (N := 17) func29 rfl rfl (by simp) ?_
 have H := St.begin hX
 refine WE.aA (WL.as rfl rfl (WL.as rfl rfl (WL.nil (WE.aA (WL.mv rfl rfl ?_)))))
 refine WL.call aJE rfl (aHV (i := i) H.aR  (by assumption)) ?_
 rintro _ w1 ⟨aJ8, aKa, rfl, hO, hge, hB, hR⟩
 replace H := H.Q7 hO (aP.blk aKa 213 [.int .i64 0]) hB (fun c hc => by cases hc; exact hge) hR
 refine WL.mv rfl rfl (WL.pv (PV.extract rfl rfl rfl) rfl (WL.pv (PV.extract rfl rfl rfl) rfl (WL.as rfl rfl (WL.as rfl rfl (WL.nil (WE.seq (WE.aA ?_)))))))
 refine WL.mv rfl rfl (WL.pv (PV.neq rfl rfl rfl) rfl (WL.nil ?_))
 refine WE.bD rfl rfl ?_
 refine WE.skip (WE.aA (WL.mv rfl rfl ?_))
 refine WL.pv (PV.dM rfl aIr aH9 (Fl.cons rfl (rfl) (by simp only [aS, aX, aB]) Laid.head Fl.nil)) rfl ?_
 refine WL.box (l := [.pointer (some ⟨aJ8, 0, none⟩), .pointer none]) H rfl rfl rfl ?_
 intro b16 w2 H
 refine WL.as rfl rfl (WL.as rfl rfl (WL.nil (WE.ret ⟨[_, _], _, .nil _, ⟨rfl, rfl, trivial⟩, ?_⟩)))
 exact ⟨_, _, _, rfl, H.aL, H.kF _ (List.mem_of_getElem? (i := 0) rfl) _ rfl, H.kF _ (List.mem_of_getElem? (i := 1) rfl) _ rfl, (fun e => e8 H.iM (i := 0) (j := 1) (by decide) rfl rfl _ ⟨rfl, e⟩), H.l 0 rfl, H.l 1 rfl, H.aA0 0 rfl⟩
def pK (T : Tr) (k : List UInt8) : Nat := (T.fin k).er.kind.toNat
theorem aEy (T : Tr) (k : List UInt8) : (T.fin k).er.kind = ((pK T k : Nat) : Int) := by
 unfold pK
 cases (T.fin k).er <;> rfl
theorem O8 {X : Nat → Prop} {w : World} {bits : Int} {T : Tr} {k : List UInt8} (hX : cY X w) (bU : aJ X (cW bits T) w) :
  bC prog 31 [(T.fin k).ptr].toArray w fun v w' => v = .int .i64 ((pK T k : Nat) : Int) ∧ Out Nil w w' := by
 rw [← aEy]
 exact eX hX (bU.imp fun _ h => h.iX _)
theorem aBP {v : Value} {T : Tr} {k : List UInt8} {n i : Nat} {w : World} (h : kK v (oV T k n) w) (hi : i < n) : dA w (jN v (i * 1)) [(pX T k i).ptr] := by
 have h2 := kK.rd h i (by rw [pY]; exact hi)
 rw [QL] at h2
 exact h2
theorem EO (T : Tr) (k : List UInt8) (i : Nat) : o5 T k (i + 1) = if AV T k i then pG (o5 T k i) i else o5 T k i := rfl
theorem Z4 {X : Nat → Prop} {w : World} {bh bc : Nat} {bits n0 : Int} {T : Tr} {k : List UInt8} (hX : cY X w) (eY : aN w bc 213 ([.int .i64 n0])) (bU : aJ (fun c_ => X c_ ∨ c_ = bc) (fQ bh bc bits) w) (dI : aJ (fun c_ => X c_ ∨ c_ = bc) (cW bits T) w) (fU : aJ (fun c_ => X c_ ∨ c_ = bc) (aZ) w) (bS : 0 ≤ bits ∧ bits ≤ 256) (hk : k.length = 32) (hfit : T.er.fit 0) :
  bC prog 9 [.pointer (some ⟨bh, 0, none⟩), T.ptr, .agg (kc k).toArray].toArray w fun v w' => ∃ (m : Int) (sl : Value), v = .agg (fT (pK T k) (T.dp k 0) (T.fin k).key ((T.fin k).vd bits) (o5 T k (T.dp k 0)) sl).toArray ∧ Out (· = bc) w w' ∧ aN w' bc 213 [.int .i64 m] ∧ aJ (fun c => X c ∨ c = bc) (fB sl (iY bits T k (T.dp k 0))) w' := by
 refine bC.aH (N := 52) func9 rfl rfl (by simp) ?_
 have H := (((St.dG (b := bc) (t := 213) (l := [.int .i64 n0]) hX eY).add (cC fU)).add (cC dI)).add (cC bU)
 have DQ := Tr.yM (k := k) _ 0 T rfl hfit (by omega)
 have hfk := cW.gY (show cW bits (T.fin k) w from (dI.here).iX _)
 have hvd := Tr.aT bits (T.fin k)
 refine WE.aA ?_
 refine WL.box (l := kc k) H rfl rfl rfl ?_
 intro b5 w1 H
 refine WL.alloc H rfl DW rfl ?_
 intro b6 w2 H
 refine WL.nil (WE.aA (WL.mv rfl rfl ?_))
 refine WL.bE rfl cZ rfl rfl (aN.aF (H.l 1 rfl) (aK.all _) rfl) (cK cL (by simp only [aS, aX, aB, Tr.aT, bR, bL, aD]; omega)) ?_
 refine WL.call ZB rfl (tL (T := T) (k := k) (bits := bits) H.aR (by exact (H.bK 1 rfl : aJ _ (cW bits T) _)) hk hfit) ?_
 rintro _ w3 ⟨rfl, hO⟩
 replace H := H.out hO
 refine WL.mv rfl rfl (WL.pv (PV.extract rfl rfl rfl) rfl (WL.pv (PV.extract rfl rfl rfl) rfl (WL.as rfl rfl (WL.as rfl rfl (WL.nil (WE.aA (WL.mv rfl rfl ?_)))))))
 refine WL.call lX rfl (O8 (T := T) (k := k) (bits := bits) H.aR (by exact (H.bK 1 rfl : aJ _ (cW bits T) _))) ?_
 rintro _ w4 ⟨rfl, hO⟩
 replace H := H.out hO
 refine WL.mv rfl rfl (WL.mv rfl rfl ?_)
 refine WL.call FT rfl (nB (T := T.fin k) (bits := bits) H.aR (by exact (H.bK 1 rfl : aJ _ (cW bits T) _).imp fun _ h => h.iX _)) ?_
 rintro _ w5 ⟨rfl, hO⟩
 replace H := H.out hO
 refine WL.pv (PV.dM rfl aBZ DW (Fl.cons rfl rfl (by simp only [aS, aX, aB, Tr.aT, bR, bL, aD]) (Laid.left (Laid.all (by simp only [aS, aX, aB, Tr.aT, bR, bL, aD]))) (Fl.cons rfl rfl (by simp only [aS, aX, aB, Tr.aT, bR, bL, aD]) (Laid.right (Laid.left (Laid.all (by simp only [aS, aX, aB, Tr.aT, bR, bL, aD]))) (by simp only [aS, aX, aB, Tr.aT, bR, bL, aD])) (Fl.cons rfl rfl (by simp only [aS, aX, aB, Tr.aT, bR, bL, aD]; omega) (Laid.right (Laid.right (Laid.left (Laid.all (by simp only [aS, aX, aB, Tr.aT, bR, bL, aD]; omega))) rfl) (by simp only [aS, aX, aB, Tr.aT, bR, bL, aD])) Fl.nil)))) rfl ?_
 refine WL.alloc H rfl DW rfl ?_
 intro b9 w6 H
 refine WL.aW H 0 rfl rfl rfl (new := fT (pK T k) (T.dp k 0) (T.fin k).key ((T.fin k).vd bits) ((List.replicate 32 0)) (.slice none 0 0)) rfl (cK k8 (by simp only [aS, aX, aB, Tr.aT, bR, bL, aD]; omega)) (sO rfl) (Laid.at (Laid.all (by simp only [aS, aX, aB, Tr.aT, bR, bL, aD]; omega)) rfl) rfl ?_
 intro w7 H
 replace H := H.kS 30 32
 refine WL.nil (WE.aA ?_)
 refine WL.alloc H rfl MM rfl ?_
 intro u0 w8 H
 replace H := H.perm (List.Perm.swap _ _ _)
 obtain ⟨z6, hz6⟩ : ∃ z6 : List Value, z6 = [.int .i64 0] ++ ([.int .i64 0] ++ ((kc (List.replicate 32 0) ++ kc (List.replicate 32 0)) ++ (kc (List.replicate 32 0) ++ [.slice none 0 0]))) := ⟨_, rfl⟩
 have aKR : z6.length = 99 := by rw [hz6]; rfl
 rw [← hz6] at H
 refine WL.nil (WE.seq (WE.aA (WL.mv rfl rfl ?_)))
 refine WL.bE rfl cZ rfl rfl (aN.aF (H.l 4 rfl) (aK.all _) rfl) (cK cL (by simp only [aS, aX, aB, Tr.aT, bR, bL, aD]; omega)) ?_
 refine WL.call aJT rfl (JW (T := T) (k := k) (bits := bits) H.aR (by exact (H.bK 1 rfl : aJ _ (cW bits T) _)) hk hfit) ?_
 rintro v27 w9 ⟨hO, hR⟩
 replace H := (H.out hO).add hR
 refine WL.pv (PV.dR (by exact (H.p 0 rfl : (kK v27 (oV T k (T.dp k 0))) _)) QK rfl) rfl ?_
 refine WL.mv rfl rfl (WL.nil (WE.block ?_))
 refine WE.loop (α := Nat × Value × Int) (rg [(11, 2), (29, 20)]) (fun p => [(29, .int .i64 (p.1 : Int))]) (fun p wl => p.1 ≤ T.dp k 0 ∧ St X w wl [aP.blk bc 213 [.int .i64 p.2.2]] [aP.hU w.heap.size p.2.1 30 32 (iY bits T k (p.1)).length ((iY bits T k (p.1)).flatMap kc), aP.blk u0 85 (kc (o5 T k (p.1))), aP.blk b9 35 (fT (pK T k) (T.dp k 0) (T.fin k).key ((T.fin k).vd bits) ((List.replicate 32 0)) p.2.1), aP.blk b6 35 z6, aP.blk b5 24 (kc k)] [kK v27 (oV T k (T.dp k 0)), fQ bh bc bits, cW bits T, aZ]) (fun p => T.dp k 0 - p.1) (0, .slice none 0 0, n0) ⟨rfl, trivial⟩ ⟨Nat.zero_le _, H⟩ ?_
 intro ⟨i, q, m⟩ γ0 tM hI
 try dsimp only at hI
 obtain ⟨hi, H⟩ := hI
 refine WE.aA (WL.pv (PV.lss rfl rfl rfl) rfl (WL.nil (WE.seq ?_)))
 refine WE.cond rfl (fun SX => ?_) (fun SX => ?_)
 ·
  try simp only [bW] at SX
  have hlt : i < T.dp k 0 := by (rw [pY] at SX; omega)
  have vS := Q8 bits T k i
  have hbl := bR T k i
  refine WE.skip ?_
  refine WE.cut (α := Value × Int) (rg [(11, 2), (31, 17)]) (fun ⟨q1, m1⟩ => []) (fun ⟨q1, m1⟩ wl => St X w wl [aP.blk bc 213 [.int .i64 m1]] [aP.hU w.heap.size q1 30 32 (iY bits T k (i + 1)).length ((iY bits T k (i + 1)).flatMap kc), aP.blk u0 85 (kc (o5 T k (i + 1))), aP.blk b9 35 (fT (pK T k) (T.dp k 0) (T.fin k).key ((T.fin k).vd bits) ((List.replicate 32 0)) q1), aP.blk b6 35 z6, aP.blk b5 24 (kc k)] [kK v27 (oV T k (T.dp k 0)), fQ bh bc bits, cW bits T, aZ]) ?_ ?_
  ·
   refine WE.block (WE.aA (WL.mv rfl rfl ?_))
   refine WL.pv (PV.eA rfl (by exact (H.p 0 rfl : (kK v27 (oV T k (T.dp k 0))) _)) QK l5 rfl rfl (by omega) (by rw [pY]; omega)) rfl ?_
   refine WL.aY rfl iL rfl rfl ((aBP (by exact (H.p 0 rfl : (kK v27 (oV T k (T.dp k 0))) _)) hlt)) ?_
   refine WL.as rfl rfl (WL.as rfl rfl (WL.nil (WE.aA (WL.mv rfl rfl ?_))))
   refine WL.call lX rfl (eX (T := pX T k i) (bits := bits) H.aR (by exact (H.bK 2 rfl : aJ _ (cW bits T) _).imp fun _ h => (h.iX i).beside)) ?_
   rintro _ wT ⟨rfl, hO⟩
   replace H := H.out hO
   refine WL.pv (PV.neq rfl rfl rfl) rfl (WL.nil ?_)
   refine WE.cond rfl (fun pA => ?_) (fun pA => ?_)
   ·
    try simp only [bW] at pA
    have hnz : AV T k i = true := decide_eq_true (by exact pA)
    refine WE.aA ?_
    refine WL.bE rfl mP rfl rfl (aN.aF (H.l 1 rfl) (aK.all _) rfl) (cK j0 (by simp only [aS, aX, aB, Tr.aT, bR, bL, aD])) ?_
    refine WL.mv rfl rfl ?_
    refine WL.call aJS rfl (aAj (B := o5 T k i) (d := i) H.aR  (by assumption) (by omega)) ?_
    rintro _ G2 ⟨rfl, hO⟩
    replace H := H.out hO
    refine WL.aW H 1 rfl rfl rfl (new := kc (pG (o5 T k i) i)) rfl (cK j0 (by simp only [aS, aX, aB, Tr.aT, bR, bL, aD])) (bG _) (Laid.at (Laid.all (by simp only [aS, aX, aB, Tr.aT, bR, bL, aD])) rfl) rfl ?_
    intro D4 H
    refine WL.nil ?_
    refine WE.draw (.take 0 (.take 1 (.take 2 (.take 3 (.aG 4 (.aG 5 (.aG 6 (.take 7 (.aG 8 .done))))))))) mixed (by kernel_rfl) ?_
    replace H := H.out (Out.drew _)
    refine WP.aC rfl rfl (PV.fieldAddr rfl nH rfl) ?_
    refine WP.aM rfl rfl (RV.aV rfl u5 rfl) (aN.aF (H.l 2 rfl) (aK.r (aK.r (aK.r (aK.r (aK.all _) rfl) rfl) rfl) rfl) (by simp [aI, aQ, *])) ?_
    refine WP.mv rfl rfl rfl (WP.mv rfl rfl rfl (WP.aG rfl ?_))
    refine WL.call N4 rfl (qI (T := pX T k i) (bits := bits) H.aR (H.o 0 rfl) (by exact (H.aO 0 rfl 1 rfl : aJ _ (fQ bh bc bits) _)) (by exact (H.aO 0 rfl 2 rfl : aJ _ (cW bits T) _).imp fun _ h => (h.iX i).beside) (by exact (H.aO 0 rfl 3 rfl : aJ _ (aZ) _)) bS) ?_
    rintro _ KG ⟨m44, rfl, hO, hB⟩
    replace H := H.fA 0 rfl hO hB
    refine WL.nil ⟨(fa (fun _ _ => (aN.aF (H.l 2 rfl) (aK.r (aK.r (aK.r (aK.r (aK.all _) rfl) rfl) rfl) rfl) (by simp [aI, aQ, *]))) c5), ?_⟩
    refine WP.aG rfl ?_
    refine WL.bB (l0 := (kc (List.replicate 32 0))) H rfl EA (by decide) rfl (Fl.cons rfl rfl (by simp only [aS, aX, aB, Tr.aT, bR, bL, aD]) (Laid.all (by simp only [aS, aX, aB, Tr.aT, bR, bL, aD])) Fl.nil) rfl ?_
    intro b45 PD H
    refine WL.nil ⟨(fa (fun _ _ => (aN.aF (H.l 3 rfl) (aK.r (aK.r (aK.r (aK.r (aK.all _) rfl) rfl) rfl) rfl) (by simp [aI, aQ, *]))) c5), ?_⟩
    refine WP.aG rfl ?_
    refine WL.append (m := 1) H 1 EA (by decide) rfl rfl rfl (cN.bZ (n := 1) (H.l 0 rfl) (by rw [aI]; exact eT _ _)) (bG _) (by omega) (by decide) rfl ?_
    intro v46 P7 H
    replace H := H.forget 0
    refine WL.nil ⟨(fa (nw 6 1) c5), ?_⟩
    refine WP.aC rfl rfl (PV.fieldAddr rfl nH rfl) (WP.aG rfl ?_)
    refine WL.aW H 2 rfl rfl rfl (new := _) (cells_one (jE (H.l 0 rfl))) (by exact aBK) (eE (jE (H.l 0 rfl))) (Laid.at (Laid.right (Laid.right (Laid.right (Laid.right (Laid.all (by simp only [aS, aX, aB, Tr.aT, bR, bL, aD])) rfl) rfl) rfl) rfl) (by simp [aI, aQ, *])) rfl ?_
    intro P6 H
    replace H := H.conv (L' := [aP.hU w.heap.size v46 30 32 (iY bits T k (i + 1)).length ((iY bits T k (i + 1)).flatMap kc), aP.blk u0 85 (kc (o5 T k (i + 1))), aP.blk b9 35 (fT (pK T k) (T.dp k 0) (T.fin k).key ((T.fin k).vd bits) ((List.replicate 32 0)) v46), aP.blk b6 35 z6, aP.blk b5 24 (kc k)]) (by rw [EO, if_pos hnz, AM, if_pos hnz, List.length_append, List.flatMap_append, List.flatMap_singleton]; rfl)
    refine WL.nil ⟨(fa (nw 8 1) c5), ?_⟩
    refine WP.done ?_
    exact ⟨(v46, m44), (by repeat (first | with_reducible exact bM.refl _ _ | refine bM.dD rfl ?_)), trivial, rfl, H⟩
   ·
    try simp only [bW] at pA
    have hnz : ¬ AV T k i = true := by unfold AV; rw [decide_eq_true_iff]; exact fun h => h pA
    replace H := H.conv (L' := [aP.hU w.heap.size q 30 32 (iY bits T k (i + 1)).length ((iY bits T k (i + 1)).flatMap kc), aP.blk u0 85 (kc (o5 T k (i + 1))), aP.blk b9 35 (fT (pK T k) (T.dp k 0) (T.fin k).key ((T.fin k).vd bits) ((List.replicate 32 0)) q), aP.blk b6 35 z6, aP.blk b5 24 (kc k)]) (by rw [EO, if_neg hnz, AM, if_neg hnz])
    refine WE.skip ?_
    exact ⟨(q, m), (by repeat (first | with_reducible exact bM.refl _ _ | refine bM.dD rfl ?_)), trivial, rfl, H⟩
  ·
   intro ⟨q1, m1⟩ γ P5 hI
   try dsimp only at hI
   replace H := hI
   refine WE.dY (WL.pv (PV.eq (v' := .int .i64 ((i + 1 : Nat) : Int)) (PV.bT rfl rfl rfl (by omega) (by omega)) rfl) rfl (WL.mv rfl rfl (WL.nil ?_)))
   exact ⟨(i + 1, q1, m1), (by repeat (first | with_reducible exact bM.refl _ _ | refine bM.dD rfl ?_ | refine bM.bY rfl ?_ | refine bM.bV rfl ?_)), ⟨rfl, trivial⟩, rfl, ⟨by dsimp only; omega, H⟩, (by dsimp only; omega)⟩
 ·
  try simp only [bW] at SX
  have tO : i = T.dp k 0 := by (rw [pY] at SX; omega)
  refine WE.exit (WE.aA ?_)
  refine WL.bE rfl mP rfl rfl (aN.aF (H.l 1 rfl) (aK.all _) rfl) (cK j0 (by simp only [aS, aX, aB, Tr.aT, bR, bL, aD])) ?_
  refine WL.pv (PV.fieldAddr rfl qE rfl) rfl ?_
  refine WL.aW H 2 rfl rfl rfl (new := _) rfl (cK vN (by simp only [aS, aX, aB, Tr.aT, bR, bL, aD])) (bG _) (Laid.at (Laid.right (Laid.right (Laid.right (Laid.left (Laid.all (by simp only [aS, aX, aB, Tr.aT, bR, bL, aD]))) rfl) rfl) rfl) (by simp [aI, aQ, *])) rfl ?_
  intro w19 H
  refine WL.nil (WE.aA ?_)
  refine WL.bE rfl nJ rfl rfl (aN.aF (H.l 2 rfl) (aK.all _) rfl) (cK k8 (by simp only [aS, aX, aB, Tr.aT, bR, bL, aD]; omega)) ?_
  refine WL.aW H 3 rfl rfl rfl (new := fT (pK T k) (T.dp k 0) (T.fin k).key ((T.fin k).vd bits) (o5 T k i) q) rfl (cK k8 (by simp only [aS, aX, aB, Tr.aT, bR, bL, aD]; omega)) (sO (jE (H.l 0 rfl))) (Laid.at (Laid.all (by simp only [aS, aX, aB, Tr.aT, bR, bL, aD]; omega)) rfl) rfl ?_
  intro w20 H
  refine WL.nil (WE.ret ⟨[_], _, .nil _, ⟨⟨_, rfl, aU nJ (aN.aF (H.l 3 rfl) (aK.all _) rfl) (cK k8 (by simp only [aS, aX, aB, Tr.aT, bR, bL, aD]; omega))⟩, trivial⟩, ?_⟩)
  subst tO
  replace H := H.freeze (i := 0) rfl
  exact ⟨_, q, rfl, H.cR, H.o 0 rfl, (H.fV (H.bK 0 rfl)).imp fun _ h => cN.dJ h⟩
end Go.Sp.Tryz
