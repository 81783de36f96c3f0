/- Part of the proof of this claim: walks through the program's functions and the plain laws that they need, printed by a program of this session. -/
import Derived.Test.YthkombhebdjamaaGreatDoorP2
import Derived.Test.YthkombhebdjamaaGreatDoorIns
import Derived.LaidEqlPtr
import Derived.Test.YthkombhebdjamaaGreatDoorErrs
set_option maxRecDepth 100000
set_option maxHeartbeats 1000000
set_option linter.unusedVariables false
set_option linter.unusedSimpArgs false
namespace Go.Sp.Tryz
open Go.Proofs Go.RowKit Go.Sp Go.Sp.TryzT Go.Proofs.Tryz
variable {X : Nat → Prop} {w : World}
def sB : List (List UInt8) → Int
 | a :: b :: r => if iM a b = 0 then 9 else if 0 < iM a b then 8 else sB (b :: r)
 | _ => 0
theorem O2 {l : List (List UInt8)} {i : Nat} (h : i + 1 < l.length) : sB (l.drop i) = if iM l[i] l[i + 1] = 0 then 9 else if 0 < iM l[i] l[i + 1] then 8 else sB (l.drop (i + 1)) := by
 rw [List.drop_eq_getElem_cons (by omega : i < l.length), List.drop_eq_getElem_cons h]
 rfl
theorem U0 {l : List (List UInt8)} {i : Nat} (h : l.length ≤ i + 1) : sB (l.drop i) = 0 := by
 rcases Nat.lt_or_ge i l.length with hl | hl
 ·
  rw [List.drop_eq_getElem_cons hl, List.drop_eq_nil_of_le (by omega)]; rfl
 ·
  rw [List.drop_eq_nil_of_le hl]; rfl
theorem aAJ {X : Nat → Prop} {w : World} {s : Value} {ks : List (List UInt8)} (hX : c6 X w) (bT : aH X (fE s ks) w) (p3 : K32 ks) (hlen : ks.length ≤ 1000000) :
  bC prog 144 [s].toArray w fun v w' => v = .int .i64 (sB ks) ∧ Out Nil w w' := by
 refine bC.aI (N := 27) func144 rfl rfl (by simp) ?_
 have H := (St.begin hX).add (cE bT)
 refine WE.aA (WL.as rfl rfl (WL.nil (WE.seq (WE.aA (WL.as rfl rfl (WL.nil (WE.block ?_)))))))
 refine WE.loop (α := Nat) (rg [(2, 25)]) (fun i => [(3, .int .i64 ((i + 1 : Nat) : Int))]) (fun i wl => i ≤ ks.length ∧ sB (ks.drop i) = sB ks ∧ St X w wl [] [] [fE s ks]) (fun i => ks.length - i) 0 ⟨rfl, trivial⟩ ⟨Nat.zero_le _, rfl, H⟩ ?_
 intro i γ0 w1 hI
 try dsimp only at hI
 obtain ⟨hi, hch, H⟩ := hI
 refine WE.seq (WE.aA (WL.mv rfl rfl (WL.mv rfl rfl (WL.pv (PV.dS (H.p 0 rfl : fE s ks _) xL rfl) rfl (WL.pv (PV.lss rfl rfl rfl) rfl (WL.nil ?_))))))
 refine WE.cond rfl (fun l8 => ?_) (fun l8 => ?_)
 ·
  try simp only [bP] at l8
  have hlt : i + 1 < ks.length := by omega
  have wT := p3 _ (List.getElem_mem (show i < ks.length by omega))
  have HQ := p3 _ (List.getElem_mem hlt)
  have hst := O2 hlt
  refine WE.skip (WE.seq (WE.block ?_))
  refine WE.bG (.take 0 (.take 1 (.take 2 (.take 3 (.take 4 (.take 5 (.take 6 (.take 7 (.take 8 (.aG 9 (.take 10 .done))))))))))) mixed (by kernel_rfl) ?_
  replace H := H.out (Out.drew _)
  refine WP.mv rfl rfl rfl (WP.mv rfl rfl rfl ?_)
  refine WP.aC rfl rfl (PV.eq (v' := .int .i64 ((i : Nat) : Int)) (PV.gE rfl rfl rfl (by omega) (by omega)) (by congr 1; omega)) ?_
  refine WP.aC rfl rfl (PV.dX rfl (H.p 0 rfl : fE s ks _) xL cM rfl rfl (by omega) (by omega)) ?_
  refine WP.dO rfl rfl rfl c7 rfl (fE.rd (H.p 0 rfl : fE s ks _) p3 i (by omega)) (cI cM (by simp only [aS]; omega)) ?_
  refine WP.mv rfl rfl rfl (WP.mv rfl rfl rfl (WP.aC rfl rfl (PV.dX rfl (H.p 0 rfl : fE s ks _) xL cM rfl rfl (by omega) (by omega)) ?_))
  refine WP.dO rfl rfl rfl c7 rfl (fE.rd (H.p 0 rfl : fE s ks _) p3 (i + 1) (by omega)) (cI cM (by simp only [aS]; omega)) ?_
  refine WP.aG rfl ?_
  refine WL.call aC6 rfl (rL (k := ks[i]) (l := ks[i + 1]) H.aR  wT HQ) ?_
  rintro _ w2 ⟨rfl, hO⟩
  replace H := H.out hO
  refine WL.nil ⟨(fa (nw 9 8) (fa (nw 9 4) c8)), ?_⟩
  refine WP.as rfl rfl rfl (WP.done (WE.block (WE.aA (WL.mv rfl rfl (WL.pv (PV.eql rfl rfl rfl) rfl (WL.as rfl rfl (WL.nil ?_)))))))
  refine WE.cond rfl (fun pF => ?_) (fun pF => ?_)
  ·
   try simp only [bP] at pF
   have hz0 : iM ks[i] ks[i + 1] = 0 := by exact pF
   refine WE.aA (WL.as rfl rfl (WL.nil (WE.ret ⟨[_], _, .nil _, ⟨rfl, trivial⟩, ?_⟩)))
   refine ⟨?_, H.aL⟩
   rw [← hch, hst, if_pos hz0]; rfl
  ·
   try simp only [bP] at pF
   have hn0 : ¬ iM ks[i] ks[i + 1] = 0 := by exact pF
   refine WE.aA (WL.mv rfl rfl (WL.pv (PV.gtr rfl rfl rfl) rfl (WL.as rfl rfl (WL.nil ?_))))
   refine WE.cond rfl (fun DA => ?_) (fun DA => ?_)
   ·
    try simp only [bP] at DA
    have hp1 : 0 < iM ks[i] ks[i + 1] := by exact DA
    refine WE.aA (WL.as rfl rfl (WL.nil (WE.ret ⟨[_], _, .nil _, ⟨rfl, trivial⟩, ?_⟩)))
    refine ⟨?_, H.aL⟩
    (rw [← hch, hst, if_neg hn0, if_pos hp1]; rfl)
   ·
    try simp only [bP] at DA
    have SP : ¬ 0 < iM ks[i] ks[i + 1] := by (have := DA; omega)
    refine WE.skip (WE.dW (WL.mv rfl rfl ?_))
    refine WL.pv (PV.eq (v' := .int .i64 ((i + 1 + 1 : Nat) : Int)) (PV.bV rfl rfl rfl (by omega) (by omega)) (by congr 1)) rfl ?_
    refine WL.as rfl rfl (WL.nil ?_)
    exact ⟨i + 1, (by repeat (first | with_reducible exact bK.refl _ _ | refine bK.dG rfl ?_ | refine bK.bZ rfl ?_ | refine bK.bX rfl ?_)), ⟨rfl, trivial⟩, rfl, ⟨by omega, by rw [← hch, hst, if_neg hn0, if_neg SP], H⟩, (by omega)⟩
 ·
  try simp only [bP] at l8
  have hen := U0 (l := ks) (i := i) (by omega)
  refine WE.exit (WE.aA (WL.as rfl rfl (WL.nil (WE.ret ⟨[_], _, .nil _, ⟨rfl, trivial⟩, ?_⟩))))
  refine ⟨?_, H.aL⟩
  rw [← hch, hen]; rfl
theorem gN.one {s : Value} {l : List Ch} {w : World} (h : iA l w) : ∀ c ∈ l, c.s.oneCell' = true := fun c hc => cO.fW (h c hc)
theorem CN {l : List Ch} (h : ∀ c ∈ l, c.s.oneCell' = true) : eO (l.flatMap eL) := fun v hv => by
 obtain ⟨c, hc, hv⟩ := List.mem_flatMap.1 hv
 exact mC (h c hc) v hv
theorem BP {α : Type} {l m : List α} {i j : Nat} (h : l.drop i = m.drop i) (hj : i ≤ j) : l.drop j = m.drop j := by
 have := congrArg (List.drop (j - i)) h
 rwa [List.drop_drop, List.drop_drop, show i + (j - i) = j by omega] at this
theorem zV {α : Type} {l : List α} {i : Nat} {x : α} (h : i < l.length) : (l.set i x).take (i + 1) = l.take i ++ [x] := by
 rw [List.take_succ_eq_append_getElem (by rw [List.length_set]; exact h), List.getElem_set_self, List.take_set, List.set_eq_of_length_le (by rw [List.length_take]; omega)]
theorem yC {l : List Ch} {i : Nat} (h : i < l.length) : eQ (l.take (i + 1)) = if l[i].d then eQ (l.take i) else eQ (l.take i) ++ [l[i]] := by
 unfold eQ
 rw [List.take_succ_eq_append_getElem h, List.filter_append]
 split
 ·
  rename_i h1; simp [h1]
 ·
  rename_i h1; simp [h1]
theorem A7 {l : List Ch} (h : ∀ c ∈ l, c.d = false) : eQ l = l := List.filter_eq_self.2 fun c hc => by rw [h c hc]; rfl
theorem XL.set {l : List Ch} (h : XL l) (i : Nat) {x : Ch} (hx : x.k.length = 32) : XL (l.set i x) := fun e he => by
 rcases List.mem_or_eq_of_mem_set he with h1 | h1
 ·
  exact h e h1
 ·
  rw [h1]; exact hx
theorem gN.J7 {w : World} {g n cap : Nat} {t : TypeId} {rs : List Ch} {rest : List Value} (h : aN w g t (rs.flatMap eL ++ rest)) (hk : XL rs) (hn : rs.length = n) (hc : n ≤ cap) : cO w (.slice (some ⟨g, 0, none⟩) n cap) 34 n (rs.flatMap eL) := by
 have h1 := L5 rs hk.len rest 0 (Nat.zero_le _)
 rw [List.drop_zero] at h1
 exact cO.oC (h.aF h1 (by simp)) (by rw [dL _ hk.len, hn]) hc
theorem aKy {w : World} {g j q : Nat} {t : TypeId} {rs ks : List Ch} {rest : List Value} (h : aN w g t (rs.flatMap eL ++ rest)) (hk : XL rs) (hrl : rs.length = ks.length) (hd : rs.drop q = ks.drop q) (hq : q ≤ j) (hl : j < ks.length) (n c : Nat) : dD w (jS (.slice (some ⟨g, 0, none⟩) n c) (j * 34)) (eL ks[j]) := by
 have h1 : rs[j]'(by omega) = ks[j] := by
  have e2 : (rs.drop q)[j - q]'(by rw [List.length_drop]; omega) = (ks.drop q)[j - q]'(by rw [List.length_drop]; omega) := by simp only [hd]
  rw [List.getElem_drop, List.getElem_drop] at e2
  simpa [show q + (j - q) = j by omega] using e2
 have h2 := gN.rd (show gN _ rs w from gN.J7 (cap := rs.length) h hk rfl (Nat.le_refl _)) hk j (by omega)
 rw [h1] at h2
 exact h2
theorem iS {g n cap lo hi : Nat} (h : lo < cap) : jO (.slice (some ⟨g, 0, none⟩) n cap) 34 lo hi = .slice (some ⟨g, lo * 34, none⟩) (hi - lo) (cap - lo) := by
 show Value.slice (if cap = lo then _ else _) _ _ = _
 rw [if_neg (by omega)]
 simp [mS]
theorem aAc {X : Nat → Prop} {w : World} {s : Value} {l : List Ch} (hX : c6 X w) (bT : aH X (gN s l) w) (hx : XL l) (hlen : l.length ≤ 1000000) (iD : ∀ c ∈ l, c.s.oneCell' = true) :
  bC prog 95 [s].toArray w fun v w' => v = .int .i64 (sB (l.map Ch.k)) ∧ Out Nil w w' := by
 refine bC.aI (N := 6) func95 rfl rfl (by simp) ?_
 have H := (St.begin hX).add (cE bT)
 refine WE.aA (WL.as rfl rfl (WL.nil (WE.aA (WL.mv rfl rfl ?_))))
 refine WL.call aBC rfl (SE (s := s) (l := l) (f := wU 146) H.aR (H.bJ 0 rfl) hx hlen iD GJ) ?_
 rintro v4 w1 ⟨hO, hR⟩
 replace H := (H.out hO).add hR
 refine WL.call aHc rfl (aAJ (ks := l.map Ch.k) H.aR (H.bJ 0 rfl) (G7 hx) (by rw [List.length_map]; exact hlen)) ?_
 rintro _ w2 ⟨rfl, hO⟩
 replace H := H.out hO
 refine WL.as rfl rfl (WL.nil (WE.ret ⟨[_], _, .nil _, ⟨rfl, trivial⟩, ?_⟩))
 exact ⟨rfl, H.aL⟩
theorem zO {X : Nat → Prop} {w : World} {s : Value} {l : List Ch} (hX : c6 X w) (bT : aH X (gN s l) w) (hx : XL l) (hlen : l.length ≤ 1000000) (iD : ∀ c ∈ l, c.s.oneCell' = true) :
  bC prog 149 [s].toArray w fun v w' => Out Nil w w' ∧ w'.ownsRow w.heap.size 127 34 v (l).length ((l).flatMap eL) := by
 refine bC.aI (N := 8) func149 rfl rfl (by simp) ?_
 have H := (St.begin hX).add (cE bT)
 refine WE.aA (WL.as rfl rfl (WL.nil (WE.seq (WE.aA (WL.mv rfl rfl (WL.pv (PV.aBJ rfl (H.p 0 rfl : gN s l _) eE rfl rfl) rfl (WL.nil ?_)))))))
 refine WE.cond rfl (fun ZH => ?_) (fun ZH => ?_)
 ·
  try simp only [bP] at ZH
  have h0 : l = [] := List.eq_nil_of_length_eq_zero (cO.R3 (H.p 0 rfl : gN s l _) ZH)
  subst h0
  refine WE.aA (WL.as rfl rfl (WL.nil (WE.ret ⟨[_], _, .nil _, ⟨rfl, trivial⟩, ?_⟩)))
  exact ⟨H.aL, World.ownsRow_nil _ _ _ _⟩
 ·
  try simp only [bP] at ZH
  refine WE.skip (WE.aA ?_)
  refine WL.bA (l0 := []) H rfl vH (by decide) rfl Fl.nil rfl ?_
  intro b5 w1 H
  replace H := H.AQ (n := 0) (sz := 34) (i := 0) rfl rfl (by decide)
  refine WL.mv rfl rfl ?_
  refine WL.append H 0 vH (by decide) rfl rfl rfl (H.p 0 rfl : gN s l _) (CN iD) (by omega) (by decide) rfl ?_
  intro v7 w2 H
  refine WL.as rfl rfl (WL.nil (WE.ret ⟨[_], _, .nil _, ⟨rfl, trivial⟩, ?_⟩))
  exact ⟨H.aL, by have h_ := H.l 0 rfl; rw [Nat.zero_add] at h_; exact h_⟩
theorem G9 {X : Nat → Prop} {w : World} {s f : Value} {l : List Ch} (hX : c6 X w) (bT : aH X (gN s l) w) (hx : XL l) (hlen : l.length ≤ 1000000) (hf : ∀ (c : Ch) (W : World), c.k.length = 32 → eR prog f [.agg (eL c).toArray] W fun v W' => v = .bool c.d ∧ Out Nil W W') :
  bC prog 188 [s, f].toArray w fun v w' => ∃ z : Int, v = .int .i64 z ∧ Out Nil w w' ∧ ((z = -1 ∧ ∀ c ∈ l, c.d = false) ∨ ∃ i, ∃ h : i < l.length, z = ((i : Nat) : Int) ∧ l[i].d = true ∧ ∀ c ∈ l.take i, c.d = false) := by
 refine bC.aI (N := 19) func188 rfl rfl (by simp) ?_
 have H := (St.begin hX).add (cE bT)
 refine WE.aA (WL.as rfl rfl (WL.nil (WE.seq (WE.aA (WL.mv rfl rfl ?_)))))
 refine WL.pv (PV.dS (by exact (H.p 0 rfl : gN s l _)) eE rfl) rfl ?_
 refine WL.mv rfl rfl (WL.nil (WE.block ?_))
 refine WE.loop (α := Nat) (rg [(4, 2), (8, 11)]) (fun i => [(8, .int .i64 (i : Int))]) (fun i wl => i ≤ l.length ∧ (∀ c ∈ l.take i, c.d = false) ∧ St X w wl [] [] [gN s l]) (fun i => l.length - i) 0 ⟨rfl, trivial⟩ ⟨Nat.zero_le _, (fun c hc => by simp at hc), H⟩ ?_
 intro i γ0 w1 hI
 try dsimp only at hI
 obtain ⟨hi, hall, H⟩ := hI
 refine WE.aA (WL.pv (PV.lss rfl rfl rfl) rfl (WL.nil (WE.seq ?_)))
 refine WE.cond rfl (fun uV => ?_) (fun uV => ?_)
 ·
  try simp only [bP] at uV
  have hlt : i < l.length := by omega
  have hki := hx _ (List.getElem_mem hlt)
  have TL := jN hki
  refine WE.skip (WE.seq (WE.block (WE.aA (WL.mv rfl rfl (WL.as rfl rfl (WL.nil (WE.aA ?_)))))))
  refine WL.mv rfl rfl (WL.mv rfl rfl (WL.mv rfl rfl ?_))
  refine WL.pv (PV.dX rfl (by exact (H.p 0 rfl : gN s l _)) eE eU rfl rfl (by omega) (by omega)) rfl ?_
  refine WL.bE rfl tT rfl rfl (gN.rd (by exact (H.p 0 rfl : gN s l _)) hx i hlt) (by (rw [eU]; refine congrArg some ?_; (simp [aJ, aQ, *]; done))) ?_
  refine WL.iZ rfl rfl (hf l[i] _ hki) ?_
  rintro _ w3 ⟨rfl, hO⟩
  replace H := H.out hO
  refine WL.nil ?_
  refine WE.cond rfl (fun nO => ?_) (fun nO => ?_)
  ·
   try simp only [bP] at nO
   have hd : l[i].d = true := by exact nO
   refine WE.aA (WL.mv rfl rfl (WL.as rfl rfl (WL.nil (WE.ret ⟨[_], _, .nil _, ⟨rfl, trivial⟩, ?_⟩))))
   exact ⟨_, rfl, H.aL, .inr ⟨i, hlt, rfl, hd, hall⟩⟩
  ·
   try simp only [bP] at nO
   have hd : l[i].d = false := by exact nO
   refine WE.skip (WE.dW (WL.pv (PV.eq (v' := .int .i64 ((i + 1 : Nat) : Int)) (PV.bV rfl rfl rfl (by omega) (by omega)) rfl) rfl (WL.mv rfl rfl (WL.nil ?_))))
   exact ⟨i + 1, (by repeat (first | with_reducible exact bK.refl _ _ | refine bK.dG rfl ?_ | refine bK.bZ rfl ?_ | refine bK.bX rfl ?_)), ⟨rfl, trivial⟩, rfl, ⟨by omega, (fun c hc => by rw [List.take_succ_eq_append_getElem hlt] at hc; rcases List.mem_append.1 hc with h_ | h_; exact hall c h_; rw [List.mem_singleton.1 h_]; exact hd), H⟩, (by omega)⟩
 ·
  try simp only [bP] at uV
  have vR : i = l.length := by omega
  refine WE.exit (WE.aA (WL.as rfl rfl (WL.nil (WE.ret ⟨[_], _, .nil _, ⟨rfl, trivial⟩, ?_⟩))))
  exact ⟨_, rfl, H.aL, .inl ⟨rfl, fun c hc => by subst vR; rw [List.take_length] at hall; exact hall c hc⟩⟩
theorem WQ {X : Nat → Prop} {w : World} {g cap : Nat} {f : Value} {l : List Ch} {rest : List Value} (hX : c6 X w) (fA : aN w g 127 (l.flatMap eL ++ rest)) (hx : XL l) (hlen : l.length ≤ 1000000) (iD : ∀ c ∈ l, c.s.oneCell' = true) (j0 : l.length ≤ cap) (hf : ∀ (c : Ch) (W : World), c.k.length = 32 → eR prog f [.agg (eL c).toArray] W fun v W' => v = .bool c.d ∧ Out Nil W W') :
  bC prog 148 [.slice (some ⟨g, 0, none⟩) l.length cap, f].toArray w fun v w' => v = .slice (some ⟨g, 0, none⟩) (eQ l).length cap ∧ Out (· = g) w w' ∧ ∃ LB, aN w' g 127 ((eQ l).flatMap eL ++ LB) ∧ LB.length + (eQ l).length * 34 = rest.length + l.length * 34 := by
 refine bC.aI (N := 42) func148 rfl rfl (by simp) ?_
 have H := St.dK (b := g) (t := 127) (l := l.flatMap eL ++ rest) hX fA
 have hkr := hx
 have hrl : l.length = l.length := rfl
 refine WE.aA (WL.as rfl rfl (WL.nil (WE.aA (WL.mv rfl rfl (WL.mv rfl rfl ?_)))))
 refine WL.call aBx rfl (G9 (X := Nil) (s := .slice (some ⟨g, 0, none⟩) l.length cap) (l := l) (f := f) (fun _ h => h.elim) ((H.aIL 0 rfl).imp fun _ h => gN.J7 h hx rfl j0) hx hlen hf) ?_
 rintro _ w1 ⟨z, rfl, hO, hz⟩
 replace H := H.out hO
 refine WL.as rfl rfl (WL.nil (WE.seq (WE.aA (WL.mv rfl rfl (WL.pv (PV.eql rfl rfl rfl) rfl (WL.nil ?_))))))
 refine WE.cond rfl (fun lU => ?_) (fun lU => ?_)
 ·
  try simp only [bP] at lU
  have hz1 : z = -1 := by exact lU
  have hlv : eQ l = l := by rcases hz with ⟨_, h_⟩ | ⟨i_, h_, P5, _⟩; exact A7 h_; omega
  refine WE.aA (WL.mv rfl rfl (WL.as rfl rfl (WL.nil (WE.ret ⟨[_], _, .nil _, ⟨rfl, trivial⟩, ?_⟩))))
  rw [hlv]
  exact ⟨rfl, H.nA.mono fun b _ ⟨_, he, hb⟩ => (by cases List.mem_singleton.1 he; exact hb), rest, H.o 0 rfl, rfl⟩
 ·
  try simp only [bP] at lU
  obtain ⟨i0, hi0, rfl, hd0, hall⟩ : ∃ i, ∃ h : i < l.length, z = ((i : Nat) : Int) ∧ l[i].d = true ∧ ∀ c ∈ l.take i, c.d = false := by rcases hz with ⟨h_, _⟩ | h_; exact absurd h_ (by exact lU); exact h_
  have aI4 : l.take i0 = eQ (l.take (i0 + 1)) := by rw [yC hi0, if_pos hd0, A7 hall]
  refine WE.skip (WE.seq (WE.aA (WL.mv rfl rfl (WL.pv (PV.eq (v' := .int .i64 ((i0 + 1 : Nat) : Int)) (PV.bV rfl rfl rfl (by omega) (by omega)) rfl) rfl (WL.as rfl rfl (WL.nil (WE.block ?_)))))))
  refine WE.loop (α := Nat × Nat × List Ch) (rg [(5, 3), (16, 20)]) (fun q => [(5, .int .i64 (q.1 : Int)), (6, .int .i64 (q.2.1 : Int))]) (fun q wl => (q.1 + 1 ≤ q.2.1 ∧ q.2.1 ≤ l.length) ∧ (XL q.2.2 ∧ q.2.2.length = l.length) ∧ (q.2.2.take q.1 = eQ (l.take q.2.1) ∧ q.2.2.drop q.2.1 = l.drop q.2.1) ∧ St X w wl [aP.blk g 127 ((q.2.2).flatMap eL ++ rest)] [] []) (fun q => l.length - q.2.1) (i0, i0 + 1, l) ⟨rfl, rfl, trivial⟩ ⟨⟨Nat.le_refl _, by dsimp only; omega⟩, ⟨hx, rfl⟩, ⟨aI4, rfl⟩, H⟩ ?_
  intro ⟨t, j, rs⟩ γ0 w2 hI
  try dsimp only at hI
  obtain ⟨⟨Y7, hj⟩, ⟨hkr, hrl⟩, ⟨LU, hdr⟩, H⟩ := hI
  try dsimp only at Y7 hj hkr hrl LU hdr
  have hq1 : (((t, j, rs) : Nat × Nat × List Ch).snd.fst) = j := rfl
  have hq0 : (((t, j, rs) : Nat × Nat × List Ch).fst) = t := rfl
  refine WE.seq (WE.aA (WL.mv rfl rfl (WL.mv rfl rfl (WL.pv (PV.dS (gN.J7 (cap := cap) (H.o 0 rfl) hkr hrl j0) eE rfl) rfl (WL.pv (PV.lss rfl rfl rfl) rfl (WL.nil ?_))))))
  refine WE.cond rfl (fun kC => ?_) (fun kC => ?_)
  ·
   try simp only [bP] at kC
   have hlt : j < l.length := by omega
   have hkj := hx _ (List.getElem_mem hlt)
   have TL := jN hkj
   have DY := yC hlt
   refine WE.skip (WE.seq (WE.block (WE.aA (WL.mv rfl rfl (WL.mv rfl rfl ?_)))))
   refine WL.pv (PV.dX rfl (gN.J7 (cap := cap) (H.o 0 rfl) hkr hrl j0) eE eU rfl rfl (by omega) (by omega)) rfl ?_
   refine WL.bE rfl tT rfl rfl ((aKy (j := j) (q := j) (ks := l) (H.o 0 rfl) hkr hrl hdr (by omega) hlt _ _)) (by (rw [eU]; refine congrArg some ?_; (simp [aJ, aQ, *]; done))) ?_
   refine WL.alloc H rfl AL rfl ?_
   intro b7 w3 H
   refine WL.aW H 0 rfl rfl rfl (new := eL l[j]) rfl (by (rw [eU]; refine congrArg some ?_; (simp [aJ, aQ, *]; done))) (mC (iD _ (List.getElem_mem hlt))) (Laid.at (Laid.all (by simp only [aS]; omega)) rfl) rfl ?_
   intro w4 H
   refine WL.nil (WE.aA (WL.mv rfl rfl ?_))
   refine WL.bE rfl tT rfl rfl (aN.aF (H.l 0 rfl) (aK.all _) rfl) (by (rw [eU]; refine congrArg some ?_; (simp [aJ, aQ, *]; done))) ?_
   refine WL.iZ rfl rfl (hf l[j] _ hkj) ?_
   rintro _ w6 ⟨rfl, hO⟩
   replace H := H.out hO
   refine WL.pv (PV.not rfl rfl) rfl (WL.nil ?_)
   refine WE.cond rfl (fun C9 => ?_) (fun C9 => ?_)
   ·
    try simp only [bP] at C9
    have hdj : l[j].d = false := by exact C9
    rw [if_neg (by rw [hdj]; decide)] at DY
    let t2 := t + 1
    let Q6 := rs.set t l[j]
    have ht2 : t2 ≤ t + 1 := Nat.le_refl _
    have aCP : XL Q6 := hkr.set _ hkj
    have aCJ : Q6.length = l.length := by show (rs.set _ _).length = _; rw [List.length_set]; exact hrl
    have aCH : Q6.take t2 = eQ (l.take (j + 1)) := by show (rs.set t l[j]).take (t + 1) = _; rw [DY, ← LU, zV (by omega)]
    have aCT : Q6.drop (j + 1) = l.drop (j + 1) := by show (rs.set t l[j]).drop _ = _; rw [List.drop_set_of_lt (by omega)]; exact BP hdr (by omega)
    refine WE.aA (WL.mv rfl rfl (WL.mv rfl rfl ?_))
    refine WL.bE rfl tT rfl rfl (aN.aF (H.l 0 rfl) (aK.all _) rfl) (by (rw [eU]; refine congrArg some ?_; (simp [aJ, aQ, *]; done))) ?_
    refine WL.pv (PV.eq (v' := .pointer (some ⟨g, t * 34, none⟩)) (PV.dX rfl (gN.J7 (cap := cap) (H.o 0 rfl) hkr hrl j0) eE eU rfl rfl (by omega) (by omega)) (by show Value.pointer (some ((⟨g, 0, none⟩ : Addr).add (Int.toNat (t : Int) * 34))) = _; rw [mS, Int.toNat_natCast, Nat.zero_add])) rfl ?_
    refine WL.lQ H 0 rfl rfl rfl (new := eL l[j]) rfl (by (rw [eU]; refine congrArg some ?_; (simp [aJ, aQ, *]; done))) (mC (iD _ (List.getElem_mem hlt))) (qI (C := eL) rs hkr.len rest (i := t) (by omega) TL rfl) rfl ?_
    intro w8 H
    refine WL.nil (WE.dW (WL.mv rfl rfl (WL.pv (PV.eq (v' := .int .i64 ((t + 1 : Nat) : Int)) (PV.bV rfl rfl rfl (by omega) (by omega)) rfl) rfl (WL.as rfl rfl (WL.nil (WE.dW (WL.mv rfl rfl ?_)))))))
    refine WL.pv (PV.eq (v' := .int .i64 ((j + 1 : Nat) : Int)) (PV.bV rfl rfl rfl (by omega) (by omega)) rfl) rfl (WL.as rfl rfl (WL.nil ?_))
    replace H := H.forget 0
    exact ⟨(t2, j + 1, Q6), (by repeat (first | with_reducible exact bK.refl _ _ | refine bK.dG rfl ?_ | refine bK.bZ rfl ?_ | refine bK.bX rfl ?_)), ⟨rfl, rfl, trivial⟩, rfl, ⟨⟨by dsimp only; omega, by dsimp only; omega⟩, ⟨aCP, aCJ⟩, ⟨aCH, aCT⟩, H⟩, (by dsimp only; omega)⟩
   ·
    try simp only [bP] at C9
    have hdj : l[j].d = true := by exact C9
    rw [if_pos hdj] at DY
    let t2 := t
    let Q6 := rs
    have ht2 : t2 ≤ t + 1 := Nat.le_succ _
    have aCP : XL Q6 := hkr
    have aCJ : Q6.length = l.length := hrl
    have aCH : Q6.take t2 = eQ (l.take (j + 1)) := by rw [DY]; exact LU
    have aCT : Q6.drop (j + 1) = l.drop (j + 1) := BP hdr (by omega)
    refine WE.skip (WE.dW (WL.mv rfl rfl (WL.pv (PV.eq (v' := .int .i64 ((j + 1 : Nat) : Int)) (PV.bV rfl rfl rfl (by omega) (by omega)) rfl) rfl (WL.as rfl rfl (WL.nil ?_)))))
    replace H := H.forget 0
    exact ⟨(t2, j + 1, Q6), (by repeat (first | with_reducible exact bK.refl _ _ | refine bK.dG rfl ?_ | refine bK.bZ rfl ?_ | refine bK.bX rfl ?_)), ⟨rfl, rfl, trivial⟩, rfl, ⟨⟨by dsimp only; omega, by dsimp only; omega⟩, ⟨aCP, aCJ⟩, ⟨aCH, aCT⟩, H⟩, (by dsimp only; omega)⟩
  ·
   try simp only [bP] at kC
   have hje : j = l.length := by omega
   refine WE.exit (WE.aA (WL.mv rfl rfl (WL.mv rfl rfl ?_)))
   refine WL.pv (PV.eq (v' := .slice (some ⟨g, t * 34, none⟩) (l.length - t) (cap - t)) (PV.q9 rfl (gN.J7 (cap := cap) (H.o 0 rfl) hkr hrl j0) eE eU rfl rfl (by omega) (by omega)) (iS (by omega))) rfl ?_
   have DC := (gN.J7 (cap := cap) (H.o 0 rfl) hkr hrl j0)
   refine WL.aDm (sz := 34) (zl := _) H 0 eE AL (bB _ rfl) rfl rfl rfl (by omega) (by rw [List.length_append, dL _ hkr.len, hrl]; omega) rfl ?_
   intro xG new hnl H
   refine WL.nil (WE.aA (WL.mv rfl rfl (WL.mv rfl rfl ?_)))
   refine WL.pv (PV.eq (v' := .slice (some ⟨g, 0, none⟩) t cap) (PV.XQ rfl DC eE eU rfl rfl (by omega) (by omega)) (by have h_ := iS (g := g) (n := l.length) (cap := cap) (lo := 0) (hi := t) (by omega); rw [Nat.zero_mul] at h_; exact h_)) rfl ?_
   refine WL.as rfl rfl (WL.nil (WE.ret ⟨[_], _, .nil _, ⟨rfl, trivial⟩, ?_⟩))
   have rA : rs.take t = eQ l := by have h_ := LU; rw [hje, List.take_length] at h_; exact h_
   have qH : (eQ l).length = t := by rw [← rA, List.length_take]; omega
   have aF7 := show aN _ g _ _ from H.o 0 rfl
   rw [F3 rs hkr.len t (by omega), rA, List.append_assoc] at aF7
   rw [qH]
   refine ⟨rfl, H.nA.mono fun b _ ⟨_, he, hb⟩ => (by cases List.mem_singleton.1 he; exact hb), _, aF7, ?_⟩
   rw [List.length_append, hnl, List.length_drop, List.length_append, dL _ hkr.len, hrl]; omega
theorem HH {X : Nat → Prop} {w : World} {f : Value} (hX : c6 X w) (hf : ∀ (c : Ch) (W : World), c.k.length = 32 → eR prog f [.agg (eL c).toArray] W fun v W' => v = .bool c.d ∧ Out Nil W W') :
  bC prog 148 [.slice none 0 0, f].toArray w fun v w' => v = .slice none 0 0 ∧ Out Nil w w' := by
 refine bC.aI (N := 42) func148 rfl rfl (by simp) ?_
 have H := St.begin hX
 refine WE.aA (WL.as rfl rfl (WL.nil (WE.aA (WL.mv rfl rfl (WL.mv rfl rfl ?_)))))
 refine WL.call aBx rfl (G9 (X := Nil) (s := .slice none 0 0) (l := []) (f := f) (fun _ h => h.elim) (fun _ _ => cO.nil _ 34) (fun _ h => by cases h) (Nat.zero_le _) hf) ?_
 rintro _ w1 ⟨z, rfl, hO, hz⟩
 replace H := H.out hO
 obtain rfl : z = -1 := by rcases hz with ⟨h_, _⟩ | ⟨i_, h_, _⟩; exact h_; exact absurd h_ (Nat.not_lt_zero _)
 refine WL.as rfl rfl (WL.nil (WE.seq (WE.aA (WL.mv rfl rfl (WL.pv (PV.eql rfl rfl rfl) rfl (WL.nil ?_))))))
 refine WE.cR rfl rfl ?_
 refine WE.aA (WL.mv rfl rfl (WL.as rfl rfl (WL.nil (WE.ret ⟨[_], _, .nil _, ⟨rfl, trivial⟩, ?_⟩))))
 exact ⟨rfl, H.aL⟩
theorem HG {w : World} {base : Nat} {v f : Value} {l : List Ch} (hown : w.ownsRow base 127 34 v l.length (l.flatMap eL)) (hx : XL l) (hlen : l.length ≤ 1000000) (iD : ∀ c ∈ l, c.s.oneCell' = true) (hf : ∀ (c : Ch) (W : World), c.k.length = 32 → eR prog f [.agg (eL c).toArray] W fun v W' => v = .bool c.d ∧ Out Nil W W') :
  bC prog 148 [v, f].toArray w fun v' w' => Out (fun b => v.ownBlock = some b) w w' ∧ w'.ownsRow base 127 34 v' (eQ l).length ((eQ l).flatMap eL) ∧ v'.ownBlock = v.ownBlock := by
 obtain ⟨h1, ⟨rfl, h2⟩ | ⟨g, cap, cur, rfl, hg, C6, j0, SQ, hsz, FH⟩⟩ := hown
 ·
  have h3 : l = [] := List.eq_nil_of_length_eq_zero h2
  subst h3
  refine (HH (X := Nil) (w := w) (fun _ h => h.elim) hf).mono ?_
  rintro v' w' ⟨rfl, hO⟩
  exact ⟨hO.mono fun _ _ h => h.elim, World.ownsRow_nil _ _ _ _, rfl⟩
 ·
  have hB : aN w g 127 (l.flatMap eL ++ cur.toList.drop (l.length * 34)) := by
   unfold aN
   rw [← FH, List.take_append_drop]
   exact C6
  refine (WQ (X := Nil) (w := w) (fun _ h => h.elim) hB hx hlen iD j0 hf).mono ?_
  rintro v' w' ⟨rfl, hO, LB, hB', hl⟩
  have qH : (eQ l).length ≤ l.length := List.length_filter_le ..
  have rA : XL (eQ l) := hx.sub fun c hc => (jL.1 hc).1
  refine ⟨hO.mono fun b _ h => by rw [h]; rfl, ⟨dL _ rA.len, .inr ⟨g, cap, ((eQ l).flatMap eL ++ LB).toArray, rfl, hg, hB', by omega, SQ, ?_, ?_⟩⟩, rfl⟩
  ·
   simp only [List.size_toArray, List.length_append]
   rw [dL _ rA.len]
   have h4 : (cur.toList.drop (l.length * 34)).length = cap * 34 - l.length * 34 := by rw [List.length_drop, Array.length_toList, hsz]
   have h5 : l.length * 34 ≤ cap * 34 := Nat.mul_le_mul_right _ j0
   omega
  ·
   rw [List.toList_toArray, List.take_left' (dL _ rA.len)]
theorem St.aEA {X : Nat → Prop} {w0 w w' : World} {O L : List aP} {Ps : List (World → Prop)} (H : St X w0 w O L Ps) {i : Nat} {e : aP} (hi : O[i]? = some e) (h : Out e.fp w w') (e' : aP) (he : e'.ok w') (hf : ∀ b, e'.fp b ↔ e.fp b) (e2 : aP) (he2 : e2.ok w') (hn : ∀ b, e2.fp b → w.heap.size ≤ b) :
  St X w0 w' (O.set i e') (e2 :: L) Ps :=
 let H' := H.wD hi h e' he hf
 { H' with
  s7 := fun x hx => by
   cases List.mem_cons.1 hx with
   | inl hx => subst hx; exact he2
   | inr hx => exact H'.s7 x hx
  kI := fun x hx => by
   cases List.mem_cons.1 hx with
   | inl hx => subst hx; exact fun b hb => Nat.le_trans H.size (hn b hb)
   | inr hx => exact H'.kI x hx
  iR := List.pairwise_cons.2 ⟨fun x hx b hb => by
   have h1 := hn b hb.1
   have h2 := H.WW x hx b hb.2
   omega, H'.iR⟩
  jC := fun p hp => (H.jC p hp).out h (fun b _ hm => .inr (.inl ⟨e, List.mem_of_getElem? hi, hm⟩)) (fun b hb hx => by
   rcases hx with hx | ⟨x, hx, hb'⟩ | ⟨x, hx, hb'⟩
   ·
    exact .inl hx
   ·
    rcases eP hx with rfl | ⟨j, hne, hj⟩
    ·
     exact .inr (.inl ⟨e, List.mem_of_getElem? hi, (hf b).1 hb'⟩)
    ·
     exact .inr (.inl ⟨x, List.mem_of_getElem? hj, hb'⟩)
   ·
    cases List.mem_cons.1 hx with
    | inl hx => subst hx; have := hn b hb'; omega
    | inr hx => exact .inr (.inr ⟨x, hx, hb'⟩)) }
section
variable {r : Option Nat} {P : Program} {N : Nat} {σ : Env} {ds : List Deferred} {w : World} {ops : Array Oper} {rest : List Oper} {K : Env → List Deferred → World → Prop}
variable {X : Nat → Prop} {w0 : World} {O L : List aP} {Ps : List (World → Prop)}
theorem WL.aAj {dst : Option Tmp} {t ty e : TypeId} {zl : List Value} {bytes base : Nat} {x y : Operand} {pos : String} {after : Array Edge} {guard : Option (Nat × Bool)} {v u : Value} {n m : Nat} {xs news : List Value}
  (H : St X w0 w O L Ps) (i : Nat) (hbase : base ≤ w0.heap.size) (ht : lZ P t e zl bytes) (hz : 0 < zl.length) (hi : O[i]? = some (aP.gZ base v e zl.length n xs)) (hx : ev σ x = v) (hy : ev σ y = u) (hu : cO w u zl.length m news)
  (h1 : eO news) (hb : (n + m) * bytes ≤ 140737488355328) (zR : 0 < bytes) (hw : cK ops σ ⟨dst, .call ⟨.builtin .append, [x, y].toArray, [t, t].toArray⟩, ty, pos, after, guard⟩ = true)
  (k1 : ∀ v' w', (∀ b, v'.ownBlock = some b → v.ownBlock = some b) → St X w0 w' (O.set i (aP.gZ base v' e zl.length (n + m) (xs ++ news))) L Ps → WL r P N ops rest K (dG N σ dst v') ds w')
  (k2 : ∀ v' w', (∀ b, v'.ownBlock = some b → w0.heap.size ≤ b) → St X w0 w' (O.set i (aP.set fun b => v.ownBlock = some b)) (aP.gZ base v' e zl.length (n + m) (xs ++ news) :: L) Ps → WL r P N ops rest K (dG N σ dst v') ds w') :
  WL r P N ops (⟨dst, .call ⟨.builtin .append, [x, y].toArray, [t, t].toArray⟩, ty, pos, after, guard⟩ :: rest) K σ ds w := by
 subst hx; subst hy
 have h63 : n + m ≤ maxLen := by
  have : (n + m) * 1 ≤ (n + m) * bytes := Nat.mul_le_mul_left _ zR
  unfold maxLen
  omega
 obtain ⟨v', w', hrun, BC, hg, hblk⟩ := rE (P := P) (ty := ty) base ht hz (H.o i hi) hu h1 h63 hb (Nat.le_trans hbase H.size)
 by_cases hc : ∃ b, v'.ownBlock = some b ∧ (ev σ x).ownBlock = some b
 ·
  obtain ⟨b0, h1', h2'⟩ := hc
  refine WL.val (v := v') (w' := w') hw rfl ?_ (k1 v' w' (fun b hb => by rw [h1'] at hb; rw [h2']; exact hb) ?_)
  ·
   simp [execOp, resolve, invoke, builtin, hrun]
  ·
   exact St.wD H hi (Out.grown hg) _ BC (fun b => by show v'.ownBlock = some b ↔ (ev σ x).ownBlock = some b; rw [h1', h2'])
 ·
  have hn : ∀ b, v'.ownBlock = some b → w.heap.size ≤ b := fun b hb => by
   rcases hblk b hb with h | h
   ·
    exact absurd ⟨b, hb, h⟩ hc
   ·
    exact h
  refine WL.val (v := v') (w' := w') hw rfl ?_ (k2 v' w' (fun b hb => Nat.le_trans H.size (hn b hb)) ?_)
  ·
   simp [execOp, resolve, invoke, builtin, hrun]
  ·
   exact St.aEA H hi (Out.grown hg) (aP.set fun b => (ev σ x).ownBlock = some b) (fun b hb => Nat.lt_of_lt_of_le ((aP.gZ base (ev σ x) e zl.length n xs).lt w (H.o i hi) b hb) (Out.grown hg).size) (fun b => Iff.rfl) (aP.gZ base v' e zl.length (n + m) (xs ++ news)) BC hn
end
theorem u3 {a b : List UInt8} : iM a b = 0 ↔ num a = num b := by
 unfold iM
 by_cases h : num a < num b
 ·
  simp [h]; omega
 ·
  by_cases h2 : num b < num a
  ·
   simp [h, h2]; omega
  ·
   simp [h, h2]; omega
theorem R5 {X : Nat → Prop} {w : World} {k q : List UInt8} {s : Value} {d : Bool} (hX : c6 X w) (hk : k.length = 32) (hq : q.length = 32) :
  bC prog 186 [.agg (kc k ++ ([s] ++ [Value.bool d])).toArray, .agg (kc q).toArray].toArray w fun v w' => v = .int .i64 (iM k q) ∧ Out Nil w w' := by
 refine bC.aI (N := 9) func186 rfl rfl (by simp) ?_
 have H := St.begin hX
 refine WE.aA ?_
 refine WL.box (l := kc k ++ ([s] ++ [Value.bool d])) H rfl (rfl) rfl ?_
 intro b2 w1 H
 refine WL.box (l := kc q) H rfl rfl rfl ?_
 intro b3 w2 H
 refine WL.as rfl rfl (WL.nil (WE.aA (WL.pv (PV.fieldAddr rfl qV rfl) rfl ?_)))
 refine WL.bE rfl c7 rfl rfl (aN.aF (H.l 1 rfl) (aK.l (aK.all _)) rfl) (cI cM (by simp only [aS]; omega)) ?_
 refine WL.bE rfl c7 rfl rfl (aN.aF (H.l 0 rfl) (aK.all _) rfl) (cI cM (by simp only [aS]; omega)) ?_
 refine WL.call aC6 rfl (rL (k := k) (l := q) H.aR  hk hq) ?_
 rintro _ w3 ⟨rfl, hO⟩
 replace H := H.out hO
 refine WL.as rfl rfl (WL.nil (WE.ret ⟨[_], _, .nil _, ⟨rfl, trivial⟩, ?_⟩))
 exact ⟨rfl, H.aL⟩
theorem aIt {X : Nat → Prop} {w : World} {s f : Value} {l : List Ch} {k : List UInt8} (hX : c6 X w) (bT : aH X (gN s l) w) (hx : XL l) (hl : sL l) (hlen : l.length ≤ 1000000) (hk : k.length = 32) (hf : ∀ (c : Ch) (W : World), c.k.length = 32 → eR prog f [.agg (eL c).toArray, .agg (kc k).toArray] W fun v W' => v = .int .i64 (iM c.k k) ∧ Out Nil W W') :
  bC prog 185 [s, .agg (kc k).toArray, f].toArray w fun v w' => ∃ (r : Nat) (b : Bool), v = .tuple [.int .i64 (r : Int), .bool b].toArray ∧ Out Nil w w' ∧ r ≤ l.length ∧ (∀ i (h : i < l.length), i < r → num l[i].k < num k) ∧ (∀ i (h : i < l.length), r ≤ i → num k ≤ num l[i].k) ∧ (b = true ↔ ∃ h : r < l.length, num l[r].k = num k) := by
 refine bC.aI (N := 49) func185 rfl rfl (by simp) ?_
 have H := (St.begin hX).add (cE bT)
 refine WE.aA ?_
 refine WL.box (l := kc k) H rfl rfl rfl ?_
 intro b4 w1 H
 refine WL.as rfl rfl (WL.as rfl rfl (WL.nil (WE.aA (WL.mv rfl rfl ?_))))
 refine WL.pv (PV.dS (by exact (H.p 0 rfl : gN s l _)) eE rfl) rfl ?_
 refine WL.as rfl rfl (WL.nil (WE.aA (WL.mv rfl rfl (WL.as rfl rfl (WL.as rfl rfl (WL.nil (WE.seq ?_)))))))
 refine WE.block ?_
 refine WE.loop (α := Nat × Nat) (rg [(9, 3), (15, 20)]) (fun q => [(9, .int .i64 (q.1 : Int)), (10, .int .i64 (q.2 : Int))]) (fun q wl => ((q.1 ≤ q.2 ∧ q.2 ≤ l.length) ∧ (∀ i (h : i < l.length), i < q.1 → num l[i].k < num k) ∧ (∀ i (h : i < l.length), q.2 ≤ i → num k ≤ num l[i].k)) ∧ St X w wl [] [aP.blk b4 24 (kc k)] [gN s l]) (fun q => q.2 - q.1) (0, l.length) ⟨rfl, rfl, trivial⟩ ⟨⟨⟨Nat.zero_le _, Nat.le_refl _⟩, (fun i _ h => absurd h (Nat.not_lt_zero _)), fun i h h2 => absurd h (Nat.not_lt.2 h2)⟩, H⟩ ?_
 intro ⟨lo, jM⟩ γ0 w2 hI
 try dsimp only at hI
 obtain ⟨⟨⟨hlh, aFp⟩, hlo, hge⟩, H⟩ := hI
 try dsimp only at hlh aFp hlo hge
 refine WE.seq (WE.aA (WL.mv rfl rfl (WL.mv rfl rfl (WL.pv (PV.lss rfl rfl rfl) rfl (WL.nil ?_)))))
 refine WE.cond rfl (fun iW => ?_) (fun iW => ?_)
 ·
  try simp only [bP] at iW
  have hlt : lo < jM := by omega
  have ZC : (lo + jM) / 2 < l.length := by omega
  have tY := hx _ (List.getElem_mem ZC)
  have TL := jN tY
  refine WE.skip (WE.block (WE.aA (WL.mv rfl rfl (WL.mv rfl rfl (WL.pv (PV.eq (v' := .int .i64 ((lo + jM : Nat) : Int)) (PV.bV rfl rfl rfl (by omega) (by omega)) rfl) rfl ?_)))))
  refine WL.pv (PV.eq (v' := .int .u64 ((lo + jM : Nat) : Int)) (PV.conv rfl tE AA rfl) (by (rw [oU]; congr 1; omega))) rfl ?_
  refine WL.pv (PV.eq (v' := .int .u64 (((lo + jM) / 2 : Nat) : Int)) (PV.XX rfl rfl rfl (by omega)) (by (congr 1; show Int.fdiv _ 2 = _; rw [Int.fdiv_eq_ediv_of_nonneg _ (by omega)]; omega))) rfl ?_
  refine WL.pv (PV.eq (v' := .int .i64 (((lo + jM) / 2 : Nat) : Int)) (PV.lX rfl AA tE rfl (by omega) (by omega)) rfl) rfl ?_
  refine WL.as rfl rfl (WL.nil ?_)
  refine WE.bG (.take 0 (.take 1 (.take 2 (.take 3 (.take 4 (.take 5 (.aG 6 (.take 7 .done)))))))) mixed (by kernel_rfl) ?_
  replace H := H.out (Out.drew _)
  refine WP.mv rfl rfl rfl (WP.mv rfl rfl rfl (WP.mv rfl rfl rfl ?_))
  refine WP.aC rfl rfl (PV.dX rfl (by exact (H.p 0 rfl : gN s l _)) eE eU rfl rfl (by omega) (by omega)) ?_
  refine WP.dO rfl rfl rfl tT rfl (gN.rd (by exact (H.p 0 rfl : gN s l _)) hx ((lo + jM) / 2) ZC) (by (rw [eU]; refine congrArg some ?_; (simp [aJ, aQ, *]; done))) ?_
  refine WP.dO rfl rfl rfl c7 rfl (aN.aF (H.l 0 rfl) (aK.all _) rfl) (cI cM (by simp only [aS]; omega)) ?_
  refine WP.aG rfl ?_
  refine WL.iZ rfl rfl (hf l[(lo + jM) / 2] _ tY) ?_
  rintro _ w4 ⟨rfl, hO⟩
  replace H := H.out hO
  refine WL.nil ⟨(fa (nw 6 5) (fa (nw 6 4) c8)), ?_⟩
  refine WP.aC rfl rfl (PV.lss rfl rfl rfl) (WP.done ?_)
  refine WE.cond rfl (fun kW => ?_) (fun kW => ?_)
  ·
   try simp only [bP] at kW
   have C8 : num l[(lo + jM) / 2].k < num k := mP.1 (by exact kW)
   let q2 : Nat × Nat := ((lo + jM) / 2 + 1, jM)
   have SM : (q2.1 ≤ q2.2 ∧ q2.2 ≤ l.length) ∧ (∀ i (h : i < l.length), i < q2.1 → num l[i].k < num k) ∧ (∀ i (h : i < l.length), q2.2 ≤ i → num k ≤ num l[i].k) := ⟨⟨by show (lo + jM) / 2 + 1 ≤ jM; omega, aFp⟩, (fun i h hi => by have hi2 : i < (lo + jM) / 2 + 1 := hi; rcases Nat.lt_or_ge i ((lo + jM) / 2) with h_ | h_; exact Nat.lt_trans (List.pairwise_iff_getElem.1 hl i _ h ZC h_) C8; (have e_ : i = (lo + jM) / 2 := by omega); subst e_; exact C8), hge⟩
   have hd2 : q2.2 - q2.1 < jM - lo := by show jM - ((lo + jM) / 2 + 1) < jM - lo; omega
   refine WE.dW (WL.mv rfl rfl ?_)
   refine WL.pv (PV.eq (v' := .int .i64 (((lo + jM) / 2 + 1 : Nat) : Int)) (PV.bV rfl rfl rfl (by omega) (by omega)) rfl) rfl ?_
   refine WL.as rfl rfl (WL.nil ?_)
   exact ⟨q2, (by repeat (first | with_reducible exact bK.refl _ _ | refine bK.dG rfl ?_ | refine bK.bZ rfl ?_ | refine bK.bX rfl ?_)), ⟨rfl, rfl, trivial⟩, rfl, ⟨SM, H⟩, hd2⟩
  ·
   try simp only [bP] at kW
   have C8 : num k ≤ num l[(lo + jM) / 2].k := by rcases Nat.lt_or_ge (num l[(lo + jM) / 2].k) (num k) with h_ | h_; have P5 := mP.2 h_; omega; exact h_
   let q2 : Nat × Nat := (lo, (lo + jM) / 2)
   have SM : (q2.1 ≤ q2.2 ∧ q2.2 ≤ l.length) ∧ (∀ i (h : i < l.length), i < q2.1 → num l[i].k < num k) ∧ (∀ i (h : i < l.length), q2.2 ≤ i → num k ≤ num l[i].k) := ⟨⟨by show lo ≤ (lo + jM) / 2; omega, by show (lo + jM) / 2 ≤ l.length; omega⟩, hlo, (fun i h hi => by have hi2 : (lo + jM) / 2 ≤ i := hi; rcases Nat.lt_or_ge ((lo + jM) / 2) i with h_ | h_; exact Nat.le_of_lt (Nat.lt_of_le_of_lt C8 (List.pairwise_iff_getElem.1 hl _ i ZC h h_)); (have e_ : i = (lo + jM) / 2 := by omega); subst e_; exact C8)⟩
   have hd2 : q2.2 - q2.1 < jM - lo := by show (lo + jM) / 2 - lo < jM - lo; omega
   refine WE.dW (WL.mv rfl rfl (WL.as rfl rfl (WL.nil ?_)))
   exact ⟨q2, (by repeat (first | with_reducible exact bK.refl _ _ | refine bK.dG rfl ?_ | refine bK.bZ rfl ?_ | refine bK.bX rfl ?_)), ⟨rfl, rfl, trivial⟩, rfl, ⟨SM, H⟩, hd2⟩
 ·
  try simp only [bP] at iW
  have heq : lo = jM := by omega
  refine WE.exit ?_
  refine WE.bG (.take 0 (.take 1 (.take 2 (.take 3 (.take 4 (.take 5 (.take 6 (.take 7 (.take 8 (.take 9 (.take 10 (.aG 11 (.take 12 (.take 13 (.take 14 (.take 15 .done)))))))))))))))) mixed (by kernel_rfl) ?_
  replace H := H.out (Out.drew _)
  refine WP.mv rfl rfl rfl (WP.mv rfl rfl rfl (WP.mv rfl rfl rfl (WP.aC rfl rfl (PV.lss rfl rfl rfl) (WP.mv rfl rfl rfl ?_))))
  refine WP.split (t := 39) rfl (fun S9 => ?_) (fun S9 => ?_)
  ·
   refine WP.known (t := 38) (c := true) rfl S9 ?_
   try simp only [bP] at S9
   have SR : lo < l.length := by omega
   have aFl := hx _ (List.getElem_mem SR)
   have TL := jN aFl
   refine WP.mv rfl rfl rfl (WP.mv rfl rfl rfl (WP.mv rfl rfl rfl ?_))
   refine WP.aC rfl rfl (PV.dX rfl (by exact (H.p 0 rfl : gN s l _)) eE eU rfl rfl (by omega) (by omega)) ?_
   refine WP.dO rfl rfl rfl tT rfl (gN.rd (by exact (H.p 0 rfl : gN s l _)) hx lo SR) (by (rw [eU]; refine congrArg some ?_; (symm; assumption))) ?_
   refine WP.dO rfl rfl rfl c7 rfl (aN.aF (H.l 0 rfl) (aK.all _) rfl) (cI cM (by simp only [aS]; omega)) ?_
   refine WP.aG rfl ?_
   refine WL.iZ rfl rfl (hf l[lo] _ aFl) ?_
   rintro _ w7 ⟨rfl, hO⟩
   replace H := H.out hO
   refine WL.nil ⟨(fa (nw 11 10) (fa (nw 11 9) c8)), ?_⟩
   refine WP.aC rfl rfl (PV.eql rfl rfl rfl) (WP.aC rfl rfl (PV.c5 rfl rfl rfl) (WP.as rfl rfl rfl (WP.as rfl rfl rfl (WP.done (WE.ret ⟨[_, _], _, .nil _, ⟨rfl, rfl, trivial⟩, ?_⟩)))))
   refine ⟨lo, _, rfl, H.aL, by omega, hlo, (by rw [heq]; exact hge), ?_⟩
   (constructor; (intro h_; exact ⟨SR, u3.1 (by simpa using h_)⟩); (rintro ⟨_, h_⟩; simpa using u3.2 h_))
  ·
   refine WP.known (t := 38) (c := false) rfl S9 ?_
   try simp only [bP] at S9
   have SR : ¬ lo < l.length := by omega
   refine WP.eD rfl rfl (WP.eD rfl rfl (WP.eD rfl rfl (WP.eD rfl rfl (WP.eD rfl rfl (WP.eD rfl rfl (WP.aG rfl (WL.off rfl ?_)))))))
   refine WL.nil ⟨c8, ?_⟩
   refine WP.eD rfl rfl (WP.aC rfl rfl (PV.cF rfl rfl rfl) (WP.as rfl rfl rfl (WP.as rfl rfl rfl (WP.done (WE.ret ⟨[_, _], _, .nil _, ⟨rfl, rfl, trivial⟩, ?_⟩)))))
   refine ⟨lo, _, rfl, H.aL, by omega, hlo, (by rw [heq]; exact hge), ?_⟩
   (constructor; (intro h_; cases h_); (rintro ⟨h_, _⟩; exact absurd h_ SR))
def kV (l : List Ch) (r : Nat) (x : Ch) : List Ch := l.take r ++ x :: l.drop r
theorem yG (l : List Ch) {r : Nat} (x : Ch) (hr : r ≤ l.length) : (kV l r x).length = l.length + 1 := by simp [kV]; omega
theorem jD {l : List Ch} {r : Nat} {x c : Ch} : c ∈ kV l r x ↔ c = x ∨ c ∈ l := by
 have e : c ∈ l ↔ c ∈ l.take r ∨ c ∈ l.drop r := by rw [← List.mem_append, List.take_append_drop]
 unfold kV
 rw [List.mem_append, List.mem_cons, e]
 constructor
 ·
  rintro (h | h | h)
  ·
   exact .inr (.inl h)
  ·
   exact .inl h
  ·
   exact .inr (.inr h)
 ·
  rintro (h | h | h)
  ·
   exact .inr (.inl h)
  ·
   exact .inl h
  ·
   exact .inr (.inr h)
theorem LQ {l : List Ch} {r : Nat} {x : Ch} (hl : sL l) (h1 : ∀ i (h : i < l.length), i < r → num l[i].k < num x.k) (h2 : ∀ i (h : i < l.length), r ≤ i → num x.k < num l[i].k) : sL (kV l r x) := by
 unfold sL kV
 rw [List.pairwise_append]
 refine ⟨hl.sublist (List.take_sublist ..), List.pairwise_cons.2 ⟨fun c hc => ?_, hl.sublist (List.drop_sublist ..)⟩, fun a ha b hb => ?_⟩
 ·
  obtain ⟨i, hi, rfl⟩ := List.getElem_of_mem hc
  rw [List.length_drop] at hi
  rw [List.getElem_drop]
  exact h2 _ (by omega) (by omega)
 ·
  obtain ⟨i, hi, rfl⟩ := List.getElem_of_mem ha
  rw [List.length_take] at hi
  rw [List.getElem_take]
  have e1 := h1 i (by omega) (by omega)
  rcases List.mem_cons.1 hb with rfl | hb
  ·
   exact e1
  ·
   obtain ⟨j, hj, rfl⟩ := List.getElem_of_mem hb
   rw [List.length_drop] at hj
   rw [List.getElem_drop]
   exact Nat.lt_trans e1 (h2 _ (by omega) (by omega))
theorem M4 (q : Nat) (zl : List Value) (hz : 0 < zl.length) : jY q zl = (List.replicate q zl).flatMap id := by
 have hl : ∀ x ∈ List.replicate q zl, (id x).length = zl.length := fun x hx => by rw [(List.mem_replicate.1 hx).2]; rfl
 have hlen := dL (C := id) (List.replicate q zl) hl
 rw [List.length_replicate] at hlen
 refine List.ext_getElem (by rw [hlen]; simp [jY]) fun j h1 h2 => ?_
 have hj : j < q * zl.length := by rw [hlen] at h2; exact h2
 have hq : j / zl.length < q := (Nat.div_lt_iff_lt_mul hz).2 hj
 have hs := tM (C := id) (List.replicate q zl) hl (j / zl.length) (by rw [List.length_replicate]; exact hq)
 rw [List.getElem_replicate] at hs
 have hm := Nat.mod_lt j hz
 have e1 : ((List.replicate q zl).flatMap id)[j]? = zl[j % zl.length]? := by
  have : (((List.replicate q zl).flatMap id).drop (j / zl.length * zl.length)).take zl.length = zl := hs
  have e2 : zl[j % zl.length]? = ((((List.replicate q zl).flatMap id).drop (j / zl.length * zl.length)).take zl.length)[j % zl.length]? := by rw [this]
  rw [e2, List.getElem?_take_of_lt hm, List.getElem?_drop]
  congr 1
  have := Nat.div_add_mod j zl.length
  rw [Nat.mul_comm] at this
  omega
 have e3 : (jY q zl)[j]? = zl[j % zl.length]? := by
  unfold jY
  rw [List.getElem?_map, List.getElem?_range (by exact hj), Option.map_some, getElem!_pos zl _ hm, List.getElem?_eq_getElem hm]
 rw [← Option.some_inj, ← List.getElem?_eq_getElem, ← List.getElem?_eq_getElem, e1, e3]
def zCh : Ch := ⟨List.replicate 32 0, .slice none 0 0, [], false⟩
theorem XA (q : Nat) : jY q (eL zCh) = (List.replicate q zCh).flatMap eL := by
 rw [M4 q _ (by decide), List.flatMap_replicate, List.flatMap_replicate]; rfl
theorem cO.aA8 {w : World} {g n c : Nat} {t : TypeId} {l : List Value} (h : aN w g t l) (hn : n * 34 ≤ l.length) (hc : n ≤ c) : cO w (.slice (some ⟨g, 0, none⟩) n c) 34 n (l.take (n * 34)) :=
 cO.oC (h.aF (show aK l 0 (l.take (n * 34)) from ⟨[], l.drop (n * 34), by rw [List.nil_append, List.take_append_drop], rfl⟩) rfl) (by rw [List.length_take]; omega) hc
theorem St.aDr {X : Nat → Prop} {w : World} {base sz n : Nat} {e : TypeId} {xs : List Value} {v : Value} (hX : c6 X w) (hrow : w.ownsRow base e sz v n xs) : St X w w [aP.gZ base v e sz n xs] [] [] :=
 St.start hX (fun x hx => by rw [List.mem_singleton.1 hx]; exact hrow) (List.pairwise_singleton _ _) (fun _ hp => by cases hp)
theorem aIK {X : Nat → Prop} {w : World} {p : World → Prop} {base sz n : Nat} {e : TypeId} {xs : List Value} {v : Value} (h : aH (fun c => X c ∨ v.ownBlock = some c) p w) : aH (YY X [aP.gZ base v e sz n xs] []) p w :=
 h.mono fun c _ hc => by
  rcases hc with hc | ⟨x, hx, hc⟩ | ⟨x, hx, _⟩
  ·
   exact .inl hc
  ·
   rw [List.mem_singleton.1 hx] at hc; exact .inr hc
  ·
   cases hx
theorem N1 {a : List Ch} {b c : List Ch} {more : List Value} {oo : Nat} (ha : XL a) (hb : XL b) (hc : XL c) (hbc : b.length = c.length) (ho : oo = a.length * 34) : Laid ((a ++ b).flatMap eL ++ more) oo (c.flatMap eL) ((a ++ c).flatMap eL ++ more) := by
 refine Laid.left ?_
 rw [List.flatMap_append, List.flatMap_append]
 exact Laid.right (o := 0) (Laid.all (by rw [dL _ hc.len, dL _ hb.len, hbc])) (by rw [ho, dL _ ha.len]; omega)
theorem Y2 {l : List Ch} {i : Nat} {x : Ch} (hi : i < l.length) : (l.take (i + 1) ++ l.drop i).set i x = kV l i x := by
 unfold kV
 rw [List.take_succ_eq_append_getElem hi, List.append_assoc, List.set_append_right (h := by rw [List.length_take]; omega), show i - (l.take i).length = 0 by rw [List.length_take]; omega]
 rfl
theorem NN {l : List Ch} {i : Nat} {r1 r2 : List Value} (hx : XL l) (hi : i ≤ l.length) : aK (l.flatMap eL ++ (r1 ++ r2)) (i * 34) ((l.drop i).flatMap eL ++ r1) := by
 refine ⟨(l.take i).flatMap eL, r2, ?_, by rw [dL _ (hx.take i).len, List.length_take]; congr 1; omega⟩
 have e : l.flatMap eL = (l.take i).flatMap eL ++ (l.drop i).flatMap eL := by rw [← List.flatMap_append, List.take_append_drop]
 rw [e]
 simp only [List.append_assoc]
theorem I8 {l : List Ch} {i oo : Nat} {r1 r2 : List Value} (hx : XL l) (hi : i < l.length) (SK : r1.length = 34) (ho : oo = (i + 1) * 34 := by rfl) : Laid (l.flatMap eL ++ (r1 ++ r2)) oo (((l.drop i).flatMap eL ++ r1).take ((l.length - i) * 34)) ((l.take (i + 1) ++ l.drop i).flatMap eL ++ r2) := by
 have hd : ((l.drop i).flatMap eL).length = (l.length - i) * 34 := by rw [dL _ (hx.drop i).len, List.length_drop]
 have ht : ((l.take (i + 1)).flatMap eL).length = (i + 1) * 34 := by rw [dL _ (hx.take _).len, List.length_take]; congr 1; omega
 rw [List.take_left' hd]
 have e1 : l.flatMap eL ++ (r1 ++ r2) = (l.take (i + 1)).flatMap eL ++ (((l.drop (i + 1)).flatMap eL ++ r1) ++ r2) := by
  have e : l.flatMap eL = (l.take (i + 1)).flatMap eL ++ (l.drop (i + 1)).flatMap eL := by rw [← List.flatMap_append, List.take_append_drop]
  rw [e]
  simp only [List.append_assoc]
 have e2 : (l.take (i + 1) ++ l.drop i).flatMap eL ++ r2 = (l.take (i + 1)).flatMap eL ++ ((l.drop i).flatMap eL ++ r2) := by rw [List.flatMap_append, List.append_assoc]
 rw [e1, e2]
 refine Laid.right (o := 0) (Laid.left (Laid.all ?_)) (by rw [ht, ho]; omega)
 rw [hd, List.length_append, dL _ (hx.drop _).len, List.length_drop, SK]; omega
theorem WI {X : Nat → Prop} {w : World} {v : Value} {base vb : Nat} {l : List Ch} {x : Ch} (hX : c6 X w) (bT : aH (fun c_ => X c_ ∨ v.ownBlock = some c_) (fun w => aN w vb 127 (eL x)) w) (hx : XL l) (N5 : x.k.length = 32) (iD : ∀ c ∈ l, c.s.oneCell' = true) (Y6 : x.s.oneCell' = true) (hlen : l.length ≤ 1000000) (hrow : w.ownsRow base 127 34 v l.length (l.flatMap eL)) (hbase : base ≤ w.heap.size) :
  bC prog 187 [v, .int .i64 ((l.length : Nat) : Int), .slice (some ⟨vb, 0, none⟩) 1 1].toArray w fun v' w' => Out (fun c => v.ownBlock = some c) w w' ∧ w'.ownsRow base 127 34 v' (l.length + 1) ((kV l l.length x).flatMap eL) ∧ ∀ b, v'.ownBlock = some b → v.ownBlock = some b ∨ w.heap.size ≤ b := by
 refine bC.aI (N := 95) func187 rfl rfl (by simp) ?_
 have H := St.aDr hX hrow
 replace H := H.add (aIK bT)
 have FF : (eL x).length = 1 * 34 := jN N5
 refine WE.aA (WL.as rfl rfl (WL.nil (WE.aA (WL.mv rfl rfl (WL.mv rfl rfl (WL.pv (PV.q9 rfl (cO.dM (H.o 0 rfl)) eE eU rfl rfl (by omega) (by omega)) rfl (WL.nil ?_)))))))
 refine WE.aA (WL.mv rfl rfl ?_)
 refine WL.pv (PV.dS (by exact cO.cA (n := 1) (H.p 0 rfl) FF) eE rfl) rfl ?_
 refine WL.as rfl rfl (WL.nil (WE.seq (WE.aA (WL.mv rfl rfl (WL.pv (PV.eql rfl rfl rfl) rfl (WL.nil ?_))))))
 refine WE.bD rfl rfl ?_
 refine WE.skip (WE.aA (WL.mv rfl rfl (WL.pv (PV.dS (cO.dM (H.o 0 rfl)) eE rfl) rfl (WL.as rfl rfl (WL.nil (WE.seq (WE.aA ?_)))))))
 refine WL.mv rfl rfl (WL.mv rfl rfl (WL.pv (PV.eql rfl rfl rfl) rfl (WL.nil ?_)))
 refine WE.cR rfl (by simp) ?_
 refine WE.aA (WL.mv rfl rfl (WL.mv rfl rfl ?_))
 refine WL.aAj (m := 1) H 0 hbase vH (by decide) rfl rfl rfl (by exact cO.cA (n := 1) (H.p 0 rfl) FF) (mC Y6) (by omega) (by decide) rfl ?_ ?_
 ·
  intro v25 w1 hgr H
  refine WL.as rfl rfl (WL.nil (WE.ret ⟨[_], _, .nil _, ⟨rfl, trivial⟩, ?_⟩))
  have hin : (kV l l.length x).flatMap eL = l.flatMap eL ++ eL x := by unfold kV; rw [List.take_length, List.drop_length, List.flatMap_append, List.flatMap_singleton]
  rw [hin]
  exact ⟨H.nA.mono fun c _ ⟨e, he, hc⟩ => (by rw [List.mem_singleton.1 he] at hc; exact hgr c hc), H.o 0 rfl, fun b hb => .inl (hgr b hb)⟩
 ·
  intro v25 w2 hgr H
  refine WL.as rfl rfl (WL.nil (WE.ret ⟨[_], _, .nil _, ⟨rfl, trivial⟩, ?_⟩))
  have hin : (kV l l.length x).flatMap eL = l.flatMap eL ++ eL x := by unfold kV; rw [List.take_length, List.drop_length, List.flatMap_append, List.flatMap_singleton]
  rw [hin]
  exact ⟨H.nA.mono fun c _ ⟨e, he, hc⟩ => (by rw [List.mem_singleton.1 he] at hc; exact hc), H.l 0 rfl, fun b hb => .inr (hgr b hb)⟩
theorem PN {X : Nat → Prop} {w : World} {g cap i vb : Nat} {l : List Ch} {x : Ch} {rest : List Value} (hX : c6 X w) (fA : aN w g 127 (l.flatMap eL ++ rest)) (bT : aH (fun c_ => X c_ ∨ c_ = g) (fun w => aN w vb 127 (eL x)) w) (hx : XL l) (N5 : x.k.length = 32) (iD : ∀ c ∈ l, c.s.oneCell' = true) (Y6 : x.s.oneCell' = true) (hlen : l.length ≤ 1000000) (j0 : l.length ≤ cap) (hi : i < l.length) (aK0 : cap < l.length + 1) :
  bC prog 187 [.slice (some ⟨g, 0, none⟩) l.length cap, .int .i64 (i : Int), .slice (some ⟨vb, 0, none⟩) 1 1].toArray w fun v' w' => ∃ (b c : Nat) (more : List Value), v' = .slice (some ⟨b, 0, none⟩) (l.length + 1) c ∧ Out Nil w w' ∧ w.heap.size ≤ b ∧ aN w' b 127 ((kV l i x).flatMap eL ++ more) ∧ l.length + 1 ≤ c ∧ c ≤ maxLen ∧ more.length = (c - (l.length + 1)) * 34 := by
 refine bC.aI (N := 95) func187 rfl rfl (by simp) ?_
 have H := (St.dK (b := g) (t := 127) (l := l.flatMap eL ++ rest) hX fA).add (cC bT)
 have FF : (eL x).length = 1 * 34 := jN N5
 refine WE.aA (WL.as rfl rfl (WL.nil (WE.aA (WL.mv rfl rfl (WL.mv rfl rfl ?_)))))
 refine WL.pv (PV.q9 rfl (gN.J7 (cap := cap) (H.o 0 rfl) hx rfl j0) eE eU rfl rfl (by omega) (by omega)) rfl ?_
 refine WL.nil (WE.aA (WL.mv rfl rfl ?_))
 refine WL.pv (PV.dS (by exact cO.cA (n := 1) (H.p 0 rfl) FF) eE rfl) rfl ?_
 refine WL.as rfl rfl (WL.nil (WE.seq (WE.aA (WL.mv rfl rfl (WL.pv (PV.eql rfl rfl rfl) rfl (WL.nil ?_))))))
 refine WE.bD rfl rfl ?_
 refine WE.skip (WE.aA (WL.mv rfl rfl (WL.pv (PV.dS (gN.J7 (cap := cap) (H.o 0 rfl) hx rfl j0) eE rfl) rfl (WL.as rfl rfl (WL.nil (WE.seq (WE.aA ?_)))))))
 refine WL.mv rfl rfl (WL.mv rfl rfl (WL.pv (PV.eql rfl rfl rfl) rfl (WL.nil ?_)))
 refine WE.bD rfl (by simp; omega) ?_
 refine WE.skip (WE.seq (WE.aA (WL.mv rfl rfl (WL.mv rfl rfl ?_))))
 refine WL.pv (PV.eq (v' := .int .i64 ((l.length + 1 : Nat) : Int)) (PV.bV rfl rfl rfl (by omega) (by omega)) rfl) rfl ?_
 refine WL.mv rfl rfl (WL.pv (PV.MM eE rfl) rfl (WL.pv (PV.gtr rfl rfl rfl) rfl (WL.nil ?_)))
 refine WE.cR rfl (by simp; omega) ?_
 refine WE.aA (WL.mv rfl rfl (WL.mv rfl rfl ?_))
 refine WL.pv (PV.eq (v' := .slice (some ⟨g, 0, none⟩) i cap) (PV.XQ rfl (gN.J7 (cap := cap) (H.o 0 rfl) hx rfl j0) eE eU rfl rfl (by omega) (by omega)) (by have h_ := iS (g := g) (n := l.length) (cap := cap) (lo := 0) (hi := i) (by omega); rw [Nat.zero_mul] at h_; exact h_)) rfl ?_
 refine WL.mv rfl rfl (WL.mv rfl rfl ?_)
 refine WL.pv (PV.eq (v' := .int .i64 ((l.length + 1 : Nat) : Int)) (PV.bV rfl rfl rfl (by omega) (by omega)) rfl) rfl ?_
 refine WL.mv rfl rfl ?_
 refine WL.pv (PV.eq (v' := .int .i64 ((l.length + 1 - i : Nat) : Int)) (PV.gE rfl rfl rfl (by omega) (by omega)) (by (congr 1; omega))) rfl ?_
 have hl0 : ((l.take i).flatMap eL).length = i * 34 := by rw [dL _ (hx.take i).len, List.length_take]; congr 1; omega
 refine WL.aF9 (zl := eL zCh) (olds := (l.take i).flatMap eL) H vH (by decide) Tryz.underlying3 rfl rfl (aN.aF (H.o 0 rfl) (show aK (l.flatMap eL ++ rest) 0 _ from ⟨[], (l.drop i).flatMap eL ++ rest, by rw [List.nil_append, ← List.append_assoc, ← List.flatMap_append, List.take_append_drop], rfl⟩) rfl) hl0 (by omega) (by omega) (by omega) (by omega) rfl ?_
 intro b40 c40 w3 more hc1 hc2 zQ H
 rw [show i + (l.length + 1 - i) = l.length + 1 by omega] at hc1 zQ ⊢
 have aFs : w.heap.size ≤ b40 := H.kI _ (List.mem_of_getElem? (i := 0) rfl) b40 rfl
 obtain ⟨rs, hrs⟩ : ∃ rs, rs = l.take i ++ List.replicate (l.length + 1 - i) zCh := ⟨_, rfl⟩
 have hrl : rs.length = l.length + 1 := by rw [hrs]; simp; omega
 have hxr : XL rs := by rw [hrs]; intro c hc; rcases List.mem_append.1 hc with h_ | h_; exact hx.take i c h_; rw [(List.mem_replicate.1 h_).2]; rfl
 replace H := H.conv (L' := [aP.blk b40 127 (rs.flatMap eL ++ more)]) (by rw [XA, hrs, List.flatMap_append])
 have hSN := gN.J7 (cap := c40) (H.l 0 rfl) hxr hrl hc1
 refine WL.as rfl rfl (WL.nil (WE.aA (WL.mv rfl rfl (WL.mv rfl rfl ?_))))
 refine WL.pv (PV.eq (v' := .slice (some ⟨b40, (i) * 34, none⟩) (l.length + 1 - i) (c40 - i)) (PV.q9 rfl hSN eE eU rfl rfl (by omega) (by omega)) (iS (by omega))) rfl ?_
 refine WL.mv rfl rfl ?_
 have aI8 : rs.set i x = (l.take i ++ [x]) ++ List.replicate (l.length - i) zCh := by rw [hrs, List.set_append_right (h := by rw [List.length_take]; omega), show l.length + 1 - i = (l.length - i) + 1 by omega, List.replicate_succ, show i - (l.take i).length = 0 by rw [List.length_take]; omega, List.set_cons_zero, List.append_assoc]; rfl
 refine WL.MG (sz := 34) (l' := (rs.set i x).flatMap eL ++ more) H 0 eE eU rfl rfl rfl (by exact cO.cA (n := 1) (H.p 0 rfl) FF) (qE (mC Y6) _) (by rw [show min 1 (l.length + 1 - i) = 1 by omega, List.take_of_length_le (l := eL x) (by omega)]; exact qI (C := eL) rs hxr.len more (i := i) (by omega) (jN N5) rfl) rfl ?_
 intro DW H
 replace H := H.conv (L' := [aP.blk b40 127 (((l.take i ++ [x]) ++ List.replicate (l.length - i) zCh).flatMap eL ++ more)]) (by rw [← aI8]; rfl)
 have aE2 : XL (l.take i ++ [x]) := by intro c hc; rcases List.mem_append.1 hc with h_ | h_; exact hx.take i c h_; rw [List.mem_singleton.1 h_]; exact N5
 have hxz : XL (List.replicate (l.length - i) zCh) := by intro c hc; rw [(List.mem_replicate.1 hc).2]; rfl
 have aIZ : XL ((l.take i ++ [x]) ++ List.replicate (l.length - i) zCh) := by intro c hc; rcases List.mem_append.1 hc with h_ | h_; exact aE2 c h_; exact hxz c h_
 clear hSN
 have hSN := gN.J7 (cap := c40) (H.l 0 rfl) aIZ (by simp; omega) hc1
 refine WL.nil ?_
 refine WE.bG (.take 0 (.take 1 (.take 2 (.take 3 (.take 4 (.take 5 (.take 6 (.take 7 (.aG 8 .done))))))))) mixed (by kernel_rfl) ?_
 replace H := H.out (Out.drew _)
 refine WP.mv rfl rfl rfl (WP.mv rfl rfl rfl (WP.mv rfl rfl rfl ?_))
 refine WP.aC rfl rfl (PV.eq (v' := .int .i64 ((i + 1 : Nat) : Int)) (PV.bV rfl rfl rfl (by omega) (by omega)) rfl) ?_
 refine WP.aC rfl rfl (PV.eq (v' := .slice (some ⟨b40, (i + 1) * 34, none⟩) (l.length + 1 - (i + 1)) (c40 - (i + 1))) (PV.q9 rfl hSN eE eU rfl rfl (by omega) (by omega)) (by rcases Nat.lt_or_ge (i + 1) c40 with h_ | h_; exact iS h_; omega)) ?_
 refine WP.mv rfl rfl rfl (WP.mv rfl rfl rfl ?_)
 refine WP.aC rfl rfl (PV.eq (v' := .slice (some ⟨g, (i) * 34, none⟩) (l.length - i) (cap - i)) (PV.q9 rfl (gN.J7 (cap := cap) (H.o 0 rfl) hx rfl j0) eE eU rfl rfl (by omega) (by omega)) (iS (by omega))) ?_
 refine WP.aG rfl ?_
 have hSD : cO _ (.slice (some ⟨g, (i) * 34, none⟩) (l.length - i) (cap - i)) 34 (l.length - i) ((l.drop i).flatMap eL) := cO.oC (aN.aF (H.o 0 rfl) (L5 l hx.len rest i (by omega)) rfl) (by rw [dL _ (hx.drop i).len, List.length_drop]) (by omega)
 refine WL.MG (sz := 34) (l' := ((l.take i ++ [x]) ++ l.drop i).flatMap eL ++ more) H 0 eE eU rfl rfl rfl hSD (qE (CN fun c hc => iD c (List.mem_of_mem_drop hc)) _) (by rw [show min (l.length - i) (l.length + 1 - (i + 1)) = l.length - i by omega, List.take_of_length_le (l := (l.drop i).flatMap eL) (by rw [dL _ (hx.drop i).len, List.length_drop]; exact Nat.le_refl _)]; exact N1 aE2 hxz (hx.drop i) (by simp) (by rw [List.length_append, List.length_take, List.length_singleton]; omega)) rfl ?_
 intro w22 H
 refine WL.nil ⟨c8, ?_⟩
 refine WP.done (WE.aA (WL.mv rfl rfl (WL.as rfl rfl (WL.nil (WE.ret ⟨[_], _, .nil _, ⟨rfl, trivial⟩, ?_⟩)))))
 refine ⟨b40, c40, more, rfl, ?_, aFs, ?_, hc1, hc2, zQ⟩
 ·
  exact ⟨H.os, H.tape, H.output, H.size, fun b hb _ => by by_cases hbg : b = g; (subst hbg; exact (H.o 0 rfl).trans fA.symm); exact H.old b hb (by intro e he hc; rw [List.mem_singleton.1 he] at hc; exact hbg hc)⟩
 ·
  have h_ := H.l 0 rfl; have e_ : kV l i x = (l.take i ++ [x]) ++ l.drop i := by unfold kV; rw [List.append_assoc]; rfl
  rw [e_]; exact h_
theorem KO {X : Nat → Prop} {w : World} {g cap i vb : Nat} {l : List Ch} {x : Ch} {r1 r2 : List Value} (hX : c6 X w) (fA : aN w g 127 (l.flatMap eL ++ (r1 ++ r2))) (bT : aH (fun c_ => X c_ ∨ c_ = g) (fun w => aN w vb 127 (eL x)) w) (hx : XL l) (N5 : x.k.length = 32) (iD : ∀ c ∈ l, c.s.oneCell' = true) (Y6 : x.s.oneCell' = true) (hlen : l.length ≤ 1000000) (j0 : l.length + 1 ≤ cap) (hi : i < l.length) (SK : r1.length = 34) (hne : vb ≠ g) :
  bC prog 187 [.slice (some ⟨g, 0, none⟩) l.length cap, .int .i64 (i : Int), .slice (some ⟨vb, 0, none⟩) 1 1].toArray w fun v' w' => v' = .slice (some ⟨g, 0, none⟩) (l.length + 1) cap ∧ Out (· = g) w w' ∧ aN w' g 127 ((kV l i x).flatMap eL ++ r2) := by
 refine bC.aI (N := 95) func187 rfl rfl (by simp) ?_
 have H := (St.dK (b := g) (t := 127) (l := l.flatMap eL ++ (r1 ++ r2)) hX fA).add (cC bT)
 have FF : (eL x).length = 1 * 34 := jN N5
 have HP := dL (C := eL) l hx.len
 have hx2 : XL (l.take (i + 1) ++ l.drop i) := by intro c hc; rcases List.mem_append.1 hc with h_ | h_; exact hx.take _ c h_; exact hx.drop _ c h_
 refine WE.aA (WL.as rfl rfl (WL.nil (WE.aA (WL.mv rfl rfl (WL.mv rfl rfl ?_)))))
 refine WL.pv (PV.q9 rfl (gN.J7 (cap := cap) (H.o 0 rfl) hx rfl (by omega)) eE eU rfl rfl (by omega) (by omega)) rfl ?_
 refine WL.nil (WE.aA (WL.mv rfl rfl ?_))
 refine WL.pv (PV.dS (by exact cO.cA (n := 1) (H.p 0 rfl) FF) eE rfl) rfl ?_
 refine WL.as rfl rfl (WL.nil (WE.seq (WE.aA (WL.mv rfl rfl (WL.pv (PV.eql rfl rfl rfl) rfl (WL.nil ?_))))))
 refine WE.bD rfl rfl ?_
 refine WE.skip (WE.aA (WL.mv rfl rfl (WL.pv (PV.dS (gN.J7 (cap := cap) (H.o 0 rfl) hx rfl (by omega)) eE rfl) rfl (WL.as rfl rfl (WL.nil (WE.seq (WE.aA ?_)))))))
 refine WL.mv rfl rfl (WL.mv rfl rfl (WL.pv (PV.eql rfl rfl rfl) rfl (WL.nil ?_)))
 refine WE.bD rfl (by simp; omega) ?_
 refine WE.skip (WE.seq (WE.aA (WL.mv rfl rfl (WL.mv rfl rfl ?_))))
 refine WL.pv (PV.eq (v' := .int .i64 ((l.length + 1 : Nat) : Int)) (PV.bV rfl rfl rfl (by omega) (by omega)) rfl) rfl ?_
 refine WL.mv rfl rfl (WL.pv (PV.MM eE rfl) rfl (WL.pv (PV.gtr rfl rfl rfl) rfl (WL.nil ?_)))
 refine WE.bD rfl (by simp; omega) ?_
 refine WE.skip (WE.aA (WL.mv rfl rfl (WL.mv rfl rfl (WL.mv rfl rfl ?_))))
 refine WL.pv (PV.eq (v' := .int .i64 ((l.length + 1 : Nat) : Int)) (PV.bV rfl rfl rfl (by omega) (by omega)) rfl) rfl ?_
 have hSW := cO.aA8 (n := l.length + 1) (c := cap) (H.o 0 rfl) (by rw [List.length_append, List.length_append, HP, SK]; omega) j0
 refine WL.pv (PV.aEo (j := l.length + 1) rfl eE eU rfl rfl j0) rfl (WL.as rfl rfl (WL.nil (WE.seq (WE.aA (WL.mv rfl rfl (WL.mv rfl rfl (WL.mv rfl rfl ?_)))))))
 refine WL.mv rfl rfl (WL.pv (PV.eq (v' := .int .i64 ((i + 1 : Nat) : Int)) (PV.bV rfl rfl rfl (by omega) (by omega)) rfl) rfl ?_)
 refine WL.pv (PV.eq (v' := .slice (some ⟨g, (i + 1) * 34, none⟩) (l.length + 1 - (i + 1)) (cap - (i + 1))) (PV.q9 rfl hSW eE eU rfl rfl (by omega) (by omega)) (iS (by omega))) rfl ?_
 refine WL.extern (e := Extern.SlicesOverlaps.overlaps #[119, 119] #[4]) (v := .bool false) func202 (by kernel_rfl) (by kernel_rfl) (by kernel_rfl) (by kernel_rfl) rfl (zW eE eU (by exact H.p 0 rfl) (H.o 0 rfl) hne (by intro h_; have P5 := congrArg List.length h_; rw [List.length_append, List.length_append, SK] at P5; simp at P5)) ?_
 refine WL.pv (PV.not rfl rfl) rfl (WL.nil ?_)
 refine WE.cR rfl rfl ?_
 refine WE.bG (.take 0 (.take 1 (.take 2 (.take 3 (.take 4 (.take 5 (.take 6 (.take 7 (.aG 8 .done))))))))) mixed (by kernel_rfl) ?_
 replace H := H.out (Out.drew _)
 refine WP.mv rfl rfl rfl (WP.mv rfl rfl rfl (WP.mv rfl rfl rfl ?_))
 refine WP.aC rfl rfl (PV.eq (v' := .int .i64 ((i + 1 : Nat) : Int)) (PV.bV rfl rfl rfl (by omega) (by omega)) rfl) ?_
 refine WP.aC rfl rfl (PV.eq (v' := .slice (some ⟨g, (i + 1) * 34, none⟩) (l.length + 1 - (i + 1)) (cap - (i + 1))) (PV.q9 rfl hSW eE eU rfl rfl (by omega) (by omega)) (iS (by omega))) ?_
 refine WP.mv rfl rfl rfl (WP.mv rfl rfl rfl ?_)
 refine WP.aC rfl rfl (PV.eq (v' := .slice (some ⟨g, (i) * 34, none⟩) (l.length + 1 - i) (cap - i)) (PV.q9 rfl hSW eE eU rfl rfl (by omega) (by omega)) (iS (by omega))) ?_
 refine WP.aG rfl ?_
 have hSD : cO _ (.slice (some ⟨g, (i) * 34, none⟩) (l.length + 1 - i) (cap - i)) 34 (l.length + 1 - i) ((l.drop i).flatMap eL ++ r1) := cO.oC (aN.aF (H.o 0 rfl) (NN hx (by omega)) rfl) (by rw [List.length_append, dL _ (hx.drop i).len, List.length_drop, SK]; omega) (by omega)
 refine WL.aBK (sz := 34) (l' := (l.take (i + 1) ++ l.drop i).flatMap eL ++ r2) H 0 eE eU rfl rfl rfl hSD (by rw [show min (l.length + 1 - i) (l.length + 1 - (i + 1)) = l.length - i by omega, List.take_left' (by rw [dL _ (hx.drop i).len, List.length_drop])]; exact CN fun c hc => iD c (List.mem_of_mem_drop hc)) (by rw [show min (l.length + 1 - i) (l.length + 1 - (i + 1)) = l.length - i by omega]; exact I8 hx hi SK) rfl ?_
 intro w4 H
 clear hSW
 have hSW := cO.aA8 (n := l.length + 1) (c := cap) (H.o 0 rfl) (by rw [List.length_append, dL _ hx2.len]; simp; omega) j0
 refine WL.nil ⟨c8, ?_⟩
 refine WP.done (WE.aA (WL.mv rfl rfl (WL.mv rfl rfl ?_)))
 refine WL.pv (PV.eq (v' := .slice (some ⟨g, (i) * 34, none⟩) (l.length + 1 - i) (cap - i)) (PV.q9 rfl hSW eE eU rfl rfl (by omega) (by omega)) (iS (by omega))) rfl ?_
 refine WL.mv rfl rfl ?_
 refine WL.aBK (sz := 34) (l' := ((l.take (i + 1) ++ l.drop i).set i x).flatMap eL ++ r2) H 0 eE eU rfl rfl rfl (by exact cO.cA (n := 1) (H.p 0 rfl) FF) (qE (mC Y6) _) (by rw [show min 1 (l.length + 1 - i) = 1 by omega, List.take_of_length_le (l := eL x) (by omega)]; exact qI (C := eL) _ hx2.len r2 (i := i) (by simp; omega) (jN N5) rfl) rfl ?_
 intro w8 H
 refine WL.nil (WE.aA (WL.mv rfl rfl (WL.as rfl rfl (WL.nil (WE.ret ⟨[_], _, .nil _, ⟨rfl, trivial⟩, ?_⟩)))))
 refine ⟨rfl, H.nA.mono fun b _ ⟨_, he, hb⟩ => (by cases List.mem_singleton.1 he; exact hb), ?_⟩
 have h_ := H.o 0 rfl
 have e_ : (l.take (i + 1) ++ l.drop i).set i x = kV l i x := Y2 hi
 rw [← e_]; exact h_
theorem G8 {w : World} {base vb i : Nat} {v : Value} {l : List Ch} {x : Ch} (hf : aH (fun c => v.ownBlock = some c) (fun w => aN w vb 127 (eL x)) w) (hx : XL l) (N5 : x.k.length = 32) (iD : ∀ c ∈ l, c.s.oneCell' = true) (Y6 : x.s.oneCell' = true) (hlen : l.length ≤ 1000000)
  (hrow : w.ownsRow base 127 34 v l.length (l.flatMap eL)) (hbase : base ≤ w.heap.size) (hne : ¬ v.ownBlock = some vb) (hi : i ≤ l.length) :
  bC prog 187 [v, .int .i64 (i : Int), .slice (some ⟨vb, 0, none⟩) 1 1].toArray w fun v' w' => Out (fun c => v.ownBlock = some c) w w' ∧ w'.ownsRow base 127 34 v' (kV l i x).length ((kV l i x).flatMap eL) ∧ ∀ b, v'.ownBlock = some b → v.ownBlock = some b ∨ w.heap.size ≤ b := by
 have hil := yG l x hi
 have hix : XL (kV l i x) := fun c hc => by
  rcases jD.1 hc with rfl | h
  ·
   exact N5
  ·
   exact hx c h
 by_cases he : i = l.length
 ·
  subst he
  rw [hil]
  exact WI (X := Nil) (fun _ h => h.elim) (hf.mono fun b _ h => h.elim (fun h => h.elim) id) hx N5 iD Y6 hlen hrow hbase
 ·
  have hlt : i < l.length := by omega
  obtain ⟨h1, ⟨rfl, h2⟩ | ⟨g, cap, cur, rfl, hg, C6, j0, SQ, hsz, FH⟩⟩ := hrow
  ·
   omega
  ·
   obtain ⟨rest, aBb⟩ : ∃ rest, rest = cur.toList.drop (l.length * 34) := ⟨_, rfl⟩
   have hB : aN w g 127 (l.flatMap eL ++ rest) := by
    unfold aN
    rw [aBb, ← FH, List.take_append_drop]
    exact C6
   have hrl : rest.length = cap * 34 - l.length * 34 := by rw [aBb, List.length_drop, Array.length_toList, hsz]
   have hgl : g < w.heap.size := hB.lt
   rcases Nat.lt_or_ge cap (l.length + 1) with hc | hc
   ·
    refine (PN (X := Nil) (i := i) (vb := vb) (x := x) (fun _ h => h.elim) hB (hf.mono fun b _ h => by rcases h with h | h; exact h.elim; rw [h]; rfl) hx N5 iD Y6 hlen j0 hlt hc).mono ?_
    rintro v' w' ⟨b, c, more, rfl, hO, hge, hB', hc1, hc2, zQ⟩
    rw [hil]
    refine ⟨hO.mono fun _ _ h => h.elim, ⟨by rw [dL _ hix.len, hil], .inr ⟨b, c, ((kV l i x).flatMap eL ++ more).toArray, rfl, Nat.le_trans hbase hge, hB', by omega, hc2, ?_, ?_⟩⟩, fun b' hb' => .inr (by have h_ : b = b' := Option.some.inj hb'; omega)⟩
    ·
     simp only [List.size_toArray, List.length_append]
     rw [dL _ hix.len, zQ, hil]
     omega
    ·
     rw [List.toList_toArray, List.take_left' (by rw [dL _ hix.len, hil])]
   ·
    have aLw : 34 ≤ rest.length := by rw [hrl]; omega
    have hr : rest = rest.take 34 ++ rest.drop 34 := (List.take_append_drop 34 rest).symm
    rw [hr] at hB
    refine (KO (X := Nil) (i := i) (vb := vb) (x := x) (fun _ h => h.elim) hB (hf.mono fun b _ h => by rcases h with h | h; exact h.elim; rw [h]; rfl) hx N5 iD Y6 hlen hc hlt (by rw [List.length_take]; omega) (fun h => hne (by rw [h]; rfl))).mono ?_
    rintro v' w' ⟨rfl, hO, hB'⟩
    rw [hil]
    refine ⟨hO.mono fun b _ h => by rw [h]; rfl, ⟨by rw [dL _ hix.len, hil], .inr ⟨g, cap, ((kV l i x).flatMap eL ++ rest.drop 34).toArray, rfl, hg, hB', by omega, SQ, ?_, ?_⟩⟩, fun b' hb' => .inl hb'⟩
    ·
     simp only [List.size_toArray, List.length_append]
     rw [dL _ hix.len, hil, List.length_drop, hrl]
     omega
    ·
     rw [List.toList_toArray, List.take_left' (by rw [dL _ hix.len, hil])]
theorem E7 {k : List UInt8} (hk : k.length = 32) (c : Ch) (W : World) (h : c.k.length = 32) : eR prog (wU 186) [.agg (eL c).toArray, .agg (kc k).toArray] W fun v W' => v = .int .i64 (iM c.k k) ∧ Out Nil W W' :=
 eR.jQ (fs := []) (cs := []) aGQ (R5 (X := Nil) (fun _ h => h.elim) h hk)
theorem CO {a b : List UInt8} (ha : a.length = 32) (hb : b.length = 32) : num a = num b ↔ a = b := ⟨s9 _ _ (by rw [ha, hb]), fun h => by rw [h]⟩
theorem RA {m m' : List En} {k : List UInt8} (h : m.map kv = m'.map kv) : (fJ m k).map kv = (fJ m' k).map kv := by
 have e : ∀ l : List En, (fJ l k).map kv = (l.map kv).filter fun x => decide (x.1 ≠ k) := fun l => by rw [List.filter_map]; rfl
 rw [e, e, h]
theorem LP (e : En) : ∀ l l' : List En, l.map kv = l'.map kv → (ins e l).map kv = (ins e l').map kv
 | [], [], _ => rfl
 | [], _ :: _, h => by simp at h
 | _ :: _, [], h => by simp at h
 | x :: l, y :: l', h => by
  rw [List.map_cons, List.map_cons] at h
  injection h with h1 h2
  have hk : x.k = y.k := congrArg Prod.fst h1
  have ih := LP e l l' h2
  unfold ins
  rw [hk]
  split
  ·
   rw [List.map_cons, List.map_cons, List.map_cons, List.map_cons, h1, h2]
  ·
   rw [List.map_cons, List.map_cons, h1, ih]
theorem RI {m m' : List En} {e : En} (h : m.map kv = m'.map kv) : (iC m e).map kv = (iC m' e).map kv := LP e _ _ (RA h)
theorem J8 : ∀ (l : List Ch) (m m' : List En), m.map kv = m'.map kv → (mG m l).map kv = (mG m' l).map kv
 | [], _, _, h => h
 | c :: l, m, m', h => J8 l (zB m c) (zB m' c) (by
  unfold zB
  split
  ·
   exact RA h
  ·
   exact RI h)
theorem St.aA1 {X : Nat → Prop} {w0 w : World} {O L : List aP} {Ps : List (World → Prop)} (H : St X w0 w O L Ps) (i j : Nat) {e1 e2 : aP} (hi : L[i]? = some e1) (hj : L[j]? = some e2) (hij : i ≠ j) : aH e1.fp e2.ok w := fun w' hw =>
 e2.loc w w' (fun b hb => hw b (H.WW e2 (List.mem_of_getElem? hj) b hb) fun h => fC H.iR hij hi hj b ⟨h, hb⟩) (H.l j hj)
theorem YI {X : Nat → Prop} {w : World} {bits : Int} {s s0 : Value} {l : List Ch} {a : Nat} {q u : List UInt8} (hX : c6 X w) (bT : aH X (cV bits (.leaf a q u s0 : Tr)) w) (dJ : aH X (gN s l) w) (fQ : aH X (iA l) w) (hx : XL l) (hl : sL l) (hsh : pP l) (hlen : l.length ≤ 999999) :
  bC prog 147 [(.leaf a q u s0 : Tr).ptr, s].toArray w fun v w' => ∃ l' : List Ch, Out Nil w w' ∧ aH X (gN v l') w' ∧ aH X (iA l') w' ∧ (XL l' ∧ sL l' ∧ pP l') ∧ l'.length ≤ l.length + 1 ∧ (∀ c ∈ l', c ∈ l ∨ c.k = q) ∧ ∀ (d : Nat) (e : En), e.k = q → e.v = u → grow d (mG [] l') = grow d (mG [e] l) := by
 refine bC.aI (N := 29) func147 rfl rfl (by simp) ?_
 have H := (((St.begin hX).add (cE fQ)).add (cE dJ)).add (cE bT)
 have hq : q.length = 32 := cV.gY (bT.here)
 have hul : u.length ≤ 1000000 := cV.QM (bT.here)
 have iD := gN.one (s := s) (fQ.here)
 refine WE.aA (WL.as rfl rfl (WL.nil (WE.aA (WL.mv rfl rfl ?_))))
 refine WL.call aC9 rfl (DV (T := (.leaf a q u s0 : Tr)) (bits := bits) H.aR (by exact H.bJ 0 rfl) ) ?_
 rintro _ w1 ⟨QW, rfl, hO, iE⟩
 have LV := cO.fW (bL.dM iE)
 have hr_ := (nB H.aR iE).imp fun _ h => bL.dM h
 replace H := (H.out hO).add hr_
 refine WL.alloc H rfl lC rfl ?_
 intro b5 w2 H
 refine WL.aW H 0 rfl rfl rfl (new := kc q ++ [QW]) rfl (cI fH (by simp only [aS]; omega)) (bN (bH _) (bB _ (by simp [LV]))) (Laid.at (Laid.all (by simp only [aS]; omega)) rfl) rfl ?_
 intro w3 H
 refine WL.nil (WE.aA (WL.mv rfl rfl (WL.pv (PV.fieldAddr rfl gK rfl) rfl ?_)))
 refine WL.bE rfl c7 rfl rfl (aN.aF (H.l 0 rfl) (aK.l (aK.all _)) rfl) (cI cM (by simp only [aS]; omega)) ?_
 refine WL.call aGR rfl (aIt (s := s) (l := l) (k := q) (f := wU 186) H.aR (by exact (H.bJ 2 rfl : aH _ (gN s l) _)) hx hl (by omega) hq (E7 hq)) ?_
 rintro _ w4 ⟨r, b, rfl, hO, hr, hlo, hge, hb⟩
 replace H := H.out hO
 refine WL.mv rfl rfl (WL.pv (PV.extract rfl rfl rfl) rfl (WL.pv (PV.extract rfl rfl rfl) rfl (WL.as rfl rfl (WL.as rfl rfl (WL.nil (WE.seq (WE.aA ?_)))))))
 refine WL.mv rfl rfl (WL.nil ?_)
 refine WE.cond rfl (fun iW => ?_) (fun iW => ?_)
 ·
  try simp only [bP] at iW
  have hbt : b = true := by exact iW
  obtain ⟨hrl, hrn⟩ := hb.1 hbt
  have hrk : l[r].k = q := (CO (hx _ (List.getElem_mem hrl)) hq).1 hrn
  refine WE.aA (WL.mv rfl rfl (WL.as rfl rfl (WL.nil (WE.ret ⟨[_], _, .nil _, ⟨rfl, trivial⟩, ?_⟩))))
  refine ⟨l, H.aL, H.fX (by exact (H.bJ 2 rfl : aH _ (gN s l) _)), H.fX (by exact (H.bJ 3 rfl : aH _ (iA l) _)), ⟨hx, hl, hsh⟩, Nat.le_succ _, (fun c hc => .inl hc), fun d e he _ => ?_⟩
  rw [O9 hx hl (by rw [he]; exact hq) ⟨l[r], List.getElem_mem hrl, by rw [he]; exact hrk⟩]
 ·
  try simp only [bP] at iW
  have hbf : b = false := by exact iW
  have N7 : ∀ c ∈ l, c.k ≠ q := fun c hc hh => by obtain ⟨i, hi, rfl⟩ := List.getElem_of_mem hc; rcases Nat.lt_or_ge i r with h_ | h_; have P5 := hlo i hi h_; rw [hh] at P5; omega; rcases Nat.lt_or_ge r i with ZN | ZN; have h4_ := List.pairwise_iff_getElem.1 hl r i (by omega) hi ZN; have h5_ := hge r (by omega) (Nat.le_refl _); rw [hh] at h4_; omega; (have h6_ : i = r := by omega); subst h6_; have h7_ := hb.2 ⟨hi, by rw [hh]⟩; rw [hbf] at h7_; cases h7_
  refine WE.skip ?_
  refine WE.bG (.take 0 (.take 2 (.take 3 (.take 4 (.take 5 (.take 6 (.take 7 (.jT 1 (.aG 8 (.aG 9 (.take 10 .done))) 8 (.aG 1 (.aG 9 (.take 10 .done))))))))))) mixed (by kernel_rfl) ?_
  replace H := H.out (Out.drew _)
  refine WP.mv rfl rfl rfl (WP.mv rfl rfl rfl (WP.aC rfl rfl (PV.fieldAddr rfl gK rfl) ?_))
  refine WP.dO rfl rfl rfl c7 rfl (aN.aF (H.l 0 rfl) (aK.l (aK.all _)) rfl) (cI cM (by simp only [aS]; omega)) ?_
  refine WP.aC rfl rfl (PV.fieldAddr rfl mD rfl) ?_
  refine WP.aM rfl rfl (RV.aV rfl eH rfl) (aN.aF (H.l 0 rfl) (aK.r (aK.all _) rfl) (by simp [aJ, aQ, *])) ?_
  refine WP.aC rfl rfl (PV.dQ rfl aA7 AL (Fl.cons rfl rfl (by simp only [aS]; omega) (Laid.left (Laid.all (by simp only [aS]; omega))) (Fl.cons rfl (cells_one LV) (by simp only [aS]) (Laid.right (Laid.left (Laid.all (by simp only [aS]))) (by simp only [aS]; omega)) Fl.nil))) ?_
  refine WP.jT rfl rfl ?_ ?_ 
  ·
   refine WL.call UA rfl (zO (l := l) H.aR (by exact (H.bJ 2 rfl : aH _ (gN s l) _)) hx (by omega) iD) ?_
   rintro v20 w5 ⟨hO, iE⟩
   replace H := H.push hO (aP.gZ w.heap.size v20 127 34 _ _) (gR iE H.size) (fun b hb => (iE.lt b hb).1)
   refine WL.nil ⟨(fa (fun _ _ => (aN.aF (H.l 1 rfl) (aK.r (aK.all _) rfl) (by simp [aJ, aQ, *]))) (fa (fun _ _ => (aN.aF (H.l 1 rfl) (aK.l (aK.all _)) rfl)) c8)), ?_⟩
   refine WP.aG rfl ?_
   refine WL.bA (l0 := ((kc (List.replicate 32 0) ++ ([.slice none 0 0] ++ ([.bool false]))))) H rfl vH (by decide) rfl (Fl.cons rfl rfl (by simp only [aS]; omega) (Laid.all (by simp only [aS]; omega)) Fl.nil) rfl ?_
   intro b27 w6 H
   refine WL.nil ⟨(fa (nw 8 6) (fa (nw 8 4) c8)), ?_⟩
   refine WP.aG rfl ?_
   have hnv : ¬ v20.ownBlock = some b27 := by exact fun h => fC H.iR (i := 1) (j := 0) (by decide) rfl rfl b27 ⟨h, rfl⟩
   refine WL.call aBy rfl (G8 (base := w.heap.size) (vb := b27) (l := l) (x := ⟨q, QW, u, false⟩) (by exact St.aA1 H 1 0 rfl rfl (by decide)) hx hq iD LV (by omega) (by exact H.l 1 rfl) H.size hnv hr) ?_
   rintro v28 w7 ⟨hO, iE, hfp⟩
   replace H := H.o6 (i := 1) rfl hO (aP.gZ w.heap.size v28 127 34 _ _) iE hfp
   refine WL.nil ⟨(fa (nw 9 6) (fa (nw 9 4) c8)), ?_⟩
   refine WP.as rfl rfl rfl (WP.done (WE.ret ⟨[_], _, .nil _, ⟨rfl, trivial⟩, ?_⟩))
   have hlt : sL (kV l r ⟨q, QW, u, false⟩) := LQ hl hlo (fun i h hi => by have P5 := hge i h hi; rcases Nat.lt_or_ge (num q) (num l[i].k) with ZN | ZN; exact ZN; exact absurd ((CO (hx _ (List.getElem_mem h)) hq).1 (by omega)) (N7 _ (List.getElem_mem h)))
   refine ⟨kV l r ⟨q, QW, u, false⟩, H.aL, (by exact (nB hX (H.l 1 rfl)).imp fun _ h => cO.dM h), (H.fX (aH.and (by exact (H.bJ 3 rfl : aH _ (iA l) _)) (by exact (H.bJ 0 rfl : aH _ (bL QW u) _)))).imp fun _ h c hc => ?_, ⟨fun c hc => ?_, hlt, fun c hc => ?_⟩, by rw [yG l _ hr]; exact Nat.le_refl _, fun c hc => ?_, fun d e he hv => ?_⟩
   ·
    rcases jD.1 hc with rfl | h_; exact h.2; exact h.1 c h_
   ·
    rcases jD.1 hc with rfl | h_; exact hq; exact hx c h_
   ·
    rcases jD.1 hc with rfl | h_; exact hul; exact hsh c h_
   ·
    rcases jD.1 hc with rfl | h_; exact .inr rfl; exact .inl h_
   ·
    rw [MU (l := l) (e := ⟨q, QW, u⟩) hx hl hlt hq N7 (fun c => jD)]; exact LZ (J8 l _ _ (by obtain ⟨ek, es, ev⟩ := e; subst he; subst hv; rfl))
  ·
   refine WL.bA (l0 := ((kc (List.replicate 32 0) ++ ([.slice none 0 0] ++ ([.bool false]))))) H rfl vH (by decide) rfl (Fl.cons rfl rfl (by simp only [aS]; omega) (Laid.all (by simp only [aS]; omega)) Fl.nil) rfl ?_
   intro b27 w8 H
   refine WL.nil ⟨(fa (nw 8 6) (fa (nw 8 4) c8)), ?_⟩
   refine WP.aG rfl ?_
   refine WL.call UA rfl (zO (l := l) H.aR (by exact (H.bJ 2 rfl : aH _ (gN s l) _)) hx (by omega) iD) ?_
   rintro v20 w9 ⟨hO, iE⟩
   replace H := H.push hO (aP.gZ w.heap.size v20 127 34 _ _) (gR iE H.size) (fun b hb => (iE.lt b hb).1)
   refine WL.nil ⟨(fa (fun _ _ => (aN.aF (H.l 2 rfl) (aK.r (aK.all _) rfl) (by simp [aJ, aQ, *]))) (fa (fun _ _ => (aN.aF (H.l 2 rfl) (aK.l (aK.all _)) rfl)) c8)), ?_⟩
   refine WP.aG rfl ?_
   have hnv : ¬ v20.ownBlock = some b27 := by exact fun h => fC H.iR (i := 0) (j := 1) (by decide) rfl rfl b27 ⟨h, rfl⟩
   refine WL.call aBy rfl (G8 (base := w.heap.size) (vb := b27) (l := l) (x := ⟨q, QW, u, false⟩) (by exact St.aA1 H 0 1 rfl rfl (by decide)) hx hq iD LV (by omega) (by exact H.l 0 rfl) H.size hnv hr) ?_
   rintro v28 tX ⟨hO, iE, hfp⟩
   replace H := H.o6 (i := 0) rfl hO (aP.gZ w.heap.size v28 127 34 _ _) iE hfp
   refine WL.nil ⟨(fa (nw 9 6) (fa (nw 9 4) c8)), ?_⟩
   refine WP.as rfl rfl rfl (WP.done (WE.ret ⟨[_], _, .nil _, ⟨rfl, trivial⟩, ?_⟩))
   have hlt : sL (kV l r ⟨q, QW, u, false⟩) := LQ hl hlo (fun i h hi => by have P5 := hge i h hi; rcases Nat.lt_or_ge (num q) (num l[i].k) with ZN | ZN; exact ZN; exact absurd ((CO (hx _ (List.getElem_mem h)) hq).1 (by omega)) (N7 _ (List.getElem_mem h)))
   refine ⟨kV l r ⟨q, QW, u, false⟩, H.aL, (by exact (nB hX (H.l 0 rfl)).imp fun _ h => cO.dM h), (H.fX (aH.and (by exact (H.bJ 3 rfl : aH _ (iA l) _)) (by exact (H.bJ 0 rfl : aH _ (bL QW u) _)))).imp fun _ h c hc => ?_, ⟨fun c hc => ?_, hlt, fun c hc => ?_⟩, by rw [yG l _ hr]; exact Nat.le_refl _, fun c hc => ?_, fun d e he hv => ?_⟩
   ·
    rcases jD.1 hc with rfl | h_; exact h.2; exact h.1 c h_
   ·
    rcases jD.1 hc with rfl | h_; exact hq; exact hx c h_
   ·
    rcases jD.1 hc with rfl | h_; exact hul; exact hsh c h_
   ·
    rcases jD.1 hc with rfl | h_; exact .inr rfl; exact .inl h_
   ·
    rw [MU (l := l) (e := ⟨q, QW, u⟩) hx hl hlt hq N7 (fun c => jD)]; exact LZ (J8 l _ _ (by obtain ⟨ek, es, ev⟩ := e; subst he; subst hv; rfl))
theorem VZ {X : Nat → Prop} {w : World} {n : Nat} {f : Value} {p : Nat → Bool} (hX : c6 X w) (hf : ∀ (i : Nat) (W : World), i < n → Out Nil w W → eR prog f [.int .i64 (i : Int)] W fun v W' => v = .bool (p i) ∧ Out Nil W W') (hn : n ≤ 1000000) :
  bC prog 189 [.int .i64 (n : Int), f].toArray w fun v w' => ∃ r : Nat, v = .int .i64 (r : Int) ∧ Out Nil w w' ∧ r ≤ n ∧ (∀ i, i + 1 = r → p i = false) ∧ (r < n → p r = true) := by
 refine bC.aI (N := 26) func189 rfl rfl (by simp) ?_
 have H := St.begin hX
 refine WE.aA (WL.as rfl rfl (WL.nil (WE.aA (WL.mv rfl rfl (WL.as rfl rfl (WL.as rfl rfl (WL.nil ?_)))))))
 refine WE.seq (WE.block ?_)
 refine WE.loop (α := Nat × Nat) (rg [(5, 3), (9, 16)]) (fun q => [(5, .int .i64 (q.1 : Int)), (6, .int .i64 (q.2 : Int))]) (fun q wl => (q.1 ≤ q.2 ∧ q.2 ≤ n ∧ (∀ i, i + 1 = q.1 → p i = false) ∧ (q.2 < n → p q.2 = true)) ∧ St X w wl [] [] []) (fun q => q.2 - q.1) (0, n) ⟨rfl, rfl, trivial⟩ ⟨⟨Nat.zero_le _, Nat.le_refl _, (fun i h => by cases h), fun h => absurd h (Nat.lt_irrefl _)⟩, H⟩ ?_
 intro ⟨lo, jM⟩ γ0 w1 hI
 try dsimp only at hI
 obtain ⟨hq, H⟩ := hI
 have aLx : lo ≤ jM := hq.1
 have aJc : jM ≤ n := hq.2.1
 refine WE.seq (WE.aA (WL.mv rfl rfl (WL.mv rfl rfl (WL.pv (PV.lss rfl rfl rfl) rfl (WL.nil ?_)))))
 refine WE.cond rfl (fun j3 => ?_) (fun j3 => ?_)
 ·
  try simp only [bP] at j3
  have hlt : lo < jM := by omega
  refine WE.skip (WE.block (WE.aA (WL.mv rfl rfl (WL.mv rfl rfl (WL.pv (PV.eq (v' := .int .i64 ((lo + jM : Nat) : Int)) (PV.bV rfl rfl rfl (by omega) (by omega)) rfl) rfl ?_)))))
  refine WL.pv (PV.eq (v' := .int .u64 ((lo + jM : Nat) : Int)) (PV.conv rfl tE AA rfl) (by (rw [oU]; congr 1; omega))) rfl ?_
  refine WL.pv (PV.eq (v' := .int .u64 (((lo + jM) / 2 : Nat) : Int)) (PV.XX rfl rfl rfl (by omega)) (by (congr 1; show Int.fdiv _ 2 = _; rw [Int.fdiv_eq_ediv_of_nonneg _ (by omega)]; omega))) rfl ?_
  refine WL.pv (PV.eq (v' := .int .i64 (((lo + jM) / 2 : Nat) : Int)) (PV.lX rfl AA tE rfl (by omega) (by omega)) rfl) rfl ?_
  refine WL.as rfl rfl (WL.nil (WE.aA (WL.mv rfl rfl (WL.mv rfl rfl ?_))))
  have yK := hf ((lo + jM) / 2) _ (by omega) H.aL
  refine WL.iZ rfl rfl yK ?_
  rintro _ w4 ⟨rfl, hO⟩
  replace H := H.out hO
  refine WL.pv (PV.not rfl rfl) rfl (WL.nil ?_)
  refine WE.cond rfl (fun pF => ?_) (fun pF => ?_)
  ·
   try simp only [bP] at pF
   have hpf : p ((lo + jM) / 2) = false := by exact pF
   let q2 : Nat × Nat := ((lo + jM) / 2 + 1, jM)
   have SM : q2.1 ≤ q2.2 ∧ q2.2 ≤ n ∧ (∀ i, i + 1 = q2.1 → p i = false) ∧ (q2.2 < n → p q2.2 = true) := ⟨by show (lo + jM) / 2 + 1 ≤ jM; omega, aJc, (fun i hi => by have h_ : i = (lo + jM) / 2 := Nat.succ.inj hi; rw [h_]; exact hpf), hq.2.2.2⟩
   have hd2 : q2.2 - q2.1 < jM - lo := by show jM - ((lo + jM) / 2 + 1) < jM - lo; omega
   refine WE.dW (WL.mv rfl rfl ?_)
   refine WL.pv (PV.eq (v' := .int .i64 (((lo + jM) / 2 + 1 : Nat) : Int)) (PV.bV rfl rfl rfl (by omega) (by omega)) rfl) rfl ?_
   refine WL.as rfl rfl (WL.nil ?_)
   exact ⟨q2, (by repeat (first | with_reducible exact bK.refl _ _ | refine bK.dG rfl ?_ | refine bK.bZ rfl ?_ | refine bK.bX rfl ?_)), ⟨rfl, rfl, trivial⟩, rfl, ⟨SM, H⟩, hd2⟩
  ·
   try simp only [bP] at pF
   have hpt : p ((lo + jM) / 2) = true := by exact pF
   let q2 : Nat × Nat := (lo, (lo + jM) / 2)
   have SM : q2.1 ≤ q2.2 ∧ q2.2 ≤ n ∧ (∀ i, i + 1 = q2.1 → p i = false) ∧ (q2.2 < n → p q2.2 = true) := ⟨by show lo ≤ (lo + jM) / 2; omega, by show (lo + jM) / 2 ≤ n; have h_ := hq.2.1; omega, hq.2.2.1, fun _ => hpt⟩
   have hd2 : q2.2 - q2.1 < jM - lo := by show (lo + jM) / 2 - lo < jM - lo; omega
   refine WE.dW (WL.mv rfl rfl (WL.as rfl rfl (WL.nil ?_)))
   exact ⟨q2, (by repeat (first | with_reducible exact bK.refl _ _ | refine bK.dG rfl ?_ | refine bK.bZ rfl ?_ | refine bK.bX rfl ?_)), ⟨rfl, rfl, trivial⟩, rfl, ⟨SM, H⟩, hd2⟩
 ·
  try simp only [bP] at j3
  have heq : lo = jM := by omega
  refine WE.exit (WE.aA (WL.mv rfl rfl (WL.as rfl rfl (WL.nil (WE.ret ⟨[_], _, .nil _, ⟨rfl, trivial⟩, ?_⟩)))))
  refine ⟨lo, rfl, H.aL, by omega, hq.2.2.1, fun h => ?_⟩
  rw [heq]; exact hq.2.2.2 (by omega)
theorem VV {X : Nat → Prop} {w : World} {b1 b2 : Nat} {s : Value} {ks : List (List UInt8)} {i d : Nat} (hX : c6 X w) (bT : aH X (fun w => dD w ⟨b1, 0, none⟩ [s]) w) (dJ : aH X (fun w => dD w ⟨b2, 0, none⟩ [.int .i64 (d : Int)]) w) (fQ : aH X (fE s ks) w) (p3 : K32 ks) (hi : i < ks.length) (hd : d < 256) :
  bC prog 190 [.int .i64 (i : Int), .pointer (some ⟨b1, 0, none⟩), .pointer (some ⟨b2, 0, none⟩)].toArray w fun v w' => v = .bool (decide ((bI ks[i] d : Int) = 1)) ∧ Out Nil w w' := by
 refine bC.aI (N := 12) func190 rfl rfl (by simp) ?_
 have H := (((St.begin hX).add (cE fQ)).add (cE dJ)).add (cE bT)
 have hki := p3 _ (List.getElem_mem hi)
 refine WE.aA (WL.as rfl rfl (WL.nil ?_))
 refine WE.bG (.take 0 (.take 1 (.take 2 (.take 3 (.take 4 (.aG 5 (.take 6 (.take 7 .done)))))))) mixed (by kernel_rfl) ?_
 replace H := H.out (Out.drew _)
 refine WP.aM rfl rfl (RV.aV rfl aBP rfl) (H.p 0 rfl) (WP.mv rfl rfl rfl ?_)
 refine WP.aC rfl rfl (PV.dX rfl (by exact (H.p 2 rfl : fE s ks _)) xL cM rfl rfl (by omega) (by omega)) ?_
 refine WP.dO rfl rfl rfl c7 rfl (fE.rd (by exact (H.p 2 rfl : fE s ks _)) p3 i hi) (cI cM (by simp only [aS]; omega)) ?_
 refine WP.aM rfl rfl (RV.aV rfl l9 rfl) (H.p 1 rfl) (WP.aG rfl ?_)
 refine WL.call F4 rfl (j7 (k := ks[i]) (d := d) H.aR  hki hd) ?_
 rintro _ w1 ⟨rfl, hO⟩
 replace H := H.out hO
 refine WL.nil ⟨(fa (nw 5 4) (fa (nw 5 3) (fa (nw 5 0) c8))), ?_⟩
 refine WP.aC rfl rfl (PV.eql rfl rfl rfl) (WP.as rfl rfl rfl (WP.done (WE.ret ⟨[_], _, .nil _, ⟨rfl, trivial⟩, ?_⟩)))
 exact ⟨rfl, H.aL⟩
def aEy (b2 b3 : Nat) : Value := .func (.func 190) ([] : List Value).toArray [.pointer (some ⟨b2, 0, none⟩), .pointer (some ⟨b3, 0, none⟩)].toArray
theorem G5 {X : Nat → Prop} {w : World} {s : Value} {ks : List (List UInt8)} {d b2 b3 : Nat} (LY : aH X (fun w => dD w ⟨b2, 0, none⟩ [s]) w) (HU : aH X (fun w => dD w ⟨b3, 0, none⟩ [.int .i64 (d : Int)]) w) (hR3 : aH X (fE s ks) w) (p3 : K32 ks) (hd : d < 256) (i : Nat) (W : World) (hi : i < ks.length) (hW : Out Nil w W) :
  eR prog (aEy b2 b3) [.int .i64 (i : Int)] W fun v W' => v = .bool (decide ((bI (ks.getD i []) d : Int) = 1)) ∧ Out Nil W W' := by
 refine eR.jQ (fs := []) (cs := [.pointer (some ⟨b2, 0, none⟩), .pointer (some ⟨b3, 0, none⟩)]) aGN ?_
 refine (VV (X := Nil) (s := s) (ks := ks) (i := i) (d := d) (b1 := b2) (b2 := b3) (fun _ h => h.elim) (LY.out hW (fun _ _ h => h.elim) (fun _ _ h => h.elim)) (HU.out hW (fun _ _ h => h.elim) (fun _ _ h => h.elim)) (hR3.out hW (fun _ _ h => h.elim) (fun _ _ h => h.elim)) p3 hi hd).mono fun v W' hv => ?_
 rw [List.getD_eq_getElem?_getD, List.getElem?_eq_getElem hi]
 exact hv
theorem aAr {X : Nat → Prop} {w : World} {s : Value} {ks : List (List UInt8)} {d : Nat} (hX : c6 X w) (bT : aH X (fE s ks) w) (p3 : K32 ks) (hlen : ks.length ≤ 1000000) (hd : d < 256) :
  bC prog 151 [s, .int .i64 (d : Int)].toArray w fun v w' => ∃ r : Nat, v = .int .i64 (r : Int) ∧ Out Nil w w' ∧ r ≤ ks.length ∧ (∀ i (h : i < ks.length), i + 1 = r → bI ks[i] d ≠ 1) ∧ (∀ h : r < ks.length, bI ks[r] d = 1) := by
 refine bC.aI (N := 9) func151 rfl rfl (by simp) ?_
 have H := (St.begin hX).add (cE bT)
 have hs1 : s.oneCell' = true := cO.fW (H.p 0 rfl : fE s ks _)
 refine WE.aA ?_
 refine WL.box (l := [s]) H rfl (cells_one hs1) rfl ?_
 intro b2 w1 H
 refine WL.box (l := [.int .i64 (d : Int)]) H rfl (rfl) rfl ?_
 intro b3 w2 H
 refine WL.as rfl rfl (WL.nil (WE.aA (WL.aX rfl aBP rfl rfl (aN.aF (H.l 1 rfl) (aK.all _) rfl) ?_)))
 refine WL.pv (PV.dS (by exact (H.p 0 rfl : fE s ks _)) xL rfl) rfl ?_
 refine WL.pv (PV.makeFunc rfl) rfl ?_
 replace H := H.freeze (i := 0) rfl
 replace H := H.freeze (i := 0) rfl
 have LY := (H.bJ 0 rfl).imp fun _ h => h.rd
 have HU := (H.bJ 1 rfl).imp fun _ h => h.rd
 have hR3 := H.bJ 2 rfl
 refine WL.call aGP rfl (VZ (X := Nil) (f := aEy b2 b3) (p := fun i => decide ((bI (ks.getD i []) d : Int) = 1)) (fun _ h => h.elim) (G5 LY HU hR3 p3 hd) hlen) ?_
 rintro _ w3 ⟨r, rfl, hO, SK, hr2, hr3⟩
 replace H := H.out hO
 refine WL.as rfl rfl (WL.nil (WE.ret ⟨[_], _, .nil _, ⟨rfl, trivial⟩, ?_⟩))
 refine ⟨r, rfl, H.aL, SK, fun i hi he h1 => ?_, fun h => ?_⟩
 ·
  have h_ := hr2 i he; rw [List.getD_eq_getElem?_getD, List.getElem?_eq_getElem hi] at h_; simp [h1] at h_
 ·
  have h_ := hr3 h; rw [List.getD_eq_getElem?_getD, List.getElem?_eq_getElem h] at h_; simp at h_; omega
structure AP (d : Nat) (T : Tr) (m : List En) (l : List Ch) : Prop where
 er : T.er = grow d m
 srt : k9 m
 kl : KL m
 near : pW d m l
 xl : XL l
 lt : sL l
 sh : pP l
 sz : m.length + l.length ≤ 900000
 dle : d ≤ 256
theorem AP.pm {d : Nat} {T : Tr} {m : List En} {l : List Ch} (h : AP d T m l) : Pm d m where
 le := h.dle
 kl := h.kl
 OR := h.srt.OR
 com := by obtain ⟨p, h1, _⟩ := h.near; exact fun a ha b hb => (h1 a ha).trans (h1 b hb).symm
theorem AP.pm2 {d : Nat} {T : Tr} {m : List En} {l : List Ch} (h : AP d T m l) : Pm d (mG m l) := aDu h.dle h.srt h.kl h.xl h.lt h.near
theorem AP.one {d : Nat} {a : Nat} {q u : List UInt8} {s0 : Value} {m : List En} {l : List Ch} (h : AP d (.leaf a q u s0) m l) : ∃ e, m = [e] ∧ e.k = q ∧ e.v = u := by
 have h1 := h.er
 have h2 := mN h.pm
 rw [← h1] at h2
 match m, h, h1, h2 with
 | [e], _, h1, _ => rw [dR] at h1; injection h1 with h3 h4; exact ⟨e, rfl, h3.symm, h4.symm⟩
 | [], _, _, h2 => cases h2
 | _ :: _ :: _, _, _, h2 => simp [Tr.er, Sh.gC] at h2
theorem AP.none {d : Nat} {m : List En} {l : List Ch} (h : AP d .nil m l) : m = [] := by
 have h2 := mN h.pm
 rw [← h.er] at h2
 exact List.eq_nil_of_length_eq_zero h2.symm
theorem AP.sub {d b : Nat} {T : Tr} {m : List En} {l : List Ch} (h : AP d T m l) (hd : d < 256) (hb : b < 2) (hk : T.er.kind ≠ 1) : AP (d + 1) (T.child b) (bO m d b) (l5 l d b) where
 er := by
  cases T with
  | nil =>
   rw [h.none]
   have : (Tr.child .nil b) = .nil := by unfold Tr.child; split <;> rfl
   rw [this]; exact (eM _).symm
  | leaf a q u s => exact absurd rfl hk
  | inner a x y =>
   have h2 : 2 ≤ m.length := (oI h.pm).1 (by rw [← h.er]; rfl)
   have h3 := h.er
   rw [iU d m hd h2] at h3
   injection h3 with h4 h5
   rcases (show b = 0 ∨ b = 1 by omega) with rfl | rfl
   ·
    exact h4
   ·
    exact h5
 srt := h.srt.part
 kl := fun e he => h.kl e (iJ.1 he).1
 near := h.near.part hd h.kl h.xl
 xl := h.xl.sub fun c hc => (iI.1 hc).1
 lt := h.lt.sub (A1 l d b)
 sh := fun c hc => h.sh c (iI.1 hc).1
 sz := by
  have h1 : (bO m d b).length ≤ m.length := List.length_filter_le ..
  have h2 : (l5 l d b).length ≤ l.length := List.length_filter_le ..
  have := h.sz
  omega
 dle := hd
theorem AP.live {d : Nat} {l : List Ch} (h : AP d .nil [] l) : AP d .nil [] (eQ l) ∧ grow d (mG [] (eQ l)) = grow d (mG [] l) := by
 refine ⟨⟨h.er, h.srt, h.kl, ?_, h.xl.sub fun c hc => (jL.1 hc).1, h.lt.sub (A6 l), fun c hc => h.sh c (jL.1 hc).1, ?_, h.dle⟩, by rw [VJ h.xl h.lt]⟩
 ·
  obtain ⟨p, h1, h2⟩ := h.near
  exact ⟨p, h1, fun c hc => h2 c (jL.1 hc).1⟩
 ·
  have h2 : (eQ l).length ≤ l.length := List.length_filter_le ..
  have := h.sz
  omega
theorem AP.merge {d a : Nat} {q u : List UInt8} {s0 : Value} {m : List En} {l l' : List Ch} (h : AP d (.leaf a q u s0) m l) (hX : XL l' ∧ sL l' ∧ pP l') (hn : l'.length ≤ l.length + 1) (hm : ∀ c ∈ l', c ∈ l ∨ c.k = q) (hg : ∀ (d : Nat) (e : En), e.k = q → e.v = u → grow d (mG [] l') = grow d (mG [e] l)) :
  AP d .nil [] l' ∧ grow d (mG [] l') = grow d (mG m l) := by
 obtain ⟨e, rfl, hk, hv⟩ := h.one
 refine ⟨⟨(eM d).symm, List.Pairwise.nil, (fun _ h => by cases h), ?_, hX.1, hX.2.1, hX.2.2, ?_, h.dle⟩, hg d e hk hv⟩
 ·
  obtain ⟨p, h1, h2⟩ := h.near
  refine ⟨p, (fun _ h => by cases h), fun c hc => ?_⟩
  rcases hm c hc with h3 | h3
  ·
   exact h2 c h3
  ·
   rw [h3, ← hk]; exact h1 e (by simp)
 ·
  have := h.sz
  simp at this ⊢
  omega
theorem AP.join {d : Nat} {T l r : Tr} {m : List En} {cs : List Ch} (h : AP d T m cs) (hd : d < 256) (hl : l.er = grow (d + 1) (mG (bO m d 0) (l5 cs d 0))) (hr : r.er = grow (d + 1) (mG (bO m d 1) (l5 cs d 1))) : kO l.er r.er = grow d (mG m cs) ∧ l.er.gC + r.er.gC ≤ 1000000000 := by
 rw [hl, hr, ← GZ h.srt h.kl h.xl h.lt, ← GZ h.srt h.kl h.xl h.lt]
 refine ⟨pC h.pm2 hd, ?_⟩
 rw [mN (h.pm2.part hd 0), mN (h.pm2.part hd 1), n9]
 have h1 := aAl cs m
 have := h.sz
 omega
theorem N3 {T : Tr} (h : T.er.kind = 1) : ∃ a q u s0, T = .leaf a q u s0 := by
 cases T with
 | nil => cases h
 | leaf a q u s => exact ⟨a, q, u, s, rfl⟩
 | inner a l r => cases h
def aBY (d : Nat) : Prop := ∀ {X : Nat → Prop} {w : World} {bh bc : Nat} {bits c0 : Int} {T : Tr} {m : List En} {l : List Ch} {s : Value}, (∀ b, X b → b < w.heap.size) → aN w bc 213 [.int .i64 c0] → aH (fun c => X c ∨ c = bc) (fO bh bc bits) w →
 aH (fun c => X c ∨ c = bc) (cV bits T) w → aH (fun c => X c ∨ c = bc) (gN s l) w → aH (fun c => X c ∨ c = bc) (iA l) w → aH (fun c => X c ∨ c = bc) aZ w → 0 ≤ bits ∧ bits ≤ 256 → AP d T m l →
 bC prog 96 [.pointer (some ⟨bh, 0, none⟩), T.ptr, s, .int .i64 (d : Int)].toArray w fun v w' => ∃ (T' : Tr) (k : Int), v = T'.ptr ∧ T'.er = grow d (mG m l) ∧ Out (· = bc) w w' ∧ aN w' bc 213 [.int .i64 k] ∧ aH (fun c => X c ∨ c = bc) (cV bits T') w'
theorem M3 {X : Nat → Prop} {w : World} {bh bc : Nat} {bits c0 : Int} {T : Tr} {m : List En} {l : List Ch} {s : Value} {d : Nat} (hX : c6 X w) (fA : aN w bc 213 ([.int .i64 c0])) (bT : aH (fun c_ => X c_ ∨ c_ = bc) (fO bh bc bits) w) (dJ : aH (fun c_ => X c_ ∨ c_ = bc) (cV bits T) w) (fQ : aH (fun c_ => X c_ ∨ c_ = bc) (gN s l) w) (jW : aH (fun c_ => X c_ ∨ c_ = bc) (iA l) w) (nM : aH (fun c_ => X c_ ∨ c_ = bc) (aZ) w) (bU : 0 ≤ bits ∧ bits ≤ 256) (hap : AP d T m l) (ih : d < 256 → aBY (d + 1)) :
  bC prog 96 [.pointer (some ⟨bh, 0, none⟩), T.ptr, s, .int .i64 (d : Int)].toArray w fun v w' => ∃ (T' : Tr) (k : Int), v = T'.ptr ∧ T'.er = grow d (mG m l) ∧ Out (· = bc) w w' ∧ aN w' bc 213 [.int .i64 k] ∧ aH (fun c => X c ∨ c = bc) (cV bits T') w' := by
 refine bC.aI (N := 73) func96 rfl rfl (by simp) ?_
 have H := (((((St.dK (b := bc) (t := 213) (l := [.int .i64 c0]) hX fA).add (cC nM)).add (cC jW)).add (cC fQ)).add (cC dJ)).add (cC bT)
 have hsz := hap.sz
 have TC := hap.dle
 refine WE.aA (WL.as rfl rfl (WL.nil ?_))
 refine WE.cut (α := Tr × Value × List Ch × List En) (rg [(1, 2), (8, 1), (12, 12)]) (fun p => [(1, p.1.ptr), (2, p.2.1)]) (fun p wl => (AP d p.1 p.2.2.2 p.2.2.1 ∧ p.1.er.kind ≠ 1 ∧ grow d (mG p.2.2.2 p.2.2.1) = grow d (mG m l)) ∧ St X w wl [aP.blk bc 213 [.int .i64 c0]] [] [fO bh bc bits, cV bits p.1, gN p.2.1 p.2.2.1, iA p.2.2.1, aZ]) ?_ ?_
 ·
  refine WE.block (WE.aA (WL.mv rfl rfl ?_))
  refine WL.pv (PV.dS (by exact (H.p 2 rfl : (gN s l) _)) eE rfl) rfl ?_
  refine WL.pv (PV.eql rfl rfl rfl) rfl (WL.as rfl rfl (WL.nil ?_))
  refine WE.cond rfl (fun lU => ?_) (fun lU => ?_)
  ·
   try simp only [bP] at lU
   have hl0 : l = [] := List.eq_nil_of_length_eq_zero (by omega)
   refine WE.aA (WL.mv rfl rfl (WL.as rfl rfl (WL.nil (WE.ret ⟨[_], _, .nil _, ⟨rfl, trivial⟩, ?_⟩))))
   subst hl0
   exact ⟨T, c0, rfl, hap.er, H.cT, H.o 0 rfl, H.gA (by exact (H.bJ 1 rfl : aH _ (cV bits T) _))⟩
  ·
   try simp only [bP] at lU
   refine WE.aA (WL.mv rfl rfl ?_)
   refine WL.call mE rfl (e8 (T := T) (bits := bits) H.aR (by exact H.bJ 1 rfl) ) ?_
   rintro _ w1 ⟨rfl, hO⟩
   replace H := H.out hO
   refine WL.pv (PV.eql rfl rfl rfl) rfl (WL.as rfl rfl (WL.nil ?_))
   refine WE.cond rfl (fun iW => ?_) (fun iW => ?_)
   ·
    try simp only [bP] at iW
    have wT : T.er.kind = 1 := by exact iW
    obtain ⟨a, q, u, s0, rfl⟩ := N3 wT
    refine WE.dW (WL.mv rfl rfl (WL.mv rfl rfl ?_))
    refine WL.call aHa rfl (YI (bits := bits) (s := s) (l := l) (a := a) (q := q) (u := u) (s0 := s0) H.aR (by exact (H.bJ 1 rfl : aH _ (cV bits (.leaf a q u s0)) _)) (by exact (H.bJ 2 rfl : aH _ (gN s l) _)) (by exact (H.bJ 3 rfl : aH _ (iA l) _)) hap.xl hap.lt hap.sh (by omega)) ?_
    rintro v23 w2 ⟨l23, hO, aJJ, aJG, aJF, aJo, aJp, C4⟩
    replace H := ((H.out hO).add aJG).add aJJ
    have hmg := hap.merge aJF aJo aJp C4
    replace H := H.add (show aH _ (cV bits .nil) _ from fun _ _ => trivial)
    refine WL.as rfl rfl (WL.as rfl rfl (WL.nil ?_))
    exact ⟨(.nil, v23, l23, []), (by repeat (first | with_reducible exact bK.refl _ _ | refine bK.dG rfl ?_)), ⟨rfl, rfl, trivial⟩, rfl, ⟨⟨hmg.1, (by show (0 : Int) ≠ 1; decide), hmg.2⟩, H.rS [3, 0, 1, 2, 7]⟩⟩
   ·
    try simp only [bP] at iW
    have wT : T.er.kind ≠ 1 := by exact iW
    refine WE.skip ?_
    exact ⟨(T, s, l, m), (by repeat (first | with_reducible exact bK.refl _ _ | refine bK.dG rfl ?_)), ⟨rfl, rfl, trivial⟩, rfl, ⟨⟨hap, wT, rfl⟩, H⟩⟩
 ·
  intro ⟨T1, s1, l1, m1⟩ γ w3 hI
  try dsimp only at hI
  obtain ⟨⟨AB, wT, hg1⟩, H⟩ := hI
  try dsimp only at AB wT hg1
  refine WE.cut (α := Value × List Ch) (rg [(2, 1), (8, 1), (24, 22)]) (fun p => [(2, p.1)]) (fun p wl => (AP d T1 m1 p.2 ∧ d < 256 ∧ grow d (mG m1 p.2) = grow d (mG m l)) ∧ St X w wl [aP.blk bc 213 [.int .i64 c0]] [] [fO bh bc bits, cV bits T1, gN p.1 p.2, iA p.2, aZ]) ?_ ?_
  ·
   refine WE.aA (WL.mv rfl rfl (WL.pv (PV.jU rfl xY rfl rfl) rfl (WL.nil ?_)))
   refine WE.cond rfl (fun rZ => ?_) (fun rZ => ?_)
   ·
    try simp only [bP] at rZ
    obtain rfl : T1 = .nil := Tr.I3 (by exact rZ)
    obtain rfl := AB.none
    have aBe := gN.one (s := s1) (by exact (H.p 3 rfl : (iA l1) _))
    have hlv := AB.live
    have aLs := AB.sz
    refine WE.aA (WL.mv rfl rfl ?_)
    refine WL.call UA rfl (zO (l := l1) H.aR (by exact (H.bJ 2 rfl : aH _ (gN s1 l1) _)) AB.xl (by omega) aBe) ?_
    rintro v27 w4 ⟨hO, iE⟩
    replace H := H.push hO (aP.gZ w.heap.size v27 127 34 _ _) (gR iE H.size) (fun b hb => (iE.lt b hb).1)
    refine WL.call aG9 rfl (HG (l := l1) (f := wU 150) (H.l 0 rfl) AB.xl (by omega) aBe GX) ?_
    rintro v28 w5 ⟨hO, iE, BD⟩
    replace H := H.o6 (i := 0) rfl hO (aP.gZ w.heap.size v28 127 34 _ _) iE (fun b hb => .inl (BD.symm.trans hb))
    replace H := H.freeze (i := 0) rfl
    replace H := H.add (show aH _ (gN v28 (eQ l1)) _ from (H.bJ 0 rfl).imp fun _ h => cO.dM h)
    replace H := H.add (show aH _ (iA (eQ l1)) _ from (by exact (H.bJ 5 rfl : aH _ (iA l1) _).imp fun _ h => h.sub fun c hc => (jL.1 hc).1))
    refine WL.as rfl rfl (WL.nil (WE.aA (WL.mv rfl rfl ?_)))
    refine WL.pv (PV.dS (by exact (H.p 1 rfl : (gN v28 (eQ l1)) _)) eE rfl) rfl ?_
    refine WL.nil (WE.block (WE.aA (WL.pv (PV.eql rfl rfl rfl) rfl (WL.as rfl rfl (WL.nil ?_)))))
    refine WE.cond rfl (fun kW => ?_) (fun kW => ?_)
    ·
     try simp only [bP] at kW
     have hl0 : eQ l1 = [] := List.eq_nil_of_length_eq_zero (by omega)
     refine WE.aA (WL.as rfl rfl (WL.nil (WE.ret ⟨[_], _, .nil _, ⟨rfl, trivial⟩, ?_⟩)))
     refine ⟨.nil, c0, rfl, ?_, H.cT, H.o 0 rfl, H.gA (fun _ _ => trivial)⟩
     rw [← hg1, ← hlv.2, hl0]; exact (eM d).symm
    ·
     try simp only [bP] at kW
     refine WE.aA (WL.pv (PV.eql rfl rfl rfl) rfl (WL.as rfl rfl (WL.nil ?_)))
     refine WE.cond rfl (fun wH => ?_) (fun wH => ?_)
     ·
      try simp only [bP] at wH
      have hl1 : 0 < (eQ l1).length := by omega
      obtain ⟨c1, hc1⟩ := List.length_eq_one_iff.1 (show (eQ l1).length = 1 by omega)
      have C8 : c1 ∈ eQ l1 := by rw [hc1]; simp
      have rA := hlv.1.xl _ C8
      have hge : (eQ l1)[0] = c1 := by simp [hc1]
      refine WE.bG (.take 0 (.take 1 (.take 2 (.take 3 (.take 4 (.take 5 (.take 6 (.take 7 (.take 8 (.take 9 (.aG 10 (.take 11 .done)))))))))))) mixed (by kernel_rfl) ?_
      replace H := H.out (Out.drew _)
      refine WP.mv rfl rfl rfl (WP.mv rfl rfl rfl ?_)
      refine WP.aC rfl rfl (PV.dX rfl (by exact (H.p 1 rfl : (gN v28 (eQ l1)) _)) eE eU rfl rfl (by omega) (by omega)) ?_
      refine WP.aC rfl rfl (PV.dF rfl qV rfl) ?_
      refine WP.dO rfl rfl rfl c7 rfl ((by have h_ := gN.rd (by exact (H.p 1 rfl : (gN v28 (eQ l1)) _)) hlv.1.xl 0 hl1; rw [hge] at h_; exact h_.sub (aK.l (aK.all _)))) (cI cM (by simp only [aS]; omega)) ?_
      refine WP.mv rfl rfl rfl ?_
      refine WP.aC rfl rfl (PV.dX rfl (by exact (H.p 1 rfl : (gN v28 (eQ l1)) _)) eE eU rfl rfl (by omega) (by omega)) ?_
      refine WP.aC rfl rfl (PV.dF rfl Z0 rfl) ?_
      refine WP.aM rfl rfl (RV.aV rfl eH rfl) ((by have h_ := gN.rd (by exact (H.p 1 rfl : (gN v28 (eQ l1)) _)) hlv.1.xl 0 hl1; rw [hge] at h_; exact h_.sub (aK.r (aK.l (aK.all _)) (by rw [aJ, rA])))) ?_
      refine WP.aC rfl rfl (PV.dQ rfl xZ lC (Fl.cons rfl rfl (by simp only [aS]; omega) (Laid.left (Laid.all (by simp only [aS]; omega))) (Fl.cons rfl (cO.cells ((show iA (eQ l1) _ from (by exact (H.p 0 rfl : (iA (eQ l1)) _))) c1 C8)) (by simp only [aS]) (Laid.right (Laid.all (by simp only [aS])) (by simp only [aS]; omega)) Fl.nil))) ?_
      refine WP.aG rfl ?_
      refine WL.call aBE rfl (zJ (k := c1.k) (lv := c1.v) (s := c1.s) (bits := bits) H.aR (H.o 0 rfl) (by exact (H.aO 0 rfl 3 rfl : aH _ (fO bh bc bits) _)) (by exact (H.aO 0 rfl 7 rfl : aH _ (aZ) _)) bU (hlv.1.sh _ C8) rA (by exact ((H.aO 0 rfl 0 rfl : aH _ (iA (eQ l1)) _).imp fun _ h => h _ C8).wk1)) ?_
      rintro _ w6 ⟨aKI, aLa, rfl, aFK, hO, hB, hR⟩
      replace H := H.dP 0 rfl hO hB hR
      refine WL.nil ⟨(fa (nw 10 8) (fa (nw 10 4) c8)), ?_⟩
      refine WP.as rfl rfl rfl (WP.done (WE.ret ⟨[_], _, .nil _, ⟨rfl, trivial⟩, ?_⟩))
      refine ⟨aKI, _, rfl, ?_, H.cT, H.o 0 rfl, H.gA (H.bJ 0 rfl)⟩
      have hcd := (jL.1 C8).2
      rw [aFK, ← hg1, ← hlv.2, hc1]
      have e_ : mG [] [c1] = [c1.en] := by show zB [] c1 = _; unfold zB; rw [hcd]; rfl
      rw [e_, dR]; rfl
     ·
      try simp only [bP] at wH
      have D1 : d < 256 := by rcases Nat.lt_or_ge d 256 with h_ | h_; exact h_; (have P5 : d = 256 := by omega); subst P5; have ZN := pW.one hlv.1.near hlv.1.xl hlv.1.lt; omega
      refine WE.skip ?_
      exact ⟨(v28, eQ l1), (by repeat (first | with_reducible exact bK.refl _ _ | refine bK.dG rfl ?_)), ⟨rfl, trivial⟩, rfl, ⟨⟨hlv.1, D1, hlv.2.trans hg1⟩, H.rS [3, 4, 1, 0, 7]⟩⟩
   ·
    try simp only [bP] at rZ
    have D1 : d < 256 := by cases aC0 : T1 with | nil => subst aC0; simp [Tr.addr] at rZ | leaf a q u s => subst aC0; exact absurd rfl wT | inner a x y => subst aC0; exact AB.pm.lt ((oI AB.pm).1 (by rw [← AB.er]; rfl))
    refine WE.skip ?_
    exact ⟨(s1, l1), (by repeat (first | with_reducible exact bK.refl _ _ | refine bK.dG rfl ?_)), ⟨rfl, trivial⟩, rfl, ⟨⟨AB, D1, hg1⟩, H⟩⟩
  ·
   intro ⟨s2, l2⟩ γ w7 hI
   try dsimp only at hI
   obtain ⟨⟨wI, D1, hg2⟩, H⟩ := hI
   try dsimp only at wI D1 hg2
   have aLr := wI.sz
   refine WE.aA (WL.mv rfl rfl ?_)
   refine WL.call aBC rfl (SE (s := s2) (l := l2) (f := wU 152) H.aR (by exact (H.bJ 2 rfl : aH _ (gN s2 l2) _)) wI.xl (by omega) (gN.one (s := s2) (by exact (H.p 3 rfl : (iA l2) _))) GW) ?_
   rintro v47 w8 ⟨hO, hR⟩
   replace H := (H.out hO).add hR
   refine WL.mv rfl rfl ?_
   refine WL.call aG7 rfl (aAr (ks := l2.map Ch.k) (d := d) H.aR (H.bJ 0 rfl) (G7 wI.xl) (by rw [List.length_map]; omega) D1) ?_
   rintro _ w9 ⟨r, rfl, hO, hr, hlo, hhi⟩
   replace H := H.out hO
   rw [List.length_map] at hr
   have hps := EZ wI.xl wI.lt wI.near D1 hr (fun i h hi => by have h_ := hlo i (by rw [List.length_map]; exact h) hi; rw [List.getElem_map] at h_; exact h_) (fun h => by have h_ := hhi (by rw [List.length_map]; exact h); rw [List.getElem_map] at h_; exact h_)
   have hs0 := wI.sub D1 (b := 0) (by omega) wT
   have aI9 := wI.sub D1 (b := 1) (by omega) wT
   refine WL.as rfl rfl (WL.nil ?_)
   refine WE.bG (.take 0 (.take 1 (.take 3 (.take 4 (.take 5 (.take 6 (.take 7 (.take 8 (.aG 2 (.aG 9 (.take 10 .done))))))))))) mixed (by kernel_rfl) ?_
   replace H := H.out (Out.drew _)
   refine WP.mv rfl rfl rfl (WP.mv rfl rfl rfl (WP.mv rfl rfl rfl (WP.mv rfl rfl rfl (WP.mv rfl rfl rfl ?_))))
   refine WP.aC rfl rfl (PV.aEp rfl (by exact (H.p 3 rfl : (gN s2 l2) _)) eE eU rfl rfl rfl (by omega) (by omega)) ?_
   refine WP.mv rfl rfl rfl ?_
   refine WP.aC rfl rfl (PV.eq (v' := .int .i64 ((d + 1 : Nat) : Int)) (PV.bV rfl rfl rfl (by omega) (by omega)) (by congr 1)) ?_
   refine WP.aG rfl ?_
   refine WL.call OL rfl (q6 (T := T1) (bits := bits) (b := 0) H.aR (by exact (H.bJ 2 rfl : aH _ (cV bits T1) _))) ?_
   rintro _ tX ⟨rfl, hO⟩
   replace H := H.out hO
   refine WL.nil ⟨c8, ?_⟩
   refine WP.aG rfl ?_
   refine WL.call aC5 rfl (ih D1 (T := T1.child 0) (m := bO m1 d 0) (l := l5 l2 d 0) (bits := bits) H.aR (H.o 0 rfl) (by exact (H.aO 0 rfl 1 rfl : aH _ (fO bh bc bits) _)) (by exact (H.aO 0 rfl 2 rfl : aH _ (cV bits T1) _).imp fun _ h => h.left) (by exact (H.aO 0 rfl 3 rfl : aH _ (gN s2 l2) _).imp fun _ h => (by have h_ := h.NJ wI.xl (lo := 0) (hi := r) (Nat.zero_le _) hr; rw [List.drop_zero, Nat.sub_zero, hps.1] at h_; exact h_)) (by exact (H.aO 0 rfl 4 rfl : aH _ (iA l2) _).imp fun _ h => h.sub fun c hc => (iI.1 hc).1) (by exact (H.aO 0 rfl 5 rfl : aH _ (aZ) _)) bU hs0) ?_
   rintro _ xG ⟨aIc, aK7, rfl, aFI, hO, hB, hR⟩
   replace H := H.dP 0 rfl hO hB hR
   refine WL.nil ⟨c8, ?_⟩
   refine WP.as rfl rfl rfl (WP.done ?_)
   refine WE.bG (.take 0 (.take 1 (.take 3 (.take 4 (.take 5 (.take 6 (.take 7 (.aG 2 (.aG 8 (.take 9 .done)))))))))) mixed (by kernel_rfl) ?_
   replace H := H.out (Out.drew _)
   refine WP.mv rfl rfl rfl (WP.mv rfl rfl rfl (WP.mv rfl rfl rfl (WP.mv rfl rfl rfl ?_)))
   refine WP.aC rfl rfl (PV.q9 rfl (by exact (H.p 4 rfl : (gN s2 l2) _)) eE eU rfl rfl (by omega) (by omega)) ?_
   refine WP.mv rfl rfl rfl ?_
   refine WP.aC rfl rfl (PV.eq (v' := .int .i64 ((d + 1 : Nat) : Int)) (PV.bV rfl rfl rfl (by omega) (by omega)) (by congr 1)) ?_
   refine WP.aG rfl ?_
   refine WL.call OL rfl (q6 (T := T1) (bits := bits) (b := 1) H.aR (by exact (H.bJ 3 rfl : aH _ (cV bits T1) _))) ?_
   rintro _ HL ⟨rfl, hO⟩
   replace H := H.out hO
   refine WL.nil ⟨c8, ?_⟩
   refine WP.aG rfl ?_
   refine WL.call aC5 rfl (ih D1 (T := T1.child 1) (m := bO m1 d 1) (l := l5 l2 d 1) (bits := bits) H.aR (H.o 0 rfl) (by exact (H.aO 0 rfl 2 rfl : aH _ (fO bh bc bits) _)) (by exact (H.aO 0 rfl 3 rfl : aH _ (cV bits T1) _).imp fun _ h => h.right) (by exact (H.aO 0 rfl 4 rfl : aH _ (gN s2 l2) _).imp fun _ h => (by have h_ := h.sub wI.xl (lo := r) (hi := l2.length) hr (Nat.le_refl _); rw [List.take_of_length_le (by rw [List.length_drop]; exact Nat.le_refl _), hps.2] at h_; exact h_)) (by exact (H.aO 0 rfl 5 rfl : aH _ (iA l2) _).imp fun _ h => h.sub fun c hc => (iI.1 hc).1) (by exact (H.aO 0 rfl 6 rfl : aH _ (aZ) _)) bU aI9) ?_
   rintro _ DW ⟨aIb, aK6, rfl, aFH, hO, hB, hR⟩
   replace H := H.dP 0 rfl hO hB hR
   refine WL.nil ⟨c8, ?_⟩
   refine WP.as rfl rfl rfl (WP.done (WE.aA (WL.mv rfl rfl (WL.mv rfl rfl (WL.mv rfl rfl ?_)))))
   have hjn := wI.join D1 aFI aFH
   refine WL.call F7 rfl (zK (l := aIc) (r := aIb) (bits := bits) H.aR (H.o 0 rfl) (by exact (H.aO 0 rfl 3 rfl : aH _ (fO bh bc bits) _)) (by exact (H.aO 0 rfl 1 rfl : aH _ (cV bits aIc) _)) (by exact (H.aO 0 rfl 0 rfl : aH _ (cV bits aIb) _)) (by exact (H.aO 0 rfl 7 rfl : aH _ (aZ) _)) bU hjn.2) ?_
   rintro _ H9 ⟨aKG, aK5, rfl, aFG, hO, hB, hR⟩
   replace H := H.dP 0 rfl hO hB hR
   refine WL.as rfl rfl (WL.nil (WE.ret ⟨[_], _, .nil _, ⟨rfl, trivial⟩, ?_⟩))
   refine ⟨aKG, _, rfl, ?_, H.cT, H.o 0 rfl, H.gA (H.bJ 0 rfl)⟩
   rw [aFG, hjn.1]; exact hg2
theorem WU : ∀ (n d : Nat), 256 - d = n → aBY d
 | 0, d, hn => fun hX h0 h1 h2 h3 h4 h5 h6 h7 => M3 hX h0 h1 h2 h3 h4 h5 h6 h7 (fun h => by omega)
 | n + 1, d, hn => fun hX h0 h1 h2 h3 h4 h5 h6 h7 => M3 hX h0 h1 h2 h3 h4 h5 h6 h7 (fun _ => WU n (d + 1) (by omega))
abbrev LtK (l : List (List UInt8)) : Prop := l.Pairwise fun a b => num a < num b
theorem GI : ∀ l : List (List UInt8), sB l = 0 → LtK l
 | [], _ => .nil
 | [a], _ => List.pairwise_singleton _ _
 | a :: b :: r, h => by
  have h0 : (if iM a b = 0 then (9 : Int) else if 0 < iM a b then 8 else sB (b :: r)) = 0 := h
  by_cases h1 : iM a b = 0
  ·
   rw [if_pos h1] at h0; cases h0
  ·
   rw [if_neg h1] at h0
   by_cases h2 : 0 < iM a b
   ·
    rw [if_pos h2] at h0; cases h0
   ·
    rw [if_neg h2] at h0
    have ih := GI (b :: r) h0
    have hab : num a < num b := mP.1 (by omega)
    refine List.pairwise_cons.2 ⟨fun z hz => ?_, ih⟩
    rcases List.mem_cons.1 hz with rfl | hz
    ·
     exact hab
    ·
     exact Nat.lt_trans hab ((List.pairwise_cons.1 ih).1 z hz)
theorem UZ {a b : List UInt8} : 0 < iM a b ↔ num b < num a := by
 unfold iM
 by_cases h : num a < num b
 ·
  simp [h]; omega
 ·
  by_cases h2 : num b < num a
  ·
   simp [h, h2]
  ·
   simp [h, h2]
theorem MK : ∀ (l : List (List UInt8)), LtK l → sB l = 0
 | [], _ => rfl
 | [a], _ => rfl
 | a :: b :: r, h => by
  have h1 := List.pairwise_cons.1 h
  have h2 := h1.1 b (by simp)
  have e1 : ¬ iM a b = 0 := fun e => by have := u3.1 e; omega
  have e2 : ¬ 0 < iM a b := fun e => by have := UZ.1 e; omega
  show (if iM a b = 0 then 9 else if 0 < iM a b then 8 else sB (b :: r)) = 0
  rw [if_neg e1, if_neg e2]
  exact MK (b :: r) h1.2
theorem sL.aCu {l : List Ch} (h : sB (l.map Ch.k) = 0) : sL l := (List.pairwise_map (f := Ch.k) (R := fun a b => num a < num b)).1 (GI _ h)
theorem sL.chk {l : List Ch} (h : sL l) : sB (l.map Ch.k) = 0 := MK _ ((List.pairwise_map (f := Ch.k) (R := fun a b => num a < num b)).2 h)
theorem PU {X : Nat → Prop} {w : World} {bh bc : Nat} {bits c0 : Int} {T : Tr} {m : List En} {l : List Ch} {s : Value} (hX : c6 X w) (fA : aN w bc 213 ([.int .i64 c0])) (bT : aH (fun c_ => X c_ ∨ c_ = bc) (fO bh bc bits) w) (dJ : aH (fun c_ => X c_ ∨ c_ = bc) (cV bits T) w) (fQ : aH (fun c_ => X c_ ∨ c_ = bc) (gN s l) w) (jW : aH (fun c_ => X c_ ∨ c_ = bc) (iA l) w) (nM : aH (fun c_ => X c_ ∨ c_ = bc) (aZ) w) (bU : 0 ≤ bits ∧ bits ≤ 256) (hT : T.er = grow 0 m) (hs : k9 m) (tY : KL m) (hx : XL l) (hsh : pP l) (rA : sB (l.map Ch.k) = 0) (hsz : m.length + l.length ≤ 900000) :
  bC prog 55 [.pointer (some ⟨bh, 0, none⟩), T.ptr, s].toArray w fun v w' => ∃ (T' : Tr) (k : Int), v = .tuple [T'.ptr, .int .i64 0].toArray ∧ T'.er = grow 0 (mG m l) ∧ Out (· = bc) w w' ∧ aN w' bc 213 [.int .i64 k] ∧ aH (fun c => X c ∨ c = bc) (cV bits T') w' := by
 refine bC.aI (N := 18) func55 rfl rfl (by simp) ?_
 have H := (((((St.dK (b := bc) (t := 213) (l := [.int .i64 c0]) hX fA).add (cC nM)).add (cC jW)).add (cC fQ)).add (cC dJ)).add (cC bT)
 have hlt := sL.aCu rA
 refine WE.aA (WL.as rfl rfl (WL.as rfl rfl (WL.nil (WE.seq (WE.aA (WL.mv rfl rfl ?_))))))
 refine WL.call aJS rfl (aAc (s := s) (l := l) H.aR (by exact (H.bJ 2 rfl : aH _ (gN s l) _)) hx (by omega) (gN.one (s := s) (by exact (H.p 3 rfl : (iA l) _)))) ?_
 rintro _ w1 ⟨rfl, hO⟩
 replace H := H.out hO
 refine WL.as rfl rfl (WL.nil (WE.aA (WL.mv rfl rfl (WL.pv (PV.neq rfl rfl rfl) rfl (WL.nil ?_)))))
 refine WE.bD rfl (by simp [rA]) ?_
 refine WE.skip (WE.aA (WL.mv rfl rfl (WL.mv rfl rfl (WL.mv rfl rfl ?_))))
 refine WL.call aC5 rfl (WU 256 0 rfl (T := T) (m := m) (l := l) (s := s) (bits := bits) H.aR (H.o 0 rfl) (by exact (H.aO 0 rfl 0 rfl : aH _ (fO bh bc bits) _)) (by exact (H.aO 0 rfl 1 rfl : aH _ (cV bits T) _)) (by exact (H.aO 0 rfl 2 rfl : aH _ (gN s l) _)) (by exact (H.aO 0 rfl 3 rfl : aH _ (iA l) _)) (by exact (H.aO 0 rfl 4 rfl : aH _ (aZ) _)) bU ⟨hT, hs, tY, pW.zero tY hx, hx, hlt, hsh, hsz, Nat.zero_le _⟩) ?_
 rintro _ w2 ⟨aKO, aLi, rfl, aFS, hO, hB, hR⟩
 replace H := H.dP 0 rfl hO hB hR
 refine WL.as rfl rfl (WL.as rfl rfl (WL.nil (WE.ret ⟨[_, _], _, .nil _, ⟨rfl, rfl, trivial⟩, ?_⟩)))
 exact ⟨aKO, _, rfl, aFS, H.cT, H.o 0 rfl, H.gA (H.bJ 0 rfl)⟩
section
variable {r : Option Nat} {N : Nat} {σ : Env} {ds : List Deferred} {w : World} {ops : Array Oper} {rest : List Oper} {K : Env → List Deferred → World → Prop}
end
theorem U6 (B : List UInt8) (i : Nat) (x : UInt8) (j : Nat) (hi : i / 8 < B.length) : bI (B.set (i / 8) x) j = if j / 8 = i / 8 then x.toNat / 2 ^ (7 - j % 8) % 2 else bI B j := by
 unfold bI
 by_cases h : j / 8 = i / 8
 ·
  rw [if_pos h, h, List.getD_eq_getElem?_getD, List.getElem?_set_self hi]; rfl
 ·
  rw [if_neg h, List.getD_eq_getElem?_getD, List.getElem?_set_ne (fun e => h e.symm), ← List.getD_eq_getElem?_getD]
theorem VO : ∀ r s : Fin 8, ∀ x : Fin 256, x.val / 2 ^ (7 - r.val) % 2 = 0 → x.val + 2 ^ (7 - r.val) < 256 ∧ (x.val + 2 ^ (7 - r.val)) / 2 ^ (7 - s.val) % 2 = if s = r then 1 else x.val / 2 ^ (7 - s.val) % 2 := by decide +kernel
theorem QX : ∀ r s : Fin 8, ∀ x : Fin 256, x.val / 2 ^ (7 - r.val) % 2 = 1 → 2 ^ (7 - r.val) ≤ x.val ∧ (x.val - 2 ^ (7 - r.val)) / 2 ^ (7 - s.val) % 2 = if s = r then 0 else x.val / 2 ^ (7 - s.val) % 2 := by decide +kernel
theorem kJ (B : List UInt8) (i : Nat) : (jP B i).length = B.length := by unfold jP; rw [List.length_set]
theorem BZ {B : List UInt8} (hB : B.length = 32) {i : Nat} (hi : i < 256) (j : Nat) : bI (jP B i) j = if j = i then 1 - bI B i else bI B j := by
 unfold jP
 rw [U6 _ _ _ _ (by omega)]
 have hx := UInt8.toNat_lt (B.getD (i / 8) 0)
 by_cases hj : j / 8 = i / 8
 ·
  rw [if_pos hj]
  have hjx : bI B j = (B.getD (i / 8) 0).toNat / 2 ^ (7 - j % 8) % 2 := by unfold bI; rw [hj]
  have hix : bI B i = (B.getD (i / 8) 0).toNat / 2 ^ (7 - i % 8) % 2 := rfl
  by_cases h0 : bI B i = 0
  ·
   rw [if_pos h0]
   have h1 := VO ⟨i % 8, by omega⟩ ⟨j % 8, by omega⟩ ⟨(B.getD (i / 8) 0).toNat, hx⟩ (by rw [← h0]; rfl)
   dsimp only at h1
   rw [UInt8.toNat_ofNat', Nat.mod_eq_of_lt h1.1, h1.2]
   by_cases hji : j = i
   ·
    subst hji; rw [if_pos rfl, if_pos rfl, h0]
   ·
    rw [if_neg hji, if_neg (fun h => hji (by have h2 := congrArg Fin.val h; dsimp only at h2; omega)), hjx]
  ·
   have h01 : bI B i = 1 := by have := eA B i; omega
   rw [if_neg h0]
   have h1 := QX ⟨i % 8, by omega⟩ ⟨j % 8, by omega⟩ ⟨(B.getD (i / 8) 0).toNat, hx⟩ (by rw [← h01]; rfl)
   dsimp only at h1
   rw [UInt8.toNat_ofNat', Nat.mod_eq_of_lt (Nat.lt_of_le_of_lt (Nat.sub_le _ _) hx), h1.2]
   by_cases hji : j = i
   ·
    subst hji; rw [if_pos rfl, if_pos rfl, h01]
   ·
    rw [if_neg hji, if_neg (fun h => hji (by have h2 := congrArg Fin.val h; dsimp only at h2; omega)), hjx]
 ·
  rw [if_neg hj, if_neg (fun h => hj (by rw [h]))]
def pQ (B : List UInt8) (i : Nat) : List UInt8 := if bI B i = 1 then B else jP B i
def qF (B : List UInt8) (i : Nat) : List UInt8 := if bI B i = 1 then jP B i else B
theorem bM (B : List UInt8) (i : Nat) : (pQ B i).length = B.length := by unfold pQ; split; rfl; exact kJ B i
theorem CS (B : List UInt8) (i : Nat) : (qF B i).length = B.length := by unfold qF; split; exact kJ B i; rfl
theorem O5 {B : List UInt8} (hB : B.length = 32) {i : Nat} (hi : i < 256) (j : Nat) : bI (pQ B i) j = if j = i then 1 else bI B j := by
 unfold pQ
 split
 ·
  rename_i h; split
  ·
   rename_i e; rw [e, h]
  ·
   rfl
 ·
  rename_i h
  have := eA B i
  rw [BZ hB hi, show bI B i = 0 by omega]
theorem u9 {B : List UInt8} (hB : B.length = 32) {i : Nat} (hi : i < 256) (j : Nat) : bI (qF B i) j = if j = i then 0 else bI B j := by
 unfold qF
 split
 ·
  rename_i h
  rw [BZ hB hi, h]
 ·
  rename_i h
  have := eA B i
  split
  ·
   rename_i e; rw [e]; omega
  ·
   rfl
def bitsOf (B : List UInt8) (n : Nat) : List Nat := (List.range n).filter fun i => decide (bI B i = 1)
theorem vU (B : List UInt8) (n : Nat) : bitsOf B (n + 1) = if bI B n = 1 then bitsOf B n ++ [n] else bitsOf B n := by
 unfold bitsOf
 rw [List.range_succ, List.filter_append]
 split
 ·
  rename_i h; simp [h]
 ·
  rename_i h; simp [h]
theorem sE (B : List UInt8) (n : Nat) : (bitsOf B n).length ≤ n := by
 have := List.length_filter_le (fun i => decide (bI B i = 1)) (List.range n)
 rw [List.length_range] at this
 exact this
theorem wJ (B : List UInt8) (n : Nat) : (bitsOf B n).Pairwise (· < ·) := List.Pairwise.filter _ List.pairwise_lt_range
def rR : List UInt8 := List.replicate 32 0
theorem u7 (i : Nat) : bI rR i = 0 := by
 unfold bI rR
 have : (List.replicate 32 (0 : UInt8)).getD (i / 8) 0 = 0 := by
  rw [List.getD_eq_getElem?_getD, List.getElem?_replicate]; split <;> rfl
 rw [this]; simp
def pop8 (x : Nat) : Nat := ((List.range 8).filter fun j => decide (x / 2 ^ (7 - j) % 2 = 1)).length
theorem LF (x : Nat) : pop8 x ≤ 8 := by
 have := List.length_filter_le (fun j => decide (x / 2 ^ (7 - j) % 2 = 1)) (List.range 8)
 rw [List.length_range] at this
 exact this
theorem GQ (B : List UInt8) (i : Nat) : (bitsOf B (8 * (i + 1))).length = (bitsOf B (8 * i)).length + pop8 (B.getD i 0).toNat := by
 unfold bitsOf pop8
 rw [show 8 * (i + 1) = 8 * i + 8 by omega, List.range_add, List.filter_append, List.length_append, List.filter_map, List.length_map]
 congr 2
 refine List.filter_congr fun j hj => ?_
 have hj' := List.mem_range.1 hj
 show decide (bI B (8 * i + j) = 1) = _
 unfold bI
 rw [show (8 * i + j) / 8 = i by omega, show (8 * i + j) % 8 = j by omega]
def p6 (T : Tr) (k : List UInt8) (j : Nat) : Tr := (T.jA k 0 j).beside k j
def A4 (T : Tr) (k : List UInt8) (j : Nat) : Bool := decide ((p6 T k j).er.kind ≠ 0)
def R2 (T : Tr) (k : List UInt8) (n : Nat) : List Nat := (List.range n).filter (A4 T k)
def pA (T : Tr) (k : List UInt8) : Nat → List UInt8
 | 0 => rR
 | j + 1 => if A4 T k j then pQ (pA T k j) j else pA T k j
def jB (bits : Int) (T : Tr) (k : List UInt8) (n : Nat) : List (List UInt8) := (R2 T k n).map fun j => (p6 T k j).er.nV bits
theorem E6 (T : Tr) (k : List UInt8) (n : Nat) : R2 T k (n + 1) = if A4 T k n then R2 T k n ++ [n] else R2 T k n := by
 unfold R2
 rw [List.range_succ, List.filter_append]
 split
 ·
  rename_i h; simp [h]
 ·
  rename_i h; simp [h]
theorem AZ (bits : Int) (T : Tr) (k : List UInt8) (n : Nat) : jB bits T k (n + 1) = if A4 T k n then jB bits T k n ++ [(p6 T k n).er.nV bits] else jB bits T k n := by
 unfold jB
 rw [E6]
 split <;> simp
theorem RL (bits : Int) (T : Tr) (k : List UInt8) (n : Nat) : (jB bits T k n).length ≤ n := by
 unfold jB R2
 rw [List.length_map]
 have := List.length_filter_le (A4 T k) (List.range n)
 rw [List.length_range] at this
 exact this
theorem bS (T : Tr) (k : List UInt8) : ∀ n, (pA T k n).length = 32
 | 0 => rfl
 | n + 1 => by
  show (if A4 T k n then pQ (pA T k n) n else pA T k n).length = 32
  split
  ·
   rw [bM, bS T k n]
  ·
   exact bS T k n
theorem CL (T : Tr) (k : List UInt8) : ∀ n, n ≤ 256 → ∀ i, bI (pA T k n) i = if i < n ∧ A4 T k i = true then 1 else 0
 | 0, _, i => by rw [if_neg (by omega)]; exact u7 i
 | n + 1, hn, i => by
  have ih := CL T k n (by omega) i
  show bI (if A4 T k n then pQ (pA T k n) n else pA T k n) i = _
  split
  ·
   rename_i h
   rw [O5 (bS T k n) (by omega), ih]
   by_cases hi : i = n
   ·
    subst hi; rw [if_pos rfl, if_pos ⟨by omega, h⟩]
   ·
    rw [if_neg hi]
    by_cases h2 : i < n ∧ A4 T k i = true
    ·
     rw [if_pos h2, if_pos ⟨by omega, h2.2⟩]
    ·
     rw [if_neg h2, if_neg (fun h3 => h2 ⟨by omega, h3.2⟩)]
  ·
   rename_i h
   rw [ih]
   by_cases h2 : i < n ∧ A4 T k i = true
   ·
    rw [if_pos h2, if_pos ⟨by omega, h2.2⟩]
   ·
    rw [if_neg h2, if_neg (fun h3 => h2 ⟨by
     rcases Nat.lt_or_ge i n with h4 | h4
     ·
      exact h4
     ·
      have h5 : i = n := by omega
      rw [h5] at h3; exact absurd h3.2 h, h3.2⟩)]
theorem x6 {T : Tr} {k : List UInt8} {n : Nat} (hn : n ≤ 256) : bitsOf (pA T k n) 256 = R2 T k n := by
 unfold bitsOf R2
 rw [show 256 = n + (256 - n) by omega, List.range_add, List.filter_append, List.filter_map]
 have e1 : (List.range n).filter (fun i => decide (bI (pA T k n) i = 1)) = (List.range n).filter (A4 T k) := List.filter_congr fun i hi => by
  have hi' := List.mem_range.1 hi
  rw [CL T k n hn]
  cases h : A4 T k i
  ·
   rw [if_neg (by simp)]; rfl
  ·
   rw [if_pos ⟨hi', rfl⟩]; rfl
 have e2 : (List.range (256 - n)).filter ((fun i => decide (bI (pA T k n) i = 1)) ∘ fun x => n + x) = [] := by
  rw [List.filter_eq_nil_iff]
  intro i _
  show ¬ decide (bI (pA T k n) (n + i) = 1) = true
  rw [CL T k n hn, if_neg (by omega)]
  decide
 rw [e1, e2]; simp
theorem YH {T : Tr} {m : List En} {k : List UInt8} (hT : T.er = grow 0 m) (hp : Pm 0 m) {n : Nat} (hn : T.dp k 0 = n + 1) : A4 T k n = true := by
 have h1 := GU (k := k) hT hp n (by omega)
 have h2 := grow_step k h1.1 h1.2 (Tr.sH n 0 T (by omega))
 have h3 := VD (k := k) hT hp (i := n) (by omega)
 have h4 := J6 (k := k) hT hp
 rw [hn] at h4
 have h5 := n9 (GV k 0 m n) (n + 0)
 have hb := eA k n
 have zR : bI k (n + 0) = bI k n := rfl
 have e1 : GV k 0 m (n + 1) = bO (GV k 0 m n) (n + 0) (bI k (n + 0)) := rfl
 rw [e1] at h4
 have h6 : 1 ≤ (bO (GV k 0 m n) (n + 0) (1 - bI k (n + 0))).length := by
  rcases Nat.lt_or_ge (bI k n) 1 with h | h
  ·
   have h0 : bI k (n + 0) = 0 := by omega
   rw [h0] at h4 ⊢
   show 1 ≤ (bO (GV k 0 m n) (n + 0) 1).length
   have := h3.1
   omega
  ·
   have h0 : bI k (n + 0) = 1 := by omega
   rw [h0] at h4 ⊢
   show 1 ≤ (bO (GV k 0 m n) (n + 0) 0).length
   have := h3.1
   omega
 unfold A4
 rw [decide_eq_true_iff]
 intro h7
 have h8 : (p6 T k n).er = grow (n + 0 + 1) (bO (GV k 0 m n) (n + 0) (1 - bI k (n + 0))) := h2.2.2.2
 have h9 : (p6 T k n).er.gC = (bO (GV k 0 m n) (n + 0) (1 - bI k (n + 0))).length := by rw [h8]; exact mN (h1.2.part h2.1 _)
 have h10 : (p6 T k n).er.gC = 0 := by
  revert h7
  cases (p6 T k n).er with
  | nil => intro _; rfl
  | leaf => intro h; cases h
  | inner => intro h; cases h
 omega
theorem R1 {T : Tr} {m : List En} {k : List UInt8} (hT : T.er = grow 0 m) (hp : Pm 0 m) : (R2 T k (T.dp k 0)).getLast? = if T.dp k 0 = 0 then none else some (T.dp k 0 - 1) := by
 cases hn : T.dp k 0 with
 | zero => rfl
 | succ n =>
  rw [E6, if_pos (YH hT hp hn), if_neg (by omega)]
  simp
structure jG (kind dp : Nat) (lk lv B : List UInt8) (sb : List (List UInt8)) : Prop where
 kd : kind = 0 ∨ kind = 1
 OP : dp ≤ 256
 uQ : lk.length = 32
 lvl : lv.length = 32
 lz : kind = 0 → lk = rR ∧ lv = rR
 bl : B.length = 32
 last : (bitsOf B 256).getLast? = if dp = 0 then none else some (dp - 1)
 gC : sb.length = (bitsOf B 256).length
 sl : ∀ s ∈ sb, s.length = 32
def nF (out : List (List UInt8)) : List Nat → List (List UInt8) → List (List UInt8)
 | d :: ds, s :: sb => nF (out.set d s) ds sb
 | _, _ => out
theorem uZ : ∀ (ds : List Nat) (sb out : List (List UInt8)), (nF out ds sb).length = out.length
 | [], sb, out => by cases sb <;> rfl
 | d :: ds, [], out => rfl
 | d :: ds, s :: sb, out => by
  show (nF (out.set d s) ds sb).length = _
  rw [uZ ds sb, List.length_set]
theorem BL (f : Nat → List UInt8) (e : List UInt8) (n : Nat) : ∀ (ds : List Nat) (g : Nat → List UInt8), ds.Pairwise (· < ·) → (∀ d ∈ ds, d < n) → nF ((List.range n).map g) ds (ds.map f) = (List.range n).map fun d => if d ∈ ds then f d else g d
 | [], g, _, _ => by simp [nF]
 | d :: ds, g, hp, hn => by
  have h1 := List.pairwise_cons.1 hp
  have e1 : ((List.range n).map g).set d (f d) = (List.range n).map fun x => if x = d then f d else g x := by
   refine List.ext_getElem (by simp) fun i h2 h3 => ?_
   rw [List.getElem_set]
   simp only [List.getElem_map, List.getElem_range]
   by_cases h : d = i
   ·
    rw [if_pos h, if_pos h.symm]
   ·
    rw [if_neg h, if_neg (fun h' => h h'.symm)]
  show nF (((List.range n).map g).set d (f d)) ds (ds.map f) = _
  rw [e1, BL f e n ds _ h1.2 fun x hx => hn x (List.mem_cons_of_mem _ hx)]
  refine List.map_congr_left fun x _ => ?_
  by_cases hx : x ∈ ds
  ·
   rw [if_pos hx, if_pos (List.mem_cons_of_mem _ hx)]
  ·
   rw [if_neg hx]
   by_cases hxd : x = d
   ·
    subst hxd; rw [if_pos rfl, if_pos (by simp)]
   ·
    rw [if_neg hxd, if_neg (by simp [hxd, hx])]
def sO (bits : Int) (k : List UInt8) (d : Nat) (s below : List UInt8) : List UInt8 := if bI k d = 0 then vO bits below s else vO bits s below
def upD (bits : Int) (k : List UInt8) (CB : List (List UInt8)) : Nat → List UInt8 → List UInt8
 | 0, b => b
 | d + 1, b => upD bits k CB d (sO bits k d (CB.getD d []) b)
theorem EE {bits : Int} {T : Tr} {k : List UInt8} {CB : List (List UInt8)} : ∀ n, n ≤ T.dp k 0 → (∀ d, d < n → CB.getD d [] = (p6 T k d).er.nV bits) → upD bits k CB n ((T.jA k 0 n).er.nV bits) = T.er.nV bits
 | 0, _, _ => rfl
 | n + 1, hn, hs => by
  have ih := EE (bits := bits) (T := T) (k := k) (CB := CB) n (by omega) fun d hd => hs d (by omega)
  show upD bits k CB n (sO bits k n (CB.getD n []) ((T.jA k 0 (n + 1)).er.nV bits)) = _
  rw [← ih, hs n (by omega)]
  congr 1
  obtain ⟨a, l, r, e⟩ := Tr.BB (Tr.sH (k := k) n 0 T (by omega))
  have e1 : T.jA k 0 (n + 1) = (T.jA k 0 n).step k (n + 0) := rfl
  have hb := eA k n
  unfold sO p6
  rw [e1, e]
  unfold Tr.step Tr.beside Tr.child
  by_cases h : bI k n = 0
  ·
   rw [if_pos h, if_pos (show bI k (n + 0) = 0 from h), if_neg (by omega)]; rfl
  ·
   rw [if_neg h, if_neg (show ¬ bI k (n + 0) = 0 from h), if_pos (by omega)]; rfl
theorem UH {bits : Int} {T : Tr} {k : List UInt8} {n : Nat} : nF (List.replicate n (lW bits)) (R2 T k n) (jB bits T k n) = (List.range n).map fun d => (p6 T k d).er.nV bits := by
 have e0 : List.replicate n (lW bits) = (List.range n).map fun _ => lW bits := by
  refine List.ext_getElem (by simp) fun i h1 h2 => ?_
  simp
 rw [e0]
 unfold jB
 rw [BL _ (lW bits) n (R2 T k n) _ (List.Pairwise.filter _ List.pairwise_lt_range) fun d hd => List.mem_range.1 (List.mem_filter.1 hd).1]
 refine List.map_congr_left fun d hd => ?_
 split
 ·
  rfl
 ·
  rename_i h
  have h1 : ¬ A4 T k d = true := fun h2 => h (List.mem_filter.2 ⟨hd, h2⟩)
  unfold A4 at h1
  rw [decide_eq_true_iff, ne_eq, Decidable.not_not] at h1
  revert h1
  cases (p6 T k d).er with
  | nil => intro _; rfl
  | leaf => intro h; cases h
  | inner => intro h; cases h
theorem DD {m : List En} {k : List UInt8} {e : En} (h : getM m k = some e) : e ∈ m ∧ e.k = k := ⟨List.mem_of_find?_eq_some h, by have := List.find?_some h; simpa using this⟩
def gS (m : List En) (k : List UInt8) : Value := match getM m k with | some e => e.s | none => .slice none 0 0
def gV (m : List En) (k : List UInt8) : List UInt8 := match getM m k with | some e => e.v | none => []
theorem T2 {m : List En} {w : World} (h : eC m w) (k : List UInt8) : bL (gS m k) (gV m k) w := by
 unfold gS gV
 cases hg : getM m k with
 | none => exact bL.nil w
 | some e => exact h e (DD hg).1
theorem aC3 {m : List En} (h : nT m) (k : List UInt8) : (gV m k).length ≤ 1000000 := by
 unfold gV
 cases hg : getM m k with
 | none => exact Nat.zero_le _
 | some e => exact h e (DD hg).1
theorem ZP (m : List En) (k : List UInt8) : TY m k = .tuple [gS m k, .bool (kL m k)].toArray := by
 unfold TY gS kL
 cases getM m k <;> rfl
structure Up where
 sk : Value
 k : List UInt8
 sv : Value
 v : List UInt8
 d : Bool
structure nW where
 n : Int
 sk : Value
 k : List UInt8
 sv : Value
 v : List UInt8
 sb : Value
 b : List Up
instance : Inhabited Up := ⟨⟨.slice none 0 0, [], .slice none 0 0, [], false⟩⟩
instance : Inhabited nW := ⟨⟨0, .slice none 0 0, [], .slice none 0 0, [], .slice none 0 0, []⟩⟩
def QQ (u : Up) : List Value := [u.sk] ++ ([u.sv] ++ [.bool u.d])
def uO (o : nW) : List Value := [.int .i64 o.n] ++ ([o.sk] ++ ([o.sv] ++ [o.sb]))
theorem XK (u : Up) : (QQ u).length = 3 := rfl
theorem YC (o : nW) : (uO o).length = 4 := rfl
def kE (v : Value) (l : List Up) (w : World) : Prop := cO w v 3 l.length (l.flatMap QQ)
def AH (v : Value) (l : List nW) (w : World) : Prop := cO w v 4 l.length (l.flatMap uO)
def dV (l : List Up) (w : World) : Prop := ∀ u ∈ l, bL u.sk u.k w ∧ bL u.sv u.v w
def OV (o : nW) (w : World) : Prop := bL o.sk o.k w ∧ bL o.sv o.v w ∧ kE o.sb o.b w ∧ dV o.b w
def lN (l : List nW) (w : World) : Prop := ∀ o ∈ l, OV o w
theorem kE.rd {v : Value} {l : List Up} {w : World} (h : kE v l w) (i : Nat) (hi : i < l.length) : dD w (jS v (i * 3)) (QQ l[i]) := by
 have := cO.rd h i hi
 rwa [tM l (fun u _ => XK u) i hi] at this
theorem AH.rd {v : Value} {l : List nW} {w : World} (h : AH v l w) (i : Nat) (hi : i < l.length) : dD w (jS v (i * 4)) (uO l[i]) := by
 have := cO.rd h i hi
 rwa [tM l (fun u _ => YC u) i hi] at this
def DS (l : List Up) : Prop := l.length ≤ 20 ∧ ∀ u ∈ l, u.k.length ≤ 100 ∧ u.v.length ≤ 70000
def KP (l : List nW) : Prop := l.length ≤ 12 ∧ ∀ o ∈ l, o.k.length ≤ 100 ∧ o.v.length ≤ 70000 ∧ DS o.b
def bW (k v : List UInt8) : Int := if k.length ≠ 32 then 2 else if 65535 < v.length then 3 else 0
theorem dN {k v : List UInt8} : bW k v = 0 ↔ k.length = 32 ∧ v.length ≤ 65535 := by
 unfold bW
 by_cases h : k.length = 32
 ·
  rw [if_neg (by omega)]
  by_cases h2 : 65535 < v.length
  ·
   rw [if_pos h2]; constructor
   ·
    intro h3; cases h3
   ·
    intro h3; omega
  ·
   rw [if_neg h2]; exact ⟨fun _ => ⟨h, by omega⟩, fun _ => rfl⟩
 ·
  rw [if_pos h]; constructor
  ·
   intro h3; cases h3
  ·
   intro h3; exact absurd h3.1 h
def Up.uv (u : Up) : List UInt8 := if u.d then [] else u.v
def mR (l : List Up) (u : Up) : Int := if bW u.k u.uv ≠ 0 then bW u.k u.uv else if ∃ x ∈ l, x.k = u.k then 9 else 0
def yY (i : Nat) (before : List Up) : List Up → Nat × Int
 | [] => (0, 0)
 | u :: l => if mR before u ≠ 0 then (i, mR before u) else yY (i + 1) (before ++ [u]) l
def jR (l : List Up) : Nat × Int := yY 0 [] l
theorem BW (l : List Up) : ∀ (n i : Nat), i + n = l.length → yY i (l.take i) (l.drop i) = if h : i < l.length then (if mR (l.take i) l[i] ≠ 0 then (i, mR (l.take i) l[i]) else yY (i + 1) (l.take (i + 1)) (l.drop (i + 1))) else (0, 0) := by
 intro n i hi
 by_cases h : i < l.length
 ·
  rw [dif_pos h, List.drop_eq_getElem_cons h, List.take_succ_eq_append_getElem h]; rfl
 ·
  rw [dif_neg h, List.drop_eq_nil_of_le (by omega)]; rfl
def oR (l : List Up) : Prop := (∀ u ∈ l, bW u.k u.uv = 0) ∧ l.Pairwise fun a b => a.k ≠ b.k
theorem vA {l : List Up} {u : Up} : mR l u = 0 ↔ bW u.k u.uv = 0 ∧ ∀ x ∈ l, x.k ≠ u.k := by
 unfold mR
 by_cases h : bW u.k u.uv = 0
 ·
  rw [if_neg (by simp [h])]
  by_cases h2 : ∃ x ∈ l, x.k = u.k
  ·
   rw [if_pos h2]
   constructor
   ·
    intro h3; cases h3
   ·
    intro h3; obtain ⟨x, hx, hk⟩ := h2; exact absurd hk (h3.2 x hx)
  ·
   rw [if_neg h2]
   exact ⟨fun _ => ⟨h, fun x hx hk => h2 ⟨x, hx, hk⟩⟩, fun _ => rfl⟩
 ·
  rw [if_pos h]
  exact ⟨fun h2 => absurd h2 h, fun h2 => absurd h2.1 h⟩
theorem oR.snoc {l : List Up} {u : Up} (h : oR l) (hu : mR l u = 0) : oR (l ++ [u]) := by
 have h2 := vA.1 hu
 refine ⟨fun x hx => ?_, List.pairwise_append.2 ⟨h.2, List.pairwise_singleton _ _, fun a ha b hb => ?_⟩⟩
 ·
  rcases List.mem_append.1 hx with hx | hx
  ·
   exact h.1 x hx
  ·
   rw [List.mem_singleton.1 hx]; exact h2.1
 ·
  rw [List.mem_singleton.1 hb]; exact h2.2 a ha
theorem BX : ∀ (l b : List Up) (i : Nat), oR b → (yY i b l).2 = 0 → oR (b ++ l)
 | [], b, _, hb, _ => by rwa [List.append_nil]
 | u :: l, b, i, hb, h => by
  unfold yY at h
  by_cases hu : mR b u = 0
  ·
   rw [if_neg (by simp [hu])] at h
   have := BX l (b ++ [u]) (i + 1) (hb.snoc hu) h
   rwa [List.append_assoc] at this
  ·
   rw [if_pos hu] at h; exact absurd h hu
theorem u4 {l : List Up} (h : (jR l).2 = 0) : oR l := BX l [] 0 ⟨(fun _ h => by cases h), List.Pairwise.nil⟩ h
def Up.ch (u : Up) : Ch := ⟨u.k, if u.d then .slice none 0 0 else u.sv, u.uv, u.d⟩
def VH (m : List En) (u : Up) : List En := if u.d then fJ m u.k else iC m ⟨u.k, u.sv, u.v⟩
def uD (m : List En) (l : List Up) : List En := l.foldl VH m
theorem aDt (m : List En) (u : Up) : VH m u = zB m u.ch := by
 unfold VH zB Up.ch Up.uv Ch.en
 cases u.d <;> rfl
theorem aB6 (l : List Up) : ∀ m : List En, uD m l = mG m (l.map Up.ch) := by
 induction l with
 | nil => intro m; rfl
 | cons u l ih => intro m; show uD (VH m u) l = mG (zB m u.ch) (l.map Up.ch); rw [aDt, ih]
theorem QP {l : List Up} {m : List En} {i : Nat} (h : i < l.length) : uD m (l.take (i + 1)) = VH (uD m (l.take i)) l[i] := by
 unfold uD
 rw [List.take_succ_eq_append_getElem h, List.foldl_append]; rfl
def PR (l : List Ch) : Prop := l.Pairwise fun a b => a.k ≠ b.k
theorem CP : ∀ (l : List Ch) (m : List En) (e : En), PR l → (e ∈ mG m l ↔ (∃ c ∈ l, c.d = false ∧ e = c.en) ∨ (e ∈ m ∧ ∀ c ∈ l, e.k ≠ c.k))
 | [], m, e, _ => by simp [mG]
 | c :: l, m, e, hl => by
  have h1 := List.pairwise_cons.1 hl
  have ih := CP l (zB m c) e h1.2
  show e ∈ mG (zB m c) l ↔ _
  rw [ih, LK]
  constructor
  ·
   rintro (⟨x, hx, h2, h3⟩ | ⟨⟨h2, h3⟩ | ⟨h2, h3⟩, h4⟩)
   ·
    exact .inl ⟨x, List.mem_cons_of_mem _ hx, h2, h3⟩
   ·
    exact .inl ⟨c, by simp, h2, h3⟩
   ·
    refine .inr ⟨h2, fun x hx => ?_⟩
    rcases List.mem_cons.1 hx with rfl | hx
    ·
     exact h3
    ·
     exact h4 x hx
  ·
   rintro (⟨x, hx, h2, h3⟩ | ⟨h2, h3⟩)
   ·
    rcases List.mem_cons.1 hx with rfl | hx
    ·
     refine .inr ⟨.inl ⟨h2, h3⟩, fun y hy => ?_⟩
     rw [h3]
     exact h1.1 y hy
    ·
     exact .inl ⟨x, hx, h2, h3⟩
   ·
    exact .inr ⟨.inr ⟨h2, h3 c (by simp)⟩, fun x hx => h3 x (List.mem_cons_of_mem _ hx)⟩
theorem VI {l l' : List Ch} {m : List En} (hp : l.Perm l') (hd : PR l) (hs : k9 m) (hk : KL m) (hx : XL l) : mG m l = mG m l' := by
 have ZG : PR l' := hd.perm hp fun h e => h e.symm
 have hx' : XL l' := fun c hc => hx c (hp.mem_iff.2 hc)
 refine k9.ext (k5 l m hs hk hx).1 (k5 l' m hs hk hx').1 fun e => ?_
 rw [CP l m e hd, CP l' m e ZG]
 simp only [hp.mem_iff]
theorem oR.ch {l : List Up} (h : oR l) : XL (l.map Up.ch) ∧ PR (l.map Up.ch) ∧ pP (l.map Up.ch) := by
 refine ⟨fun c hc => ?_, (List.pairwise_map (f := Up.ch) (R := fun a b => a.k ≠ b.k)).2 h.2, fun c hc => ?_⟩
 ·
  obtain ⟨u, hu, rfl⟩ := List.mem_map.1 hc
  exact (dN.1 (h.1 u hu)).1
 ·
  obtain ⟨u, hu, rfl⟩ := List.mem_map.1 hc
  have := (dN.1 (h.1 u hu)).2
  show u.uv.length ≤ 1000000
  omega
def pZ (m : List En) (o : nW) : List En :=
 if o.n = 0 then (if bW o.k o.v = 0 then iC m ⟨o.k, o.sv, o.v⟩ else m)
 else if o.n = 1 then m
 else if o.n = 2 then (if bW o.k [] = 0 then fJ m o.k else m)
 else if (jR o.b).2 = 0 then uD m o.b else m
def runM (l : List nW) : List En := l.foldl pZ []
theorem AV {l : List nW} {i : Nat} (h : i < l.length) : runM (l.take (i + 1)) = pZ (runM (l.take i)) l[i] := by
 unfold runM
 rw [List.take_succ_eq_append_getElem h, List.foldl_append]; rfl
structure e9 (n : Nat) (m : List En) : Prop where
 s : k9 m
 k : KL m
 l : m.length ≤ n
 v : ∀ e ∈ m, e.v.length ≤ 65535
theorem e9.short {n : Nat} {m : List En} (h : e9 n m) : nT m := fun e he => Nat.le_trans (h.v e he) (by decide)
theorem e9.nil (n : Nat) : e9 n [] := ⟨List.Pairwise.nil, (fun _ h => by cases h), Nat.zero_le _, fun _ h => by cases h⟩
theorem e9.more {n n' : Nat} {m : List En} (h : e9 n m) (hn : n ≤ n') : e9 n' m := ⟨h.s, h.k, Nat.le_trans h.l hn, h.v⟩
theorem e9.put {n : Nat} {m : List En} {e : En} (h : e9 n m) (hk : e.k.length = 32) (hv : e.v.length ≤ 65535) : e9 (n + 1) (iC m e) := by
 refine ⟨xW h.s h.k hk, CI h.k hk, Nat.le_trans (EV m e) (Nat.succ_le_succ h.l), fun x hx => ?_⟩
 rcases oE.1 hx with rfl | hx
 ·
  exact hv
 ·
  exact h.v x hx.1
theorem e9.rm {n : Nat} {m : List En} {k : List UInt8} (h : e9 n m) : e9 n (fJ m k) := by
 refine ⟨h.s.filter _, fun e he => h.k e (jK.1 he).1, Nat.le_trans (wO m k) h.l, fun x hx => h.v x (jK.1 hx).1⟩
theorem e9.dG : ∀ (l : List Up) {n : Nat} {m : List En}, e9 n m → (∀ u ∈ l, bW u.k u.uv = 0) → e9 (n + l.length) (uD m l)
 | [], _, _, h, _ => h
 | u :: l, n, m, h, hg => by
  have h1 := dN.1 (hg u (by simp))
  have h2 : e9 (n + 1) (VH m u) := by
   unfold VH
   split
   ·
    exact h.rm.more (by omega)
   ·
    rename_i hd
    refine h.put h1.1 ?_
    have h3 := h1.2
    unfold Up.uv at h3
    rw [if_neg hd] at h3
    exact h3
  have h3 := e9.dG l h2 fun x hx => hg x (List.mem_cons_of_mem _ hx)
  exact h3.more (by rw [List.length_cons]; omega)
theorem e9.do {n : Nat} {m : List En} {o : nW} (h : e9 n m) (hf : DS o.b) : e9 (n + 20) (pZ m o) := by
 unfold pZ
 split
 ·
  split
  ·
   rename_i h1
   have h2 := dN.1 h1
   exact (h.put (e := ⟨o.k, o.sv, o.v⟩) h2.1 h2.2).more (by omega)
  ·
   exact h.more (by omega)
 ·
  split
  ·
   exact h.more (by omega)
  ·
   split
   ·
    split
    ·
     exact h.rm.more (by omega)
    ·
     exact h.more (by omega)
   ·
    split
    ·
     rename_i h1
     have := hf.1
     exact (e9.dG o.b h (u4 h1).1).more (by omega)
    ·
     exact h.more (by omega)
theorem e9.run {l : List nW} (hf : KP l) : ∀ i, i ≤ l.length → e9 (20 * i) (runM (l.take i))
 | 0, _ => e9.nil _
 | i + 1, h => by
  rw [AV (by omega)]
  have h1 := (e9.run hf i (by omega)).do (hf.2 l[i] (List.getElem_mem (by omega))).2.2
  exact h1.more (by omega)
theorem YV (l : List UInt8) (i : Nat) (h : i < l.length) : (kc l)[i]? = some (.int .u8 ((l.getD i 0).toNat : Int)) := by
 unfold kc
 rw [List.getElem?_map, List.getElem?_eq_getElem h, fD h]; rfl
theorem RR : ∀ x : Fin 256, (⟨#[0, 1, 1, 2, 1, 2, 2, 3, 1, 2, 2, 3, 2, 3, 3, 4, 1, 2, 2, 3, 2, 3, 3, 4, 2, 3, 3, 4, 3, 4, 4, 5, 1, 2, 2, 3, 2, 3, 3, 4, 2, 3, 3, 4, 3, 4, 4, 5, 2, 3, 3, 4, 3, 4, 4, 5, 3, 4, 4, 5, 4, 5, 5, 6, 1, 2, 2, 3, 2, 3, 3, 4, 2, 3, 3, 4, 3, 4, 4, 5, 2, 3, 3, 4, 3, 4, 4, 5, 3, 4, 4, 5, 4, 5, 5, 6, 2, 3, 3, 4, 3, 4, 4, 5, 3, 4, 4, 5, 4, 5, 5, 6, 3, 4, 4, 5, 4, 5, 5, 6, 4, 5, 5, 6, 5, 6, 6, 7, 1, 2, 2, 3, 2, 3, 3, 4, 2, 3, 3, 4, 3, 4, 4, 5, 2, 3, 3, 4, 3, 4, 4, 5, 3, 4, 4, 5, 4, 5, 5, 6, 2, 3, 3, 4, 3, 4, 4, 5, 3, 4, 4, 5, 4, 5, 5, 6, 3, 4, 4, 5, 4, 5, 5, 6, 4, 5, 5, 6, 5, 6, 6, 7, 2, 3, 3, 4, 3, 4, 4, 5, 3, 4, 4, 5, 4, 5, 5, 6, 3, 4, 4, 5, 4, 5, 5, 6, 4, 5, 5, 6, 5, 6, 6, 7, 3, 4, 4, 5, 4, 5, 5, 6, 4, 5, 5, 6, 5, 6, 6, 7, 4, 5, 5, 6, 5, 6, 6, 7, 5, 6, 6, 7, 6, 7, 7, 8]⟩ : ByteArray)[x.val]? = some (UInt8.ofNat (pop8 x.val)) := by decide +kernel
theorem RS (x : UInt8) : (⟨#[0, 1, 1, 2, 1, 2, 2, 3, 1, 2, 2, 3, 2, 3, 3, 4, 1, 2, 2, 3, 2, 3, 3, 4, 2, 3, 3, 4, 3, 4, 4, 5, 1, 2, 2, 3, 2, 3, 3, 4, 2, 3, 3, 4, 3, 4, 4, 5, 2, 3, 3, 4, 3, 4, 4, 5, 3, 4, 4, 5, 4, 5, 5, 6, 1, 2, 2, 3, 2, 3, 3, 4, 2, 3, 3, 4, 3, 4, 4, 5, 2, 3, 3, 4, 3, 4, 4, 5, 3, 4, 4, 5, 4, 5, 5, 6, 2, 3, 3, 4, 3, 4, 4, 5, 3, 4, 4, 5, 4, 5, 5, 6, 3, 4, 4, 5, 4, 5, 5, 6, 4, 5, 5, 6, 5, 6, 6, 7, 1, 2, 2, 3, 2, 3, 3, 4, 2, 3, 3, 4, 3, 4, 4, 5, 2, 3, 3, 4, 3, 4, 4, 5, 3, 4, 4, 5, 4, 5, 5, 6, 2, 3, 3, 4, 3, 4, 4, 5, 3, 4, 4, 5, 4, 5, 5, 6, 3, 4, 4, 5, 4, 5, 5, 6, 4, 5, 5, 6, 5, 6, 6, 7, 2, 3, 3, 4, 3, 4, 4, 5, 3, 4, 4, 5, 4, 5, 5, 6, 3, 4, 4, 5, 4, 5, 5, 6, 4, 5, 5, 6, 5, 6, 6, 7, 3, 4, 4, 5, 4, 5, 5, 6, 4, 5, 5, 6, 5, 6, 6, 7, 4, 5, 5, 6, 5, 6, 6, 7, 5, 6, 6, 7, 6, 7, 7, 8]⟩ : ByteArray)[x.toNat]? = some (UInt8.ofNat (pop8 x.toNat)) := RR ⟨x.toNat, x.toNat_lt⟩
theorem QD : ∀ r : Fin 8, ∀ x : Fin 256, x.val ^^^ 2 ^ (7 - r.val) = if x.val / 2 ^ (7 - r.val) % 2 = 0 then x.val + 2 ^ (7 - r.val) else x.val - 2 ^ (7 - r.val) := by decide +kernel
theorem RQ : ∀ r : Fin 8, 2 ^ (7 - r.val) < 256 := by decide +kernel
def T3 (B : List UInt8) (i : Nat) : UInt8 := if bI B i = 0 then UInt8.ofNat ((B.getD (i / 8) 0).toNat + 2 ^ (7 - i % 8)) else UInt8.ofNat ((B.getD (i / 8) 0).toNat - 2 ^ (7 - i % 8))
theorem QC (B : List UInt8) (i : Nat) : IntKind.u8.wrap ((BitVec.ofInt IntKind.u8.bits ((B.getD (i / 8) 0).toNat : Int) ^^^ BitVec.ofInt IntKind.u8.bits ((2 ^ (7 - i % 8) : Nat) : Int)).toNat : Int) = ((T3 B i).toNat : Int) := by
 have hx := (B.getD (i / 8) 0).toNat_lt
 have hp := RQ ⟨i % 8, by omega⟩
 have h1 := QD ⟨i % 8, by omega⟩ ⟨(B.getD (i / 8) 0).toNat, hx⟩
 dsimp only at h1 hp
 have e2 : UInt8.ofNat (2 ^ (7 - i % 8)) = UInt8.ofNat (2 ^ (7 - i % 8)) := rfl
 have h2 : ((2 ^ (7 - i % 8) : Nat) : Int) = ((UInt8.ofNat (2 ^ (7 - i % 8))).toNat : Int) := by rw [UInt8.toNat_ofNat_of_lt' hp]
 rw [h2, aEb, UInt8.toNat_xor, UInt8.toNat_ofNat_of_lt' hp, h1]
 have hb : bI B i = (B.getD (i / 8) 0).toNat / 2 ^ (7 - i % 8) % 2 := rfl
 have hlt := Nat.xor_lt_two_pow (n := 8) hx hp
 rw [h1] at hlt
 unfold T3
 rw [hb]
 split
 ·
  rename_i h; rw [if_pos h] at hlt; rw [UInt8.toNat_ofNat_of_lt' hlt]
 ·
  rename_i h; rw [if_neg h] at hlt; rw [UInt8.toNat_ofNat_of_lt' hlt]
theorem RP {r : Nat} (h : r < 8) : IntKind.u8.wrap (1 * 2 ^ (min ((7 - r : Nat) : Int).toNat IntKind.u8.bits)) = ((2 ^ (7 - r) : Nat) : Int) := by
 have : ∀ r : Fin 8, IntKind.u8.wrap (1 * 2 ^ (min ((7 - r.val : Nat) : Int).toNat IntKind.u8.bits)) = ((2 ^ (7 - r.val) : Nat) : Int) := by decide +kernel
 exact this ⟨r, h⟩
def oF (l : List Nat) : Int := match l.getLast? with | none => -1 | some d => (d : Int)
theorem I7 (l : List Nat) (d : Nat) : oF (l ++ [d]) = (d : Int) := by unfold oF; simp
theorem J3 {R : List UInt8} (hR : R.length = 32) {c : Nat} (hc : c < 256) (h1 : bI R c = 1) (h0 : ∀ j, j < c → bI R j = 0) : bitsOf R 256 = c :: bitsOf (qF R c) 256 := by
 unfold bitsOf
 have e : List.range 256 = List.range c ++ (c :: (List.range (255 - c)).map fun x => c + (x + 1)) := by
  have h2 : 256 = c + (1 + (255 - c)) := by omega
  rw [h2, List.range_add, List.range_add, List.map_append, List.map_map]
  have h3 : c + (1 + (255 - c)) = 256 := by omega
  simp [Function.comp_def, Nat.add_comm]
 rw [e, List.filter_append, List.filter_append]
 have f1 : (List.range c).filter (fun i => decide (bI R i = 1)) = [] := List.filter_eq_nil_iff.2 fun i hi => by
  rw [h0 i (List.mem_range.1 hi)]; decide
 have f2 : (List.range c).filter (fun i => decide (bI (qF R c) i = 1)) = [] := List.filter_eq_nil_iff.2 fun i hi => by
  have hi' := List.mem_range.1 hi
  rw [u9 hR hc, if_neg (by omega), h0 i hi']; decide
 rw [f1, f2, List.filter_cons_of_pos (by simp [h1]), List.filter_cons_of_neg (by rw [u9 hR hc, if_pos rfl]; decide)]
 rw [List.nil_append, List.nil_append]
 congr 1
 refine List.filter_congr fun i hi => ?_
 obtain ⟨x, _, rfl⟩ := List.mem_map.1 hi
 rw [u9 hR hc, if_neg (by omega)]
theorem UU {R : List UInt8} (hR : R.length = 32) (hne : R ≠ List.replicate 32 0) : fR R (List.replicate 32 0) < 256 ∧ bI R (fR R (List.replicate 32 0)) = 1 ∧ ∀ j, j < fR R (List.replicate 32 0) → bI R j = 0 := by
 have hz : (List.replicate 32 (0 : UInt8)).length = 32 := List.length_replicate
 have h1 := MH R (List.replicate 32 0)
 obtain ⟨_, aJx, aJv⟩ := qZ R (List.replicate 32 0)
 have h2 : fR R (List.replicate 32 0) ≠ 256 := fun h => hne ((oK hR hz).1 (by omega))
 have z : ∀ j, bI (List.replicate 32 (0 : UInt8)) j = 0 := u7
 have h3 : fR R (List.replicate 32 0) < 256 := by omega
 refine ⟨h3, ?_, fun j hj => ?_⟩
 ·
  have := aJv h3
  rw [z] at this
  have := eA R (fR R (List.replicate 32 0))
  omega
 ·
  have := aJx j hj
  rw [z] at this
  exact this
theorem GP : bitsOf (List.replicate 32 (0 : UInt8)) 256 = [] := List.filter_eq_nil_iff.2 fun i _ => by
 have : bI (List.replicate 32 (0 : UInt8)) i = 0 := u7 i
 rw [this]; decide
def yB (n : Nat) : Value := .int .i64 (n : Int)
theorem KU {X : Nat → Prop} {w : World} {B : List UInt8} {d : Nat} (hX : c6 X w) (hB : B.length = 32) (hd : d < 256) :
  bC prog 75 [.agg (kc B).toArray, .int .i64 (d : Int)].toArray w fun v w' => v = .bool (decide (bI B d = 1)) ∧ Out Nil w w' := by
 refine bC.aI (N := 9) func75 rfl rfl (by simp) ?_
 have H := St.begin hX
 refine WE.aA ?_
 refine WL.box (l := kc B) H rfl rfl rfl ?_
 intro b2 w1 H
 refine WL.as rfl rfl (WL.nil (WE.aA ?_))
 refine WL.bE rfl mX rfl rfl (aN.aF (H.l 0 rfl) (aK.all _) rfl) (cI j8 (by simp only [aS, aY, aB]; omega)) ?_
 refine WL.mv rfl rfl ?_
 refine WL.call F4 rfl (j7 (k := B) (d := d) H.aR  (by assumption) (by assumption)) ?_
 rintro _ w2 ⟨rfl, hO⟩
 replace H := H.out hO
 refine WL.pv (PV.eql rfl rfl rfl) rfl (WL.as rfl rfl (WL.nil (WE.ret ⟨[_], _, .nil _, ⟨rfl, trivial⟩, ?_⟩)))
 refine ⟨?_, H.aL⟩
 show Value.bool _ = Value.bool _
 congr 1
 rw [decide_eq_decide]
 omega
theorem MR {X : Nat → Prop} {w : World} {B : List UInt8} {d : Nat} (hX : c6 X w) (hB : B.length = 32) (hd : d < 256) :
  bC prog 76 [.agg (kc B).toArray, .int .i64 (d : Int)].toArray w fun v w' => v = .agg (kc (jP B d)).toArray ∧ Out Nil w w' := by
 refine bC.aI (N := 22) func76 rfl rfl (by simp) ?_
 have H := St.begin hX
 have hx := (B.getD (d / 8) 0).toNat_lt
 have FO := kJ B d
 refine WE.aA ?_
 refine WL.box (l := kc B) H rfl rfl rfl ?_
 intro b2 w1 H
 refine WL.alloc H rfl q7 rfl ?_
 intro b4 w2 H
 refine WL.nil (WE.seq (WE.aA (WL.mv rfl rfl (WL.pv (PV.geq rfl rfl rfl) rfl (WL.mv rfl rfl (WL.known (t := 7) (c := true) rfl rfl (WL.mv rfl rfl ?_)))))))
 refine WL.pv (PV.lss rfl rfl rfl) rfl (WL.pv (PV.c5 rfl rfl rfl) rfl (WL.nil ?_))
 refine WE.cR rfl (by (simp; omega)) ?_
 refine WE.draw (.take 0 (.take 1 (.take 2 (.take 3 (.take 4 (.take 5 (.take 6 (.take 7 (.take 8 (.take 9 (.aG 10 .done))))))))))) mixed (by kernel_rfl) ?_
 replace H := H.out (Out.drew _)
 refine WP.mv rfl rfl rfl ?_
 refine WP.aC rfl rfl (PV.eq (v' := .int .i64 ((d / 8 : Nat) : Int)) (PV.qC rfl rfl rfl (by omega) (by omega) (by omega)) rfl) ?_
 refine WP.aC rfl rfl (PV.bF rfl gW gO rfl rfl (by omega) (by omega)) (WP.aM rfl rfl (RV.aV rfl vD rfl) (aN.J1 (H.l 1 rfl) (d / 8) (by omega) (by omega)) (WP.mv rfl rfl rfl ?_))
 refine WP.aC rfl rfl (PV.eq (v' := .int .i64 ((d % 8 : Nat) : Int)) (PV.qB rfl rfl rfl (by omega) (by omega)) rfl) ?_
 refine WP.aC rfl rfl (PV.eq (v' := .int .i64 ((7 - d % 8 : Nat) : Int)) (PV.gE rfl rfl rfl (by omega) (by omega)) (by (congr 1; omega))) ?_
 refine WP.aC rfl rfl (PV.eq (v' := .int .u8 ((2 ^ (7 - d % 8) : Nat) : Int)) (PV.XY rfl rfl rfl (by omega)) (congrArg (Value.int .u8) (RP (Nat.mod_lt d (by decide))))) ?_
 refine WP.aC rfl rfl (PV.eq (v' := .int .u8 ((T3 B d).toNat : Int)) (PV.aB1 rfl rfl rfl) (congrArg (Value.int .u8) (QC B d))) ?_
 refine WP.aC rfl rfl (PV.bF rfl gW gO rfl rfl (by omega) (by omega)) (WP.aG rfl ?_)
 refine WL.aW H 1 rfl rfl rfl (new := _) rfl (by exact gO) (bB _ rfl) (Laid.at (Laid.tQ (d / 8) (by omega)) (by omega)) rfl ?_
 intro w3 H
 replace H := H.conv (L' := [aP.blk b4 24 (kc (List.replicate 32 0)), aP.blk b2 24 (kc (jP B d))]) rfl
 refine WL.nil ⟨(fa (nw 10 3) c8), ?_⟩
 refine WP.done (WE.aA ?_)
 refine WL.bE rfl c7 rfl rfl (aN.aF (H.l 1 rfl) (aK.all _) rfl) (cI cM (by simp only [aS, aY, aB]; omega)) ?_
 refine WL.aW H 0 rfl rfl rfl (new := kc (jP B d)) rfl (cI cM (by simp only [aS, aY, aB]; omega)) (bH _) (Laid.at (Laid.all (by simp only [aS, aY, aB]; omega)) rfl) rfl ?_
 intro w4 H
 refine WL.nil (WE.ret ⟨[_], _, .nil _, ⟨⟨_, rfl, aU c7 (aN.aF (H.l 0 rfl) (aK.all _) rfl) (cI cM (by simp only [aS, aY, aB]; omega))⟩, trivial⟩, ?_⟩)
 exact ⟨rfl, H.aL⟩
theorem aAL {X : Nat → Prop} {w : World} {B : List UInt8} {d : Nat} (hX : c6 X w) (hB : B.length = 32) (hd : d < 256) :
  bC prog 34 [.agg (kc B).toArray, .int .i64 (d : Int)].toArray w fun v w' => v = .agg (kc (pQ B d)).toArray ∧ Out Nil w w' := by
 refine bC.aI (N := 12) func34 rfl rfl (by simp) ?_
 have H := St.begin hX
 have FO := kJ B d
 refine WE.aA ?_
 refine WL.box (l := kc B) H rfl rfl rfl ?_
 intro b2 w1 H
 refine WL.alloc H rfl M5 rfl ?_
 intro b4 w2 H
 refine WL.nil (WE.seq (WE.aA ?_))
 refine WL.bE rfl mX rfl rfl (aN.aF (H.l 1 rfl) (aK.all _) rfl) (cI j8 (by simp only [aS, aY, aB]; omega)) ?_
 refine WL.mv rfl rfl ?_
 refine WL.call aC8 rfl (KU (B := B) (d := d) H.aR  (by assumption) (by assumption)) ?_
 rintro _ w3 ⟨rfl, hO⟩
 replace H := H.out hO
 refine WL.nil ?_
 refine WE.cond rfl (fun wG => ?_) (fun wG => ?_)
 ·
  try simp only [bP] at wG
  have h1 : bI B d = 1 := by exact wG
  have hw : pQ B d = B := if_pos h1
  refine WE.aA ?_
  refine WL.bE rfl mX rfl rfl (aN.aF (H.l 1 rfl) (aK.all _) rfl) (cI j8 (by simp only [aS, aY, aB]; omega)) ?_
  refine WL.aW H 0 rfl rfl rfl (new := kc B) rfl (cI j8 (by simp only [aS, aY, aB]; omega)) (bH _) (Laid.at (Laid.all (by simp only [aS, aY, aB]; omega)) rfl) rfl ?_
  intro w4 H
  refine WL.nil (WE.ret ⟨[_], _, .nil _, ⟨⟨_, rfl, aU mX (aN.aF (H.l 0 rfl) (aK.all _) rfl) (cI j8 (by simp only [aS, aY, aB]; omega))⟩, trivial⟩, ?_⟩)
  exact ⟨by rw [hw]; rfl, H.aL⟩
 ·
  try simp only [bP] at wG
  have h1 : ¬ bI B d = 1 := by exact wG
  have hw : pQ B d = jP B d := if_neg h1
  refine WE.skip (WE.aA ?_)
  refine WL.bE rfl mX rfl rfl (aN.aF (H.l 1 rfl) (aK.all _) rfl) (cI j8 (by simp only [aS, aY, aB]; omega)) ?_
  refine WL.mv rfl rfl ?_
  refine WL.call aGg rfl (MR (B := B) (d := d) H.aR  (by assumption) (by assumption)) ?_
  rintro _ w5 ⟨rfl, hO⟩
  replace H := H.out hO
  refine WL.aW H 0 rfl rfl rfl (new := kc (jP B d)) rfl (cI j8 (by simp only [aS, aY, aB]; omega)) (bH _) (Laid.at (Laid.all (by simp only [aS, aY, aB]; omega)) rfl) rfl ?_
  intro w6 H
  refine WL.nil (WE.ret ⟨[_], _, .nil _, ⟨⟨_, rfl, aU mX (aN.aF (H.l 0 rfl) (aK.all _) rfl) (cI j8 (by simp only [aS, aY, aB]; omega))⟩, trivial⟩, ?_⟩)
  exact ⟨by rw [hw]; rfl, H.aL⟩
theorem aAN {X : Nat → Prop} {w : World} {B : List UInt8} {d : Nat} (hX : c6 X w) (hB : B.length = 32) (hd : d < 256) :
  bC prog 163 [.agg (kc B).toArray, .int .i64 (d : Int)].toArray w fun v w' => v = .agg (kc (qF B d)).toArray ∧ Out Nil w w' := by
 refine bC.aI (N := 13) func163 rfl rfl (by simp) ?_
 have H := St.begin hX
 have FO := kJ B d
 refine WE.aA ?_
 refine WL.box (l := kc B) H rfl rfl rfl ?_
 intro b2 w1 H
 refine WL.alloc H rfl M5 rfl ?_
 intro b4 w2 H
 refine WL.nil (WE.seq (WE.aA ?_))
 refine WL.bE rfl mX rfl rfl (aN.aF (H.l 1 rfl) (aK.all _) rfl) (cI j8 (by simp only [aS, aY, aB]; omega)) ?_
 refine WL.mv rfl rfl ?_
 refine WL.call aC8 rfl (KU (B := B) (d := d) H.aR  (by assumption) (by assumption)) ?_
 rintro _ w3 ⟨rfl, hO⟩
 replace H := H.out hO
 refine WL.pv (PV.not rfl rfl) rfl (WL.nil ?_)
 refine WE.cond rfl (fun l8 => ?_) (fun l8 => ?_)
 ·
  try simp only [bP] at l8
  have h1 : ¬ bI B d = 1 := by exact l8
  have hw : qF B d = B := if_neg h1
  refine WE.aA ?_
  refine WL.bE rfl mX rfl rfl (aN.aF (H.l 1 rfl) (aK.all _) rfl) (cI j8 (by simp only [aS, aY, aB]; omega)) ?_
  refine WL.aW H 0 rfl rfl rfl (new := kc B) rfl (cI j8 (by simp only [aS, aY, aB]; omega)) (bH _) (Laid.at (Laid.all (by simp only [aS, aY, aB]; omega)) rfl) rfl ?_
  intro w4 H
  refine WL.nil (WE.ret ⟨[_], _, .nil _, ⟨⟨_, rfl, aU mX (aN.aF (H.l 0 rfl) (aK.all _) rfl) (cI j8 (by simp only [aS, aY, aB]; omega))⟩, trivial⟩, ?_⟩)
  exact ⟨by rw [hw]; rfl, H.aL⟩
 ·
  try simp only [bP] at l8
  have h1 : bI B d = 1 := by exact l8
  have hw : qF B d = jP B d := if_pos h1
  refine WE.skip (WE.aA ?_)
  refine WL.bE rfl mX rfl rfl (aN.aF (H.l 1 rfl) (aK.all _) rfl) (cI j8 (by simp only [aS, aY, aB]; omega)) ?_
  refine WL.mv rfl rfl ?_
  refine WL.call aGg rfl (MR (B := B) (d := d) H.aR  (by assumption) (by assumption)) ?_
  rintro _ w5 ⟨rfl, hO⟩
  replace H := H.out hO
  refine WL.aW H 0 rfl rfl rfl (new := kc (jP B d)) rfl (cI j8 (by simp only [aS, aY, aB]; omega)) (bH _) (Laid.at (Laid.all (by simp only [aS, aY, aB]; omega)) rfl) rfl ?_
  intro w6 H
  refine WL.nil (WE.ret ⟨[_], _, .nil _, ⟨⟨_, rfl, aU mX (aN.aF (H.l 0 rfl) (aK.all _) rfl) (cI j8 (by simp only [aS, aY, aB]; omega))⟩, trivial⟩, ?_⟩)
  exact ⟨by rw [hw]; rfl, H.aL⟩
theorem aAx {X : Nat → Prop} {w : World} {x : UInt8} (hX : c6 X w) :
  bC prog 165 [.int .u8 (x.toNat : Int)].toArray w fun v w' => v = .int .i64 (pop8 x.toNat : Int) ∧ Out Nil w w' := by
 refine bC.aI (N := 6) func165 rfl rfl (by simp) ?_
 have H := St.begin hX
 have hle := LF x.toNat
 refine WE.aA (WL.as rfl rfl (WL.nil (WE.aA (WL.mv rfl rfl (WL.pv (PV.FE (i := x.toNat) rfl (by kernel_rfl) rfl rfl (RS x)) rfl ?_)))))
 refine WL.pv (PV.eq (v' := .int .i64 ((pop8 x.toNat : Nat) : Int)) (PV.lX rfl mM tE rfl (by omega) (by have := (UInt8.ofNat (pop8 x.toNat)).toNat_lt; omega)) (by congr 1; rw [UInt8.toNat_ofNat_of_lt' (by show _ < 256; omega)])) rfl ?_
 refine WL.as rfl rfl (WL.nil (WE.ret ⟨[_], _, .nil _, ⟨rfl, trivial⟩, ?_⟩))
 exact ⟨rfl, H.aL⟩
theorem aDW {X : Nat → Prop} {w : World} {B : List UInt8} (hX : c6 X w) (hB : B.length = 32) :
  bC prog 120 [.agg (kc B).toArray].toArray w fun v w' => v = .int .i64 ((bitsOf B 256).length : Int) ∧ Out Nil w w' := by
 refine bC.aI (N := 16) func120 rfl rfl (by simp) ?_
 have H := St.begin hX
 refine WE.aA ?_
 refine WL.box (l := kc B) H rfl rfl rfl ?_
 intro b1 w1 H
 refine WL.as rfl rfl (WL.nil (WE.aA (WL.as rfl rfl (WL.nil (WE.seq (WE.aA ?_))))))
 refine WL.bE rfl mX rfl rfl (aN.aF (H.l 0 rfl) (aK.all _) rfl) (cI j8 (by simp only [aS, aY, aB]; omega)) ?_
 refine WL.mv rfl rfl (WL.nil (WE.block ?_))
 refine WE.loop (α := Nat) (rg [(3, 1), (5, 1), (7, 8)]) (fun i => [(3, .int .i64 ((bitsOf B (8 * i)).length : Int)), (7, .int .i64 (i : Int))]) (fun i wl => i ≤ 32 ∧ St X w wl [] [aP.blk b1 85 (kc B)] []) (fun i => 32 - i) 0 ⟨rfl, rfl, trivial⟩ ⟨Nat.zero_le _, H⟩ ?_
 intro i γ0 w2 hI
 try dsimp only at hI
 obtain ⟨hi, H⟩ := hI
 refine WE.aA (WL.pv (PV.lss rfl rfl rfl) rfl (WL.nil (WE.seq ?_)))
 refine WE.cond rfl (fun l8 => ?_) (fun l8 => ?_)
 ·
  try simp only [bP] at l8
  have hlt : i < 32 := by omega
  have hbb := GQ B i
  have hbl := sE B (8 * i)
  have hp8 := LF (B.getD i 0).toNat
  refine WE.skip (WE.seq (WE.block (WE.aA (WL.pv (PV.JD (l := kc B) rfl aDs gO vD rfl rfl (by omega) (YV B i (by omega))) rfl (WL.as rfl rfl (WL.nil (WE.dW ?_)))))))
  refine WL.mv rfl rfl (WL.mv rfl rfl ?_)
  refine WL.call aGV rfl (aAx (x := B.getD i 0) H.aR  ) ?_
  rintro _ w3 ⟨rfl, hO⟩
  replace H := H.out hO
  refine WL.pv (PV.eq (v' := .int .i64 (((bitsOf B (8 * i)).length + pop8 (B.getD i 0).toNat : Nat) : Int)) (PV.bV rfl rfl rfl (by omega) (by omega)) rfl) rfl ?_
  refine WL.as rfl rfl (WL.nil (WE.dW (WL.pv (PV.eq (v' := .int .i64 ((i + 1 : Nat) : Int)) (PV.bV rfl rfl rfl (by omega) (by omega)) rfl) rfl (WL.mv rfl rfl (WL.nil ?_)))))
  exact ⟨i + 1, (by repeat (first | with_reducible exact bK.refl _ _ | refine bK.dG rfl ?_ | refine bK.bZ rfl ?_ | refine bK.bX rfl ?_)), ⟨(by rw [hbb]; rfl), rfl, trivial⟩, rfl, ⟨by omega, H⟩, (by omega)⟩
 ·
  try simp only [bP] at l8
  have vR : i = 32 := by omega
  refine WE.exit (WE.aA (WL.mv rfl rfl (WL.as rfl rfl (WL.nil (WE.ret ⟨[_], _, .nil _, ⟨rfl, trivial⟩, ?_⟩)))))
  subst vR
  exact ⟨rfl, H.aL⟩
theorem aAM {X : Nat → Prop} {w : World} {B : List UInt8} (hX : c6 X w) (hB : B.length = 32) :
  bC prog 212 [.agg (kc B).toArray].toArray w fun v w' => Out Nil w w' ∧ aH X (kN v ((bitsOf B 256).map yB)) w' := by
 refine bC.aI (N := 17) func212 rfl rfl (by simp) ?_
 have H := St.begin hX
 refine WE.aA ?_
 refine WL.box (l := kc B) H rfl rfl rfl ?_
 intro b1 w1 H
 refine WL.as rfl rfl (WL.nil (WE.aA (WL.as rfl rfl ?_)))
 replace H := H.kU 3 1
 refine WL.nil (WE.seq (WE.aA (WL.mv rfl rfl (WL.nil (WE.block ?_)))))
 refine WE.loop (α := Nat × Value) (rg [(3, 13)]) (fun p => [(5, .int .i64 (p.1 : Int)), (3, p.2)]) (fun p wl => p.1 ≤ 256 ∧ St X w wl [] [aP.gZ w.heap.size p.2 3 1 (bitsOf B (p.1)).length ((bitsOf B (p.1)).map yB), aP.blk b1 85 (kc B)] []) (fun p => 256 - p.1) (0, .slice none 0 0) ⟨rfl, rfl, trivial⟩ ⟨Nat.zero_le _, H⟩ ?_
 intro ⟨i, q⟩ γ0 w2 hI
 try dsimp only at hI
 obtain ⟨hi, H⟩ := hI
 refine WE.aA (WL.pv (PV.lss rfl rfl rfl) rfl (WL.nil (WE.seq ?_)))
 refine WE.cond rfl (fun TG => ?_) (fun TG => ?_)
 ·
  try simp only [bP] at TG
  have hlt : i < 256 := by omega
  have hbl := sE B i
  refine WE.skip ?_
  refine WE.cut (α := Value) (rg [(3, 2), (7, 8)]) (fun g_ => [(3, g_)]) (fun g_ wl => St X w wl [] [aP.gZ w.heap.size g_ 3 1 (bitsOf B (i + 1)).length ((bitsOf B (i + 1)).map yB), aP.blk b1 85 (kc B)] []) ?_ ?_
  ·
   refine WE.block (WE.aA (WL.mv rfl rfl (WL.as rfl rfl (WL.nil (WE.aA ?_)))))
   refine WL.bE rfl mX rfl rfl (aN.aF (H.l 1 rfl) (aK.all _) rfl) (cI j8 (by simp only [aS, aY, aB]; omega)) ?_
   refine WL.mv rfl rfl ?_
   refine WL.call aC8 rfl (KU (B := B) (d := i) H.aR  (by assumption) (by assumption)) ?_
   rintro _ w3 ⟨rfl, hO⟩
   replace H := H.out hO
   refine WL.nil ?_
   refine WE.cond rfl (fun kD => ?_) (fun kD => ?_)
   ·
    try simp only [bP] at kD
    have h1 : bI B i = 1 := by exact kD
    refine WE.dW (WL.mv rfl rfl (WL.mv rfl rfl ?_))
    refine WL.bA (l0 := [.int .i64 (0)]) H rfl sP (by decide) (cW _ _) (Fl.cons rfl rfl (by simp only [aS, aY, aB]) Laid.head Fl.nil) rfl ?_
    intro b13 w4 H
    refine WL.append (m := 1) H 1 sP (by decide) rfl rfl rfl (cO.cA (n := 1) (H.l 0 rfl) rfl) (bB _ rfl) (by omega) (by decide) rfl ?_
    intro v14 w5 H
    replace H := H.forget 0
    replace H := H.conv (L' := [aP.gZ w.heap.size v14 3 1 (bitsOf B (i + 1)).length ((bitsOf B (i + 1)).map yB), aP.blk b1 85 (kc B)]) (by rw [vU, if_pos h1, List.length_append, List.map_append]; rfl)
    refine WL.as rfl rfl (WL.nil ?_)
    exact ⟨v14, (by repeat (first | with_reducible exact bK.refl _ _ | refine bK.dG rfl ?_)), ⟨rfl, trivial⟩, rfl, H⟩
   ·
    try simp only [bP] at kD
    have h1 : ¬ bI B i = 1 := by exact kD
    replace H := H.conv (L' := [aP.gZ w.heap.size q 3 1 (bitsOf B (i + 1)).length ((bitsOf B (i + 1)).map yB), aP.blk b1 85 (kc B)]) (by rw [vU, if_neg h1])
    refine WE.skip ?_
    exact ⟨q, (by repeat (first | with_reducible exact bK.refl _ _ | refine bK.dG rfl ?_)), ⟨rfl, trivial⟩, rfl, H⟩
  ·
   intro g_ γ w6 hI
   try dsimp only at hI
   replace H := hI
   refine WE.dW (WL.pv (PV.eq (v' := .int .i64 ((i + 1 : Nat) : Int)) (PV.bV rfl rfl rfl (by omega) (by omega)) rfl) rfl (WL.mv rfl rfl (WL.nil ?_)))
   exact ⟨(i + 1, g_), (by repeat (first | with_reducible exact bK.refl _ _ | refine bK.dG rfl ?_ | refine bK.bZ rfl ?_ | refine bK.bX rfl ?_)), ⟨rfl, rfl, trivial⟩, rfl, ⟨by dsimp only; omega, H⟩, (by dsimp only; omega)⟩
 ·
  try simp only [bP] at TG
  have vR : i = 256 := by omega
  refine WE.exit (WE.aA (WL.mv rfl rfl (WL.as rfl rfl (WL.nil (WE.ret ⟨[_], _, .nil _, ⟨rfl, trivial⟩, ?_⟩)))))
  subst vR
  replace H := H.freeze (i := 0) rfl
  exact ⟨H.aL, H.fX ((H.bJ 0 rfl).imp fun _ h => by have h_ := cO.dM h; unfold kN; rw [List.length_map]; exact h_)⟩
theorem aAO {X : Nat → Prop} {w : World} {B : List UInt8} (hX : c6 X w) (hB : B.length = 32) :
  bC prog 118 [.agg (kc B).toArray].toArray w fun v w' => v = .int .i64 (oF (bitsOf B 256)) ∧ Out Nil w w' := by
 refine bC.aI (N := 17) func118 rfl rfl (by simp) ?_
 have H := St.begin hX
 have C0 : (List.replicate 32 (0 : UInt8)).length = 32 := List.length_replicate
 refine WE.aA ?_
 refine WL.box (l := kc B) H rfl rfl rfl ?_
 intro b1 w1 H
 refine WL.as rfl rfl (WL.nil (WE.aA (WL.as rfl rfl (WL.nil (WE.seq (WE.aA ?_))))))
 refine WL.bE rfl mX rfl rfl (aN.aF (H.l 0 rfl) (aK.all _) rfl) (cI j8 (by simp only [aS, aY, aB]; omega)) ?_
 refine WL.alloc H rfl M5 rfl ?_
 intro b4 w2 H
 refine WL.aW H 0 rfl rfl rfl (new := kc B) rfl (cI j8 (by simp only [aS, aY, aB]; omega)) (bH _) (Laid.at (Laid.all (by simp only [aS, aY, aB]; omega)) rfl) rfl ?_
 intro w3 H
 refine WL.nil (WE.block ?_)
 refine WE.loop (α := List Nat × List UInt8 × Nat) (rg [(3, 2), (6, 10)]) (fun p => [(3, .int .i64 (oF p.1)), (4, .pointer (some ⟨p.2.2, 0, none⟩))]) (fun p wl => (bitsOf B 256 = p.1 ++ bitsOf p.2.1 256 ∧ p.2.1.length = 32) ∧ St X w wl [] [aP.blk p.2.2 85 (kc p.2.1), aP.blk b1 85 (kc B)] []) (fun p => (bitsOf p.2.1 256).length) ([], B, b4) ⟨rfl, rfl, trivial⟩ ⟨⟨rfl, hB⟩, H⟩ ?_
 intro ⟨pre, R, bb⟩ γ0 w4 hI
 try dsimp only at hI
 obtain ⟨⟨qS, hR⟩, H⟩ := hI
 try dsimp only at qS hR
 refine WE.seq (WE.aA ?_)
 refine WL.bE rfl mX rfl rfl (aN.aF (H.l 0 rfl) (aK.all _) rfl) (cI j8 (by simp only [aS, aY, aB]; omega)) ?_
 refine WL.pv (PV.lY rfl aDs gO M5 Fl.nil) rfl (WL.pv (PV.NX rfl aDs mM gO (by kernel_rfl) rfl rfl (by assumption) (by assumption)) rfl (WL.nil ?_))
 refine WE.cond rfl (fun l8 => ?_) (fun l8 => ?_)
 ·
  try simp only [bP] at l8
  have hne : R ≠ List.replicate 32 0 := by exact l8
  have hcz := UU hR hne
  have hbf := J3 hR hcz.1 hcz.2.1 hcz.2.2
  have HP := CS R (fR R (List.replicate 32 0))
  have hlt := hcz.1
  refine WE.skip (WE.seq (WE.block (WE.dW ?_)))
  refine WL.bE rfl mX rfl rfl (aN.aF (H.l 0 rfl) (aK.all _) rfl) (cI j8 (by simp only [aS, aY, aB]; omega)) ?_
  refine WL.pv (PV.lY rfl gW gO q7 Fl.nil) rfl ?_
  refine WL.call T8 rfl (zN (a := R) (b := List.replicate 32 0) H.aR  (by assumption) (by assumption)) ?_
  rintro _ w5 ⟨rfl, hO⟩
  replace H := H.out hO
  refine WL.as rfl rfl (WL.nil (WE.seq (WE.aA ?_)))
  refine WL.bE rfl mX rfl rfl (aN.aF (H.l 0 rfl) (aK.all _) rfl) (cI j8 (by simp only [aS, aY, aB]; omega)) ?_
  refine WL.nil (WE.dW ?_)
  refine WL.alloc H rfl M5 rfl ?_
  intro b4 w6 H
  refine WL.aW H 0 rfl rfl rfl (new := kc R) rfl (cI j8 (by simp only [aS, aY, aB]; omega)) (bH _) (Laid.at (Laid.all (by simp only [aS, aY, aB]; omega)) rfl) rfl ?_
  intro w7 H
  refine WL.nil (WE.dW ?_)
  refine WL.bE rfl mX rfl rfl (aN.aF (H.l 0 rfl) (aK.all _) rfl) (cI j8 (by simp only [aS, aY, aB]; omega)) ?_
  refine WL.mv rfl rfl ?_
  refine WL.call aGW rfl (aAN (B := R) (d := fR R (List.replicate 32 0)) H.aR  (by assumption) (by assumption)) ?_
  rintro _ w8 ⟨rfl, hO⟩
  replace H := H.out hO
  refine WL.aW H 0 rfl rfl rfl (new := kc (qF R (fR R (List.replicate 32 0)))) rfl (cI j8 (by simp only [aS, aY, aB]; omega)) (bH _) (Laid.at (Laid.all (by simp only [aS, aY, aB]; omega)) rfl) rfl ?_
  intro w9 H
  refine WL.nil ?_
  replace H := H.forget 1
  exact ⟨(pre ++ [fR R (List.replicate 32 0)], qF R (fR R (List.replicate 32 0)), b4), (by repeat (first | with_reducible exact bK.refl _ _ | refine bK.dG rfl ?_ | refine bK.bZ rfl ?_ | refine bK.bX rfl ?_)), ⟨(by dsimp only; rw [I7]; rfl), rfl, trivial⟩, rfl, ⟨⟨by dsimp only; rw [qS, hbf, List.append_assoc]; rfl, by dsimp only; rw [HP, hR]⟩, H⟩, (by dsimp only; rw [hbf, List.length_cons]; omega)⟩
 ·
  try simp only [bP] at l8
  have hre : R = List.replicate 32 0 := by exact l8
  rw [hre, GP, List.append_nil] at qS
  refine WE.exit (WE.aA (WL.mv rfl rfl (WL.as rfl rfl (WL.nil (WE.ret ⟨[_], _, .nil _, ⟨rfl, trivial⟩, ?_⟩)))))
  refine ⟨?_, H.aL⟩
  rw [qS]; rfl
theorem _root_.Go.Sp.D5 : cN prog 35 = some ([.int .i64 0] ++ ([.int .i64 0] ++ ((kc (List.replicate 32 0) ++ kc (List.replicate 32 0)) ++ (kc (List.replicate 32 0) ++ [.slice none 0 0])))) := by kernel_rfl
def fU (kd dp : Nat) (lk lv B : List UInt8) (sl : Value) : List Value := [.int .i64 (kd : Int)] ++ ([.int .i64 (dp : Int)] ++ ((kc lk ++ kc lv) ++ (kc B ++ [sl])))
theorem gQ {kd dp : Nat} {lk lv B : List UInt8} {sl : Value} (hk : lk.length = 32) (hv : lv.length = 32) (hB : B.length = 32) : (fU kd dp lk lv B sl).length = 99 := by simp [fU, aJ, hk, hv, hB]
theorem aD (kd dp : Nat) (lk lv B : List UInt8) (sl : Value) : (fU kd dp lk lv B sl).length = 3 + (lk.length + lv.length + B.length) := by simp [fU, aJ]; omega
theorem sY {kd dp : Nat} {lk lv B : List UInt8} {sl : Value} (h : sl.oneCell' = true) : ∀ v ∈ fU kd dp lk lv B sl, v.oneCell' = true := bN (bB _ rfl) (bN (bB _ rfl) (bN (bN (bH _) (bH _)) (bN (bH _) (eF h))))
theorem jG.oF {kd dp : Nat} {lk lv B : List UInt8} {sb : List (List UInt8)} (h : jG kd dp lk lv B sb) : oF (bitsOf B 256) = (dp : Int) - 1 := by
 unfold Go.Sp.Tryz.oF
 rw [h.last]
 by_cases hd : dp = 0
 ·
  rw [if_pos hd, hd]; rfl
 ·
  rw [if_neg hd]; show ((dp - 1 : Nat) : Int) = _; omega
theorem jG.P6 {kd dp : Nat} {lk lv B : List UInt8} {sb : List (List UInt8)} (h : jG kd dp lk lv B sb) : sb.length ≤ 256 := by
 rw [h.gC]; exact sE B 256
theorem aEG {X : Nat → Prop} {w : World} {kd dp : Nat} {lk lv B : List UInt8} {sl : Value} {sb : List (List UInt8)} (hX : c6 X w) (bT : aH X (fE sl sb) w) (hp : jG kd dp lk lv B sb) :
  bC prog 114 [.agg (fU kd dp lk lv B sl).toArray, .agg (kc B).toArray].toArray w fun v w' => v = .bool true ∧ Out Nil w w' := by
 refine bC.aI (N := 13) func114 rfl rfl (by simp) ?_
 have H := (St.begin hX).add (cE bT)
 have wS := hp.kd
 have D0 := hp.OP
 have mV := hp.uQ
 have hlv := hp.lvl
 have p4 := hp.bl
 have hli := hp.oF
 have D2 := hp.gC
 have pY := hp.P6
 have wE : (fU kd dp lk lv B sl).length = 99 := gQ hp.uQ hp.lvl hp.bl
 have C0 : (List.replicate 32 (0 : UInt8)).length = 32 := List.length_replicate
 have hs1 : sl.oneCell' = true := cO.fW (H.p 0 rfl : fE sl sb _)
 refine WE.aA ?_
 refine WL.box (l := fU kd dp lk lv B sl) H rfl rfl rfl ?_
 intro b2 w1 H
 refine WL.box (l := kc B) H rfl rfl rfl ?_
 intro b3 w2 H
 refine WL.as rfl rfl (WL.nil (WE.aA (WL.pv (PV.fieldAddr rfl nQ rfl) rfl (WL.aX rfl l9 rfl rfl (aN.aF (H.l 1 rfl) (aK.l (aK.all _)) rfl) (WL.pv (PV.eql rfl rfl rfl) rfl (WL.mv rfl rfl ?_))))))
 refine WL.split (t := 8) rfl (fun FM => ?_) (fun FM => ?_)
 ·
  refine WL.known (t := 7) (c := true) rfl FM ?_
  try simp only [bP] at FM
  refine WL.off rfl (WL.off rfl (WL.off rfl (WL.pv (PV.c5 rfl rfl rfl) rfl (WL.as rfl rfl (WL.nil (WE.ret ⟨[_], _, .nil _, ⟨rfl, trivial⟩, ?_⟩))))))
  refine ⟨?_, H.aL⟩
  rfl
 ·
  refine WL.known (t := 7) (c := false) rfl FM ?_
  try simp only [bP] at FM
  refine WL.pv (PV.fieldAddr rfl nQ rfl) rfl (WL.aX rfl l9 rfl rfl (aN.aF (H.l 1 rfl) (aK.l (aK.all _)) rfl) (WL.pv (PV.eql rfl rfl rfl) rfl (WL.pv (PV.cF rfl rfl rfl) rfl (WL.as rfl rfl (WL.nil (WE.ret ⟨[_], _, .nil _, ⟨rfl, trivial⟩, ?_⟩))))))
  refine ⟨?_, H.aL⟩
  (show Value.bool _ = Value.bool true; (congr 1; exact decide_eq_true (by omega)))
theorem aEF {X : Nat → Prop} {w : World} {kd dp : Nat} {lk lv B : List UInt8} {sl : Value} {sb : List (List UInt8)} (hX : c6 X w) (bT : aH X (fE sl sb) w) (hp : jG kd dp lk lv B sb) :
  bC prog 115 [.agg (fU kd dp lk lv B sl).toArray, .agg (kc B).toArray].toArray w fun v w' => v = .bool true ∧ Out Nil w w' := by
 refine bC.aI (N := 13) func115 rfl rfl (by simp) ?_
 have H := (St.begin hX).add (cE bT)
 have wS := hp.kd
 have D0 := hp.OP
 have mV := hp.uQ
 have hlv := hp.lvl
 have p4 := hp.bl
 have hli := hp.oF
 have D2 := hp.gC
 have pY := hp.P6
 have wE : (fU kd dp lk lv B sl).length = 99 := gQ hp.uQ hp.lvl hp.bl
 have C0 : (List.replicate 32 (0 : UInt8)).length = 32 := List.length_replicate
 have hs1 : sl.oneCell' = true := cO.fW (H.p 0 rfl : fE sl sb _)
 refine WE.aA ?_
 refine WL.box (l := fU kd dp lk lv B sl) H rfl rfl rfl ?_
 intro b2 w1 H
 refine WL.box (l := kc B) H rfl rfl rfl ?_
 intro b3 w2 H
 refine WL.as rfl rfl (WL.nil (WE.aA (WL.pv (PV.fieldAddr rfl r7 rfl) rfl (WL.aX rfl l9 rfl rfl (aN.aF (H.l 1 rfl) (aK.r (aK.l (aK.all _)) rfl) rfl) (WL.pv (PV.geq rfl rfl rfl) rfl (WL.mv rfl rfl (WL.known (t := 8) (c := true) rfl rfl ?_)))))))
 refine WL.pv (PV.fieldAddr rfl r7 rfl) rfl (WL.aX rfl l9 rfl rfl (aN.aF (H.l 1 rfl) (aK.r (aK.l (aK.all _)) rfl) rfl) (WL.pv (PV.leq rfl rfl rfl) rfl (WL.pv (PV.c5 rfl rfl rfl) rfl (WL.as rfl rfl (WL.nil (WE.ret ⟨[_], _, .nil _, ⟨rfl, trivial⟩, ?_⟩))))))
 refine ⟨?_, H.aL⟩
 (show Value.bool _ = Value.bool true; (congr 1; exact decide_eq_true (by omega)))
theorem aEE {X : Nat → Prop} {w : World} {kd dp : Nat} {lk lv B : List UInt8} {sl : Value} {sb : List (List UInt8)} (hX : c6 X w) (bT : aH X (fE sl sb) w) (hp : jG kd dp lk lv B sb) :
  bC prog 116 [.agg (fU kd dp lk lv B sl).toArray, .agg (kc B).toArray].toArray w fun v w' => v = .bool true ∧ Out Nil w w' := by
 refine bC.aI (N := 14) func116 rfl rfl (by simp) ?_
 have H := (St.begin hX).add (cE bT)
 have wS := hp.kd
 have D0 := hp.OP
 have mV := hp.uQ
 have hlv := hp.lvl
 have p4 := hp.bl
 have hli := hp.oF
 have D2 := hp.gC
 have pY := hp.P6
 have wE : (fU kd dp lk lv B sl).length = 99 := gQ hp.uQ hp.lvl hp.bl
 have C0 : (List.replicate 32 (0 : UInt8)).length = 32 := List.length_replicate
 have hs1 : sl.oneCell' = true := cO.fW (H.p 0 rfl : fE sl sb _)
 refine WE.aA ?_
 refine WL.box (l := fU kd dp lk lv B sl) H rfl rfl rfl ?_
 intro b2 w1 H
 refine WL.box (l := kc B) H rfl rfl rfl ?_
 intro b3 w2 H
 refine WL.as rfl rfl (WL.nil (WE.aA (WL.pv (PV.fieldAddr rfl nQ rfl) rfl (WL.aX rfl l9 rfl rfl (aN.aF (H.l 1 rfl) (aK.l (aK.all _)) rfl) (WL.pv (PV.eql rfl rfl rfl) rfl (WL.mv rfl rfl ?_))))))
 refine WL.split (t := 8) rfl (fun FM => ?_) (fun FM => ?_)
 ·
  refine WL.known (t := 7) (c := true) rfl FM ?_
  try simp only [bP] at FM
  refine WL.off rfl (WL.off rfl (WL.off rfl (WL.off rfl (WL.pv (PV.c5 rfl rfl rfl) rfl (WL.as rfl rfl (WL.nil (WE.ret ?_)))))))
  refine ⟨[_], _, .nil _, ⟨rfl, trivial⟩, ?_⟩
  refine ⟨?_, H.aL⟩
  rfl
 ·
  refine WL.known (t := 7) (c := false) rfl FM ?_
  try simp only [bP] at FM
  have PZ : kd = 0 := by omega
  obtain ⟨hlz, hvz⟩ := hp.lz PZ
  have aFi : lk = List.replicate 32 0 := hlz
  have aE3 : lv = List.replicate 32 0 := hvz
  refine WL.pv (PV.fieldAddr rfl pI rfl) rfl ?_
  refine WL.bE rfl G0 rfl rfl (aN.aF (H.l 1 rfl) (aK.r (aK.r (aK.l (aK.all _)) rfl) rfl) rfl) (cI xJ (by simp only [aS, aY, aB]; omega)) ?_
  refine WL.pv (PV.dQ rfl YA HW Fl.nil) rfl ?_
  refine WL.pv (PV.aHD rfl aHE rfl rfl (DU.struct (n := 3) aHF (WN.cons (eG.agg c7 (cI cM (by simp only [aS, aY, aB]; omega)) (aK.l (aK.all _))) (eG.agg c7 (by exact cM) (aK.l (aK.all _))) (DU.mono (DU.bytes gW mM gO (by assumption) (by assumption)) (by decide)) (WN.cons (eG.agg fS (cI dH (by simp only [aS, aY, aB]; omega)) (aK.r (aK.all _) (by simp only [aS, aY, aB]; omega))) (eG.agg fS (by exact dH) (aK.r (aK.all _) (by simp only [aS, aY, aB]))) (DU.mono (DU.bytes pN mM gO (by assumption) (by assumption)) (by decide)) WN.nil))) (by decide)) rfl ?_
  refine WL.pv (PV.cF rfl rfl rfl) rfl (WL.as rfl rfl (WL.nil (WE.ret ⟨[_], _, .nil _, ⟨rfl, trivial⟩, ?_⟩)))
  refine ⟨?_, H.aL⟩
  (show Value.bool _ = Value.bool true; simp_all)
theorem aED {X : Nat → Prop} {w : World} {kd dp : Nat} {lk lv B : List UInt8} {sl : Value} {sb : List (List UInt8)} (hX : c6 X w) (bT : aH X (fE sl sb) w) (hp : jG kd dp lk lv B sb) :
  bC prog 117 [.agg (fU kd dp lk lv B sl).toArray, .agg (kc B).toArray].toArray w fun v w' => v = .bool true ∧ Out Nil w w' := by
 refine bC.aI (N := 11) func117 rfl rfl (by simp) ?_
 have H := (St.begin hX).add (cE bT)
 have wS := hp.kd
 have D0 := hp.OP
 have mV := hp.uQ
 have hlv := hp.lvl
 have p4 := hp.bl
 have hli := hp.oF
 have D2 := hp.gC
 have pY := hp.P6
 have wE : (fU kd dp lk lv B sl).length = 99 := gQ hp.uQ hp.lvl hp.bl
 have C0 : (List.replicate 32 (0 : UInt8)).length = 32 := List.length_replicate
 have hs1 : sl.oneCell' = true := cO.fW (H.p 0 rfl : fE sl sb _)
 refine WE.aA ?_
 refine WL.box (l := fU kd dp lk lv B sl) H rfl rfl rfl ?_
 intro b2 w1 H
 refine WL.box (l := kc B) H rfl rfl rfl ?_
 intro b3 w2 H
 refine WL.as rfl rfl (WL.nil ?_)
 refine WE.bG (.take 0 (.take 2 (.take 3 (.take 4 (.aG 1 (.take 5 (.take 6 .done))))))) mixed (by kernel_rfl) ?_
 replace H := H.out (Out.drew _)
 refine WP.dO rfl rfl rfl mX rfl (aN.aF (H.l 0 rfl) (aK.all _) rfl) (cI j8 (by simp only [aS, aY, aB]; omega)) ?_
 refine WP.aC rfl rfl (PV.fieldAddr rfl r7 rfl) (WP.aM rfl rfl (RV.aV rfl l9 rfl) (aN.aF (H.l 1 rfl) (aK.r (aK.l (aK.all _)) rfl) rfl) (WP.aC rfl rfl (PV.gE rfl rfl rfl (by omega) (by omega)) (WP.aG rfl ?_)))
 refine WL.call aHs rfl (aAO (B := B) H.aR  (by assumption)) ?_
 rintro _ w3 ⟨rfl, hO⟩
 replace H := H.out hO
 refine WL.nil ⟨(fa (rk hO) (fa (nw 1 0) c8)), ?_⟩
 refine WP.aC rfl rfl (PV.eql rfl rfl rfl) (WP.as rfl rfl rfl (WP.done (WE.ret ⟨[_], _, .nil _, ⟨rfl, trivial⟩, ?_⟩)))
 refine ⟨?_, H.aL⟩
 (show Value.bool _ = Value.bool true; (congr 1; exact decide_eq_true (by omega)))
theorem aEC {X : Nat → Prop} {w : World} {kd dp : Nat} {lk lv B : List UInt8} {sl : Value} {sb : List (List UInt8)} (hX : c6 X w) (bT : aH X (fE sl sb) w) (hp : jG kd dp lk lv B sb) :
  bC prog 119 [.agg (fU kd dp lk lv B sl).toArray, .agg (kc B).toArray].toArray w fun v w' => v = .bool true ∧ Out Nil w w' := by
 refine bC.aI (N := 11) func119 rfl rfl (by simp) ?_
 have H := (St.begin hX).add (cE bT)
 have wS := hp.kd
 have D0 := hp.OP
 have mV := hp.uQ
 have hlv := hp.lvl
 have p4 := hp.bl
 have hli := hp.oF
 have D2 := hp.gC
 have pY := hp.P6
 have wE : (fU kd dp lk lv B sl).length = 99 := gQ hp.uQ hp.lvl hp.bl
 have C0 : (List.replicate 32 (0 : UInt8)).length = 32 := List.length_replicate
 have hs1 : sl.oneCell' = true := cO.fW (H.p 0 rfl : fE sl sb _)
 refine WE.aA ?_
 refine WL.box (l := fU kd dp lk lv B sl) H rfl rfl rfl ?_
 intro b2 w1 H
 refine WL.box (l := kc B) H rfl rfl rfl ?_
 intro b3 w2 H
 refine WL.as rfl rfl (WL.nil ?_)
 refine WE.bG (.take 0 (.take 2 (.take 3 (.take 4 (.aG 1 (.take 5 (.take 6 .done))))))) mixed (by kernel_rfl) ?_
 replace H := H.out (Out.drew _)
 refine WP.dO rfl rfl rfl mX rfl (aN.aF (H.l 0 rfl) (aK.all _) rfl) (cI j8 (by simp only [aS, aY, aB]; omega)) ?_
 refine WP.aC rfl rfl (PV.fieldAddr rfl nP rfl) ?_
 refine WP.aM rfl rfl (RV.aV rfl vF rfl) (aN.aF (H.l 1 rfl) (aK.r (aK.r (aK.r (aK.r (aK.all _) rfl) rfl) rfl) rfl) (by simp [aJ, aQ, *])) ?_
 refine WP.aC rfl rfl (PV.dS (by exact (H.p 0 rfl : (fE sl sb) _)) oZ rfl) ?_
 refine WP.aG rfl ?_
 refine WL.call aHq rfl (aDW (B := B) H.aR  (by assumption)) ?_
 rintro _ w3 ⟨rfl, hO⟩
 replace H := H.out hO
 refine WL.nil ⟨(fa (rk hO) (fa (nw 1 0) c8)), ?_⟩
 refine WP.aC rfl rfl (PV.eql rfl rfl rfl) (WP.as rfl rfl rfl (WP.done (WE.ret ⟨[_], _, .nil _, ⟨rfl, trivial⟩, ?_⟩)))
 refine ⟨?_, H.aL⟩
 (show Value.bool _ = Value.bool true; (congr 1; exact decide_eq_true (by omega)))
theorem Q5 {X : Nat → Prop} {kd dp : Nat} {lk lv B : List UInt8} {sl : Value} {sb : List (List UInt8)} {W : World} (hX : ∀ b, X b → b < W.heap.size) (hs : aH X (fE sl sb) W) (hp : jG kd dp lk lv B sb) : eR prog (wU 114) [.agg (fU kd dp lk lv B sl).toArray, .agg (kc B).toArray] W fun v W' => v = .bool true ∧ Out Nil W W' :=
 eR.jQ (fs := []) (cs := []) aHw (aEG hX hs hp)
theorem Q4 {X : Nat → Prop} {kd dp : Nat} {lk lv B : List UInt8} {sl : Value} {sb : List (List UInt8)} {W : World} (hX : ∀ b, X b → b < W.heap.size) (hs : aH X (fE sl sb) W) (hp : jG kd dp lk lv B sb) : eR prog (wU 115) [.agg (fU kd dp lk lv B sl).toArray, .agg (kc B).toArray] W fun v W' => v = .bool true ∧ Out Nil W W' :=
 eR.jQ (fs := []) (cs := []) aHv (aEF hX hs hp)
theorem Q3 {X : Nat → Prop} {kd dp : Nat} {lk lv B : List UInt8} {sl : Value} {sb : List (List UInt8)} {W : World} (hX : ∀ b, X b → b < W.heap.size) (hs : aH X (fE sl sb) W) (hp : jG kd dp lk lv B sb) : eR prog (wU 116) [.agg (fU kd dp lk lv B sl).toArray, .agg (kc B).toArray] W fun v W' => v = .bool true ∧ Out Nil W W' :=
 eR.jQ (fs := []) (cs := []) aHu (aEE hX hs hp)
theorem Q2 {X : Nat → Prop} {kd dp : Nat} {lk lv B : List UInt8} {sl : Value} {sb : List (List UInt8)} {W : World} (hX : ∀ b, X b → b < W.heap.size) (hs : aH X (fE sl sb) W) (hp : jG kd dp lk lv B sb) : eR prog (wU 117) [.agg (fU kd dp lk lv B sl).toArray, .agg (kc B).toArray] W fun v W' => v = .bool true ∧ Out Nil W W' :=
 eR.jQ (fs := []) (cs := []) aHt (aED hX hs hp)
theorem Q1 {X : Nat → Prop} {kd dp : Nat} {lk lv B : List UInt8} {sl : Value} {sb : List (List UInt8)} {W : World} (hX : ∀ b, X b → b < W.heap.size) (hs : aH X (fE sl sb) W) (hp : jG kd dp lk lv B sb) : eR prog (wU 119) [.agg (fU kd dp lk lv B sl).toArray, .agg (kc B).toArray] W fun v W' => v = .bool true ∧ Out Nil W W' :=
 eR.jQ (fs := []) (cs := []) aHr (aEC hX hs hp)
def Q0 : List Value := [wU 114, .int .i64 7] ++ ([wU 115, .int .i64 5] ++ ([wU 116, .int .i64 5] ++ ([wU 117, .int .i64 5] ++ ([wU 119, .int .i64 5]))))
theorem X0 {X : Nat → Prop} {w : World}  (hX : c6 X w) :
  bC prog 77 [].toArray w fun v w' => v = .agg Q0.toArray ∧ Out Nil w w' := by
 refine bC.aI (N := 7) func77 rfl rfl (by decide +revert) ?_
 have H := St.begin hX
 refine WE.aA ?_
 refine WL.alloc H rfl aAR rfl ?_
 intro b0 w1 H
 refine WL.nil (WE.aA ?_)
 refine WL.pv (PV.dQ rfl EW rB (Fl.cons rfl (rfl) (by simp only [aS, aY, aB]) Laid.head (Fl.cons rfl (rfl) (by simp only [aS, aY, aB]) (Laid.tail Laid.head rfl) Fl.nil))) rfl ?_
 refine WL.pv (PV.dQ rfl EW rB (Fl.cons rfl (rfl) (by simp only [aS, aY, aB]) Laid.head (Fl.cons rfl (rfl) (by simp only [aS, aY, aB]) (Laid.tail Laid.head rfl) Fl.nil))) rfl ?_
 refine WL.pv (PV.dQ rfl EW rB (Fl.cons rfl (rfl) (by simp only [aS, aY, aB]) Laid.head (Fl.cons rfl (rfl) (by simp only [aS, aY, aB]) (Laid.tail Laid.head rfl) Fl.nil))) rfl ?_
 refine WL.pv (PV.dQ rfl EW rB (Fl.cons rfl (rfl) (by simp only [aS, aY, aB]) Laid.head (Fl.cons rfl (rfl) (by simp only [aS, aY, aB]) (Laid.tail Laid.head rfl) Fl.nil))) rfl ?_
 refine WL.pv (PV.dQ rfl EW rB (Fl.cons rfl (rfl) (by simp only [aS, aY, aB]) Laid.head (Fl.cons rfl (rfl) (by simp only [aS, aY, aB]) (Laid.tail Laid.head rfl) Fl.nil))) rfl ?_
 refine WL.pv (PV.lY rfl B2 l4 aAR (Fl.cons rfl (rfl) (by simp only [aS, aY, aB]) (Laid.left (Laid.all (by simp only [aS, aY, aB]))) (Fl.cons rfl (rfl) (by simp only [aS, aY, aB]) (Laid.right (Laid.left (Laid.all (by simp only [aS, aY, aB]))) (by simp only [aS, aY, aB])) (Fl.cons rfl (rfl) (by simp only [aS, aY, aB]) (Laid.right (Laid.right (Laid.left (Laid.all (by simp only [aS, aY, aB]))) rfl) (by simp only [aS, aY, aB])) (Fl.cons rfl (rfl) (by simp only [aS, aY, aB]) (Laid.right (Laid.right (Laid.right (Laid.left (Laid.all (by simp only [aS, aY, aB]))) rfl) rfl) (by simp only [aS, aY, aB])) (Fl.cons rfl (rfl) (by simp only [aS, aY, aB]) (Laid.right (Laid.right (Laid.right (Laid.right (Laid.all (by simp only [aS, aY, aB])) rfl) rfl) rfl) (by simp only [aS, aY, aB])) Fl.nil)))))) rfl ?_
 refine WL.aW H 0 rfl rfl rfl (new := Q0) rfl (by exact aAW) (bB _ rfl) (Laid.at (Laid.all rfl) rfl) rfl ?_
 intro w2 H
 refine WL.nil (WE.ret ⟨[_], _, .nil _, ⟨⟨_, rfl, aU aH9 (aN.aF (H.l 0 rfl) (aK.all _) rfl) (by exact aAW)⟩, trivial⟩, ?_⟩)
 exact ⟨rfl, H.aL⟩
theorem tU {X : Nat → Prop} {w : World} {kd dp : Nat} {lk lv B : List UInt8} {sl : Value} {sb : List (List UInt8)} (hX : c6 X w) (bT : aH X (fE sl sb) w) (hp : jG kd dp lk lv B sb) :
  bC prog 35 [.agg (fU kd dp lk lv B sl).toArray].toArray w fun v w' => v = .int .i64 0 ∧ Out Nil w w' := by
 refine bC.aI (N := 19) func35 rfl rfl (by simp) ?_
 have H := (St.begin hX).add (cE bT)
 have wS := hp.kd
 have D0 := hp.OP
 have mV := hp.uQ
 have hlv := hp.lvl
 have p4 := hp.bl
 have hli := hp.oF
 have D2 := hp.gC
 have pY := hp.P6
 have wE : (fU kd dp lk lv B sl).length = 99 := gQ hp.uQ hp.lvl hp.bl
 have C0 : (List.replicate 32 (0 : UInt8)).length = 32 := List.length_replicate
 have hs1 : sl.oneCell' = true := cO.fW (H.p 0 rfl : fE sl sb _)
 refine WE.aA ?_
 refine WL.box (l := fU kd dp lk lv B sl) H rfl rfl rfl ?_
 intro b1 w1 H
 refine WL.as rfl rfl (WL.nil (WE.seq (WE.aA ?_)))
 refine WL.call aJ1 rfl (X0  H.aR  ) ?_
 rintro _ w2 ⟨rfl, hO⟩
 replace H := H.out hO
 refine WL.mv rfl rfl (WL.nil (WE.block ?_))
 refine WE.j6 6 ?_
 refine dZ.step ?_
 refine WE.aA (WL.pv (PV.lss rfl rfl rfl) rfl (WL.nil (WE.seq ?_)))
 refine WE.cR rfl rfl ?_
 refine WE.skip (WE.seq (WE.block (WE.aA ?_)))
 refine WL.pv (by exact PV.rX (i := 0) rfl B2 l4 rfl rfl (by decide) (eG.agg G1 (by exact l4) (aK.l (aK.all _)))) rfl ?_
 refine WL.alloc H rfl rB rfl ?_
 intro b4 w3 H
 refine WL.aW H 0 rfl rfl rfl (new := _) rfl (by exact l4) (bB _ rfl) (Laid.at (Laid.all (by simp only [aS, aY, aB])) rfl) rfl ?_
 intro w4 H
 refine WL.nil (WE.aA (WL.pv (PV.fieldAddr rfl tO rfl) rfl (WL.aX rfl G2 rfl rfl (aN.aF (H.l 0 rfl) aK.hd rfl) ?_)))
 refine WL.bE rfl nS rfl rfl (aN.aF (H.l 1 rfl) (aK.all _) rfl) (by (rw [lE]; refine congrArg some ?_; (simp [aJ, aQ, *]; done))) ?_
 refine WL.pv (PV.fieldAddr rfl qK rfl) rfl ?_
 refine WL.bE rfl DQ rfl rfl (aN.aF (H.l 1 rfl) (aK.r (aK.r (aK.r (aK.l (aK.all _)) rfl) rfl) rfl) (by simp [aJ, aQ, *])) (cI wB (by simp only [aS, aY, aB]; omega)) ?_
 refine WL.iZ rfl rfl (Q5 H.aR (by exact (H.bJ 0 rfl : aH _ (fE sl sb) _)) hp) ?_
 rintro _ w6 ⟨rfl, hO⟩
 replace H := H.out hO
 refine WL.pv (PV.not rfl rfl) rfl (WL.nil ?_)
 refine WE.bD rfl rfl ?_
 refine WE.skip (WE.dW (WL.pv (PV.bV rfl rfl rfl (by omega) (by omega)) rfl (WL.mv rfl rfl (WL.nil ?_))))
 replace H := H.forget 0
 refine dZ.step ?_
 refine WE.aA (WL.pv (PV.lss rfl rfl rfl) rfl (WL.nil (WE.seq ?_)))
 refine WE.cR rfl rfl ?_
 refine WE.skip (WE.seq (WE.block (WE.aA ?_)))
 refine WL.pv (by exact PV.rX (i := 1) rfl B2 l4 rfl rfl (by decide) (eG.agg G1 (by exact l4) (aK.r (aK.l (aK.all _)) rfl))) rfl ?_
 refine WL.alloc H rfl rB rfl ?_
 intro b4 w8 H
 refine WL.aW H 0 rfl rfl rfl (new := _) rfl (by exact l4) (bB _ rfl) (Laid.at (Laid.all (by simp only [aS, aY, aB])) rfl) rfl ?_
 intro w9 H
 refine WL.nil (WE.aA (WL.pv (PV.fieldAddr rfl tO rfl) rfl (WL.aX rfl G2 rfl rfl (aN.aF (H.l 0 rfl) aK.hd rfl) ?_)))
 refine WL.bE rfl nS rfl rfl (aN.aF (H.l 1 rfl) (aK.all _) rfl) (by (rw [lE]; refine congrArg some ?_; (simp [aJ, aQ, *]; done))) ?_
 refine WL.pv (PV.fieldAddr rfl qK rfl) rfl ?_
 refine WL.bE rfl DQ rfl rfl (aN.aF (H.l 1 rfl) (aK.r (aK.r (aK.r (aK.l (aK.all _)) rfl) rfl) rfl) (by simp [aJ, aQ, *])) (cI wB (by simp only [aS, aY, aB]; omega)) ?_
 refine WL.iZ rfl rfl (Q4 H.aR (by exact (H.bJ 0 rfl : aH _ (fE sl sb) _)) hp) ?_
 rintro _ xG ⟨rfl, hO⟩
 replace H := H.out hO
 refine WL.pv (PV.not rfl rfl) rfl (WL.nil ?_)
 refine WE.bD rfl rfl ?_
 refine WE.skip (WE.dW (WL.pv (PV.bV rfl rfl rfl (by omega) (by omega)) rfl (WL.mv rfl rfl (WL.nil ?_))))
 replace H := H.forget 0
 refine dZ.step ?_
 refine WE.aA (WL.pv (PV.lss rfl rfl rfl) rfl (WL.nil (WE.seq ?_)))
 refine WE.cR rfl rfl ?_
 refine WE.skip (WE.seq (WE.block (WE.aA ?_)))
 refine WL.pv (by exact PV.rX (i := 2) rfl B2 l4 rfl rfl (by decide) (eG.agg G1 (by exact l4) (aK.r (aK.r (aK.l (aK.all _)) rfl) rfl))) rfl ?_
 refine WL.alloc H rfl rB rfl ?_
 intro b4 DW H
 refine WL.aW H 0 rfl rfl rfl (new := _) rfl (by exact l4) (bB _ rfl) (Laid.at (Laid.all (by simp only [aS, aY, aB])) rfl) rfl ?_
 intro H9 H
 refine WL.nil (WE.aA (WL.pv (PV.fieldAddr rfl tO rfl) rfl (WL.aX rfl G2 rfl rfl (aN.aF (H.l 0 rfl) aK.hd rfl) ?_)))
 refine WL.bE rfl nS rfl rfl (aN.aF (H.l 1 rfl) (aK.all _) rfl) (by (rw [lE]; refine congrArg some ?_; (simp [aJ, aQ, *]; done))) ?_
 refine WL.pv (PV.fieldAddr rfl qK rfl) rfl ?_
 refine WL.bE rfl DQ rfl rfl (aN.aF (H.l 1 rfl) (aK.r (aK.r (aK.r (aK.l (aK.all _)) rfl) rfl) rfl) (by simp [aJ, aQ, *])) (cI wB (by simp only [aS, aY, aB]; omega)) ?_
 refine WL.iZ rfl rfl (Q3 H.aR (by exact (H.bJ 0 rfl : aH _ (fE sl sb) _)) hp) ?_
 rintro _ QL ⟨rfl, hO⟩
 replace H := H.out hO
 refine WL.pv (PV.not rfl rfl) rfl (WL.nil ?_)
 refine WE.bD rfl rfl ?_
 refine WE.skip (WE.dW (WL.pv (PV.bV rfl rfl rfl (by omega) (by omega)) rfl (WL.mv rfl rfl (WL.nil ?_))))
 replace H := H.forget 0
 refine dZ.step ?_
 refine WE.aA (WL.pv (PV.lss rfl rfl rfl) rfl (WL.nil (WE.seq ?_)))
 refine WE.cR rfl rfl ?_
 refine WE.skip (WE.seq (WE.block (WE.aA ?_)))
 refine WL.pv (by exact PV.rX (i := 3) rfl B2 l4 rfl rfl (by decide) (eG.agg G1 (by exact l4) (aK.r (aK.r (aK.r (aK.l (aK.all _)) rfl) rfl) rfl))) rfl ?_
 refine WL.alloc H rfl rB rfl ?_
 intro b4 QJ H
 refine WL.aW H 0 rfl rfl rfl (new := _) rfl (by exact l4) (bB _ rfl) (Laid.at (Laid.all (by simp only [aS, aY, aB])) rfl) rfl ?_
 intro w19 H
 refine WL.nil (WE.aA (WL.pv (PV.fieldAddr rfl tO rfl) rfl (WL.aX rfl G2 rfl rfl (aN.aF (H.l 0 rfl) aK.hd rfl) ?_)))
 refine WL.bE rfl nS rfl rfl (aN.aF (H.l 1 rfl) (aK.all _) rfl) (by (rw [lE]; refine congrArg some ?_; (simp [aJ, aQ, *]; done))) ?_
 refine WL.pv (PV.fieldAddr rfl qK rfl) rfl ?_
 refine WL.bE rfl DQ rfl rfl (aN.aF (H.l 1 rfl) (aK.r (aK.r (aK.r (aK.l (aK.all _)) rfl) rfl) rfl) (by simp [aJ, aQ, *])) (cI wB (by simp only [aS, aY, aB]; omega)) ?_
 refine WL.iZ rfl rfl (Q2 H.aR (by exact (H.bJ 0 rfl : aH _ (fE sl sb) _)) hp) ?_
 rintro _ w21 ⟨rfl, hO⟩
 replace H := H.out hO
 refine WL.pv (PV.not rfl rfl) rfl (WL.nil ?_)
 refine WE.bD rfl rfl ?_
 refine WE.skip (WE.dW (WL.pv (PV.bV rfl rfl rfl (by omega) (by omega)) rfl (WL.mv rfl rfl (WL.nil ?_))))
 replace H := H.forget 0
 refine dZ.step ?_
 refine WE.aA (WL.pv (PV.lss rfl rfl rfl) rfl (WL.nil (WE.seq ?_)))
 refine WE.cR rfl rfl ?_
 refine WE.skip (WE.seq (WE.block (WE.aA ?_)))
 refine WL.pv (by exact PV.rX (i := 4) rfl B2 l4 rfl rfl (by decide) (eG.agg G1 (by exact l4) (aK.r (aK.r (aK.r (aK.r (aK.all _) rfl) rfl) rfl) rfl))) rfl ?_
 refine WL.alloc H rfl rB rfl ?_
 intro b4 w23 H
 refine WL.aW H 0 rfl rfl rfl (new := _) rfl (by exact l4) (bB _ rfl) (Laid.at (Laid.all (by simp only [aS, aY, aB])) rfl) rfl ?_
 intro w24 H
 refine WL.nil (WE.aA (WL.pv (PV.fieldAddr rfl tO rfl) rfl (WL.aX rfl G2 rfl rfl (aN.aF (H.l 0 rfl) aK.hd rfl) ?_)))
 refine WL.bE rfl nS rfl rfl (aN.aF (H.l 1 rfl) (aK.all _) rfl) (by (rw [lE]; refine congrArg some ?_; (simp [aJ, aQ, *]; done))) ?_
 refine WL.pv (PV.fieldAddr rfl qK rfl) rfl ?_
 refine WL.bE rfl DQ rfl rfl (aN.aF (H.l 1 rfl) (aK.r (aK.r (aK.r (aK.l (aK.all _)) rfl) rfl) rfl) (by simp [aJ, aQ, *])) (cI wB (by simp only [aS, aY, aB]; omega)) ?_
 refine WL.iZ rfl rfl (Q1 H.aR (by exact (H.bJ 0 rfl : aH _ (fE sl sb) _)) hp) ?_
 rintro _ w26 ⟨rfl, hO⟩
 replace H := H.out hO
 refine WL.pv (PV.not rfl rfl) rfl (WL.nil ?_)
 refine WE.bD rfl rfl ?_
 refine WE.skip (WE.dW (WL.pv (PV.bV rfl rfl rfl (by omega) (by omega)) rfl (WL.mv rfl rfl (WL.nil ?_))))
 replace H := H.forget 0
 refine dZ.step ?_
 refine WE.aA (WL.pv (PV.lss rfl rfl rfl) rfl (WL.nil (WE.seq ?_)))
 refine WE.bD rfl rfl ?_
 refine WE.exit (WE.aA (WL.as rfl rfl (WL.nil (WE.ret ⟨[_], _, .nil _, ⟨rfl, trivial⟩, ?_⟩))))
 exact ⟨rfl, H.aL⟩
theorem aDP {X : Nat → Prop} {w : World} {bits : Int} {T : Tr} {m : List En} {k : List UInt8} (hX : c6 X w) (bT : aH X (cV bits T) w) (hk : k.length = 32) (hT : T.er = grow 0 m) (hs : k9 m) (tY : KL m) :
  bC prog 51 [T.ptr, .agg (kc k).toArray].toArray w fun v w' => ∃ s, v = .tuple [s, .bool (kL m k)].toArray ∧ Out Nil w w' ∧ aH X (bL s (gV m k)) w' := by
 have pm := hs.pm tY
 have hfit := tL pm
 rw [← hT] at hfit
 have hg0 := TX (k := k) hT pm
 cases hg : getM m k with
 | none =>
  refine (aAG hX bT hk hfit (by rw [hg0, hg]; rfl)).mono ?_
  rintro v w' ⟨rfl, hO⟩
  refine ⟨.slice none 0 0, by unfold kL; rw [hg]; rfl, hO, fun w'' _ => ?_⟩
  unfold gV; rw [hg]; exact bL.nil w''
 | some e =>
  refine (WK (v0 := e.v) hX bT hk hfit (by rw [hg0, hg]; rfl)).mono ?_
  rintro v w' ⟨s, rfl, hO, iE⟩
  refine ⟨s, by unfold kL; rw [hg]; rfl, hO, ?_⟩
  have h1 := (nB hX iE).imp fun _ h => bL.dM h
  unfold gV; rw [hg]; exact h1
theorem AX {X : Nat → Prop} {w : World} {s : Value} {m : List En} {k : List UInt8} (hX : c6 X w) (bT : aH X (fF s m) w) (p3 : KL m) (hlen : m.length ≤ 1000000) (hk : k.length = 32) :
  bC prog 40 [s, .agg (kc k).toArray].toArray w fun v w' => v = .tuple [gS m k, .bool (kL m k)].toArray ∧ Out Nil w w' := by
 have := RG hX bT p3 hlen hk
 rwa [ZP] at this
theorem bL.whole {a : Addr} {n c : Nat} {l : List UInt8} {w : World} (h : bL (.slice (some a) n c) l w) : dD w a (kc l) := by
 obtain ⟨A, c', hv, _, _, _, hr⟩ := h
 injection hv with hv _ _
 exact hr a hv.symm
theorem bL.some {s : Value} {l : List UInt8} {w : World} (h : bL s l w) (hl : 0 < l.length) : ∃ a c, s = .slice (some a) l.length c := by
 obtain ⟨a, c, hv, _⟩ := cO.at_ h 0 hl
 exact ⟨a, c, hv⟩
theorem V6 {X : Nat → Prop} {w : World} {s : Value} {lb : List UInt8} (hX : c6 X w) (bT : aH X (bL s lb) w) (FL : lb.length = 32) :
  bC prog 133 [s].toArray w fun v w' => v = .tuple [.agg (kc lb).toArray, .int .i64 0].toArray ∧ Out Nil w w' := by
 refine bC.aI (N := 11) func133 rfl rfl (by simp) ?_
 have H := (St.begin hX).add (cE bT)
 obtain ⟨sa, sc, rfl⟩ := bL.some (H.p 0 rfl : bL s lb _) (by omega)
 have HP : lb.length = 32 := FL
 refine WE.aA ?_
 refine WL.alloc H rfl q7 rfl ?_
 intro b2 w1 H
 refine WL.as rfl rfl (WL.nil (WE.seq (WE.aA (WL.mv rfl rfl (WL.pv (PV.A8 eN rfl) rfl (WL.pv (PV.neq rfl rfl rfl) rfl (WL.nil ?_)))))))
 refine WE.bD rfl (by simp [FL]) ?_
 refine WE.skip (WE.aA (WL.mv rfl rfl ?_))
 refine WL.pv (PV.vX (n := 32) rfl gW (by rw [FL]; rfl)) rfl ?_
 refine WL.bE rfl c7 rfl rfl (bL.whole (H.p 0 rfl)) (cI cM (by simp only [aS, aY, aB]; omega)) ?_
 refine WL.aW H 0 rfl rfl rfl (new := _) rfl (cI cM (by simp only [aS, aY, aB]; omega)) (bH _) (Laid.at (Laid.all (by simp only [aS, aY, aB]; omega)) rfl) rfl ?_
 intro w2 H
 refine WL.as rfl rfl (WL.nil (WE.ret ⟨[_, _], _, .nil _, ⟨⟨_, rfl, aU c7 (aN.aF (H.l 0 rfl) (aK.all _) rfl) (cI cM (by simp only [aS, aY, aB]; omega))⟩, rfl, trivial⟩, ?_⟩))
 exact ⟨rfl, H.aL⟩
theorem aAy {X : Nat → Prop} {w : World} {s : Value} {lb : List UInt8} (hX : c6 X w) (bT : aH X (bL s lb) w) (FL : lb.length ≠ 32) (hle : lb.length ≤ 9223372036854775807) :
  bC prog 133 [s].toArray w fun v w' => v = .tuple [.agg (kc (List.replicate 32 0)).toArray, .int .i64 2].toArray ∧ Out Nil w w' := by
 refine bC.aI (N := 11) func133 rfl rfl (by simp) ?_
 have H := (St.begin hX).add (cE bT)
 refine WE.aA ?_
 refine WL.alloc H rfl q7 rfl ?_
 intro b2 w1 H
 refine WL.as rfl rfl (WL.nil (WE.seq (WE.aA (WL.mv rfl rfl (WL.pv (PV.dS (H.p 0 rfl) eN rfl) rfl (WL.pv (PV.neq rfl rfl rfl) rfl (WL.nil ?_)))))))
 refine WE.cR rfl (by simp; omega) ?_
 refine WE.aA (WL.pv (PV.lY rfl gW gO q7 Fl.nil) rfl ?_)
 refine WL.aW H 0 rfl rfl rfl (new := _) rfl (by exact cM) (bH _) (Laid.at (Laid.all rfl) rfl) rfl ?_
 intro w2 H
 refine WL.as rfl rfl (WL.nil (WE.ret ⟨[_, _], _, .nil _, ⟨⟨_, rfl, aU c7 (aN.aF (H.l 0 rfl) (aK.all _) rfl) (by exact cM)⟩, rfl, trivial⟩, ?_⟩))
 exact ⟨rfl, H.aL⟩
theorem ZR {lb : List UInt8} {i m : Nat} (h : i < lb.length) : (lb.take i ++ List.replicate (m + 1) (0 : UInt8)).set i lb[i] = lb.take (i + 1) ++ List.replicate m 0 := by
 have h1 : (lb.take i).length = i := by rw [List.length_take]; omega
 rw [List.set_append_right (h := by omega), h1, Nat.sub_self, List.replicate_succ, List.set_cons_zero, List.take_succ_eq_append_getElem h, List.append_assoc]
 rfl
theorem sW {X : Nat → Prop} {w : World} {s : Value} {lb : List UInt8} (hX : c6 X w) (bT : aH X (bL s lb) w) (FL : lb.length = 32) :
  bC prog 45 [s].toArray w fun v w' => v = .agg (kc lb).toArray ∧ Out Nil w w' := by
 refine bC.aI (N := 16) func45 rfl rfl (by simp) ?_
 have H := (St.begin hX).add (cE bT)
 refine WE.aA ?_
 refine WL.alloc H rfl q7 rfl ?_
 intro b2 w1 H
 refine WL.nil (WE.aA ?_)
 refine WL.alloc H rfl q7 rfl ?_
 intro b3 w2 H
 refine WL.nil (WE.seq (WE.aA (WL.as rfl rfl (WL.nil (WE.block ?_)))))
 refine WE.loop (α := Nat) (rg [(4, 11)]) (fun i => [(4, .int .i64 (i : Int))]) (fun i wl => i ≤ 32 ∧ St X w wl [] [aP.blk b3 24 (kc (lb.take i ++ List.replicate (32 - i) 0)), aP.blk b2 24 (kc (List.replicate 32 0))] [bL s lb]) (fun i => 32 - i) 0 ⟨rfl, trivial⟩ ⟨Nat.zero_le _, H.conv rfl⟩ ?_
 intro i γ0 w3 hI
 try dsimp only at hI
 obtain ⟨hi, H⟩ := hI
 refine WE.seq (WE.aA (WL.mv rfl rfl (WL.pv (PV.lss rfl rfl rfl) rfl (WL.nil ?_))))
 refine WE.cond rfl (fun TG => ?_) (fun TG => ?_)
 ·
  try simp only [bP] at TG
  have aCR : i < 32 := by omega
  refine WE.skip (WE.seq (WE.block (WE.dW (WL.mv rfl rfl (WL.mv rfl rfl (WL.mv rfl rfl (WL.pv (PV.dX rfl (H.p 0 rfl) eN gO rfl rfl (by omega) (by omega)) rfl ?_)))))))
  refine WL.aX rfl vD rfl rfl (bL.rd (H.p 0 rfl) i (by omega)) (WL.pv (PV.bF rfl gW gO rfl rfl (by omega) (by omega)) rfl ?_)
  refine WL.aW H 0 rfl rfl rfl (new := _) rfl (by exact gO) (bB _ rfl) (Laid.at (Laid.tQ (x := lb[i]) i (by rw [List.length_append, List.length_take, List.length_replicate]; omega)) (by simp)) rfl ?_
  intro w4 H
  refine WL.nil (WE.dW (WL.mv rfl rfl (WL.pv (PV.eq (v' := .int .i64 ((i + 1 : Nat) : Int)) (PV.bV rfl rfl rfl (by omega) (by omega)) rfl) rfl (WL.as rfl rfl (WL.nil ?_)))))
  have hfs : (lb.take i ++ List.replicate (32 - i) (0 : UInt8)).set i lb[i] = lb.take (i + 1) ++ List.replicate (32 - (i + 1)) 0 := by rw [show 32 - i = (32 - (i + 1)) + 1 by omega]; exact ZR (by omega)
  exact ⟨i + 1, (by repeat (first | with_reducible exact bK.refl _ _ | refine bK.dG rfl ?_ | refine bK.bZ rfl ?_ | refine bK.bX rfl ?_)), ⟨rfl, trivial⟩, rfl, ⟨by omega, H.conv (by rw [← hfs]; rfl)⟩, (by omega)⟩
 ·
  try simp only [bP] at TG
  have vR : i = 32 := by omega
  refine WE.exit (WE.aA ?_)
  subst vR
  replace H := H.conv (L' := [aP.blk b3 24 (kc lb), aP.blk b2 24 (kc (List.replicate 32 0))]) (by rw [List.take_of_length_le (by omega)]; simp)
  refine WL.bE rfl c7 rfl rfl (aN.aF (H.l 0 rfl) (aK.all _) rfl) (cI cM (by simp only [aS, aY, aB]; omega)) ?_
  refine WL.aW H 1 rfl rfl rfl (new := _) rfl (cI cM (by simp only [aS, aY, aB]; omega)) (bH _) (Laid.at (Laid.all (by simp only [aS, aY, aB]; omega)) rfl) rfl ?_
  intro w5 H
  refine WL.nil (WE.ret ⟨[_], _, .nil _, ⟨⟨_, rfl, aU c7 (aN.aF (H.l 1 rfl) (aK.all _) rfl) (cI cM (by simp only [aS, aY, aB]; omega))⟩, trivial⟩, ?_⟩)
  exact ⟨rfl, H.aL⟩
def dY (op : List UInt8) (ix code : Int) : List Value := [p5 op, .int .i64 ix, .iface 42 (.int .i64 code)]
def fK (op : List UInt8) (ix code : Int) (v : Value) (w : World) : Prop :=
 (code = 0 ∧ v = .nilIface) ∨ (code ≠ 0 ∧ ∃ bf, v = .iface 219 (.pointer (some ⟨bf, 0, none⟩)) ∧ aN w bf 221 (dY op ix code))
theorem fK.Y5 {op : List UInt8} {ix code : Int} {v : Value} {w : World} (h : fK op ix code v w) : zS v := by
 rcases h with ⟨_, rfl⟩ | ⟨_, bf, rfl, _⟩
 ·
  exact zS.nil
 ·
  exact zS.of
theorem fK.isNil {op : List UInt8} {ix code : Int} {v : Value} {w : World} (h : fK op ix code v w) : gJ v = decide (code = 0) := by
 rcases h with ⟨h, rfl⟩ | ⟨h, bf, rfl, _⟩
 ·
  rw [decide_eq_true h]; rfl
 ·
  rw [decide_eq_false h]; rfl
theorem fK.one {op : List UInt8} {ix code : Int} {v : Value} {w : World} (h : fK op ix code v w) : v.oneCell' = true := by
 rcases h with ⟨_, rfl⟩ | ⟨_, bf, rfl, _⟩ <;> rfl
def kG (k : List UInt8) : List UInt8 := if k.length = 32 then k else rR
theorem oG (k : List UInt8) : (kG k).length = 32 := by
 unfold kG
 split
 ·
  assumption
 ·
  rfl
theorem gG (k : List UInt8) : bW k [] = if k.length = 32 then 0 else 2 := by
 unfold bW
 by_cases h : k.length = 32
 ·
  rw [if_neg (by omega), if_neg (by simp), if_pos h]
 ·
  rw [if_pos h, if_neg h]
theorem aIi {X : Nat → Prop} {w : World} {s : Value} {lb : List UInt8} (hX : c6 X w) (bT : aH X (bL s lb) w) (hl : lb.length ≤ 9223372036854775807) :
  bC prog 133 [s].toArray w fun v w' => v = .tuple [.agg (kc (kG lb)).toArray, .int .i64 (bW lb [])].toArray ∧ Out Nil w w' := by
 by_cases h : lb.length = 32
 ·
  have := V6 hX bT h
  rw [gG, if_pos h, show kG lb = lb from if_pos h]; exact this
 ·
  have := aAy hX bT h hl
  rw [gG, if_neg h, show kG lb = rR from if_neg h]; exact this
theorem dY.rd0 {w : World} {bf : Nat} {op : List UInt8} {ix code : Int} (h : aN w bf 221 (dY op ix code)) : dD w ⟨bf, 0, none⟩ [p5 op] := aN.aF h (o := 0) ⟨[], [.int .i64 ix, .iface 42 (.int .i64 code)], rfl, rfl⟩ rfl
theorem dY.rd1 {w : World} {bf : Nat} {op : List UInt8} {ix code : Int} (h : aN w bf 221 (dY op ix code)) : dD w ⟨bf, 1, none⟩ [.int .i64 ix] := aN.aF h (o := 1) ⟨[p5 op], [.iface 42 (.int .i64 code)], rfl, rfl⟩ rfl
theorem dY.rd2 {w : World} {bf : Nat} {op : List UInt8} {ix code : Int} (h : aN w bf 221 (dY op ix code)) : dD w ⟨bf, 2, none⟩ [.iface 42 (.int .i64 code)] := aN.aF h (o := 2) ⟨[p5 op, .int .i64 ix], [], rfl, rfl⟩ rfl
theorem zL {X : Nat → Prop} {w : World} {op : List UInt8} {ix code : Int} (hX : c6 X w) :
  bC prog 80 [p5 op, .int .i64 ix, .iface 42 (.int .i64 code)].toArray w fun v w' => ∃ bf, v = .iface 219 (.pointer (some ⟨bf, 0, none⟩)) ∧ Out Nil w w' ∧ w.heap.size ≤ bf ∧ aN w' bf 221 (dY op ix code) := by
 refine bC.aI (N := 15) func80 rfl rfl (by simp) ?_
 have H := St.begin hX
 refine WE.aA (WL.as rfl rfl (WL.nil (WE.seq (WE.aA (WL.mv rfl rfl ?_)))))
 refine WL.pv (PV.qL rfl (by kernel_rfl) (by exact zS.of)) rfl ?_
 refine WL.nil ?_
 refine WE.bD rfl rfl ?_
 refine WE.skip (WE.aA (WL.mv rfl rfl (WL.mv rfl rfl (WL.mv rfl rfl ?_))))
 refine WL.pv (PV.dQ rfl aEM aD6 (Fl.cons rfl (rfl) (by simp only [aS, aY, aB]) Laid.head (Fl.cons rfl (rfl) (by simp only [aS, aY, aB]) (Laid.tail Laid.head rfl) (Fl.cons rfl (rfl) (by simp only [aS, aY, aB]) (Laid.tail (Laid.tail Laid.head rfl) rfl) Fl.nil)))) rfl ?_
 refine WL.box (l := dY op ix code) H rfl rfl rfl ?_
 intro b13 w1 H
 refine WL.pv (PV.lK rfl (by kernel_rfl)) rfl (WL.as rfl rfl (WL.nil (WE.ret ⟨[_], _, .nil _, ⟨rfl, trivial⟩, ?_⟩)))
 exact ⟨_, rfl, H.aL, H.kI _ (List.mem_of_getElem? (i := 0) rfl) _ rfl, H.l 0 rfl⟩
theorem JT {X : Nat → Prop} {w : World} {op : List UInt8} {ix code : Int} (hX : c6 X w) :
  bC prog 53 [p5 op, .int .i64 ix, .int .i64 code].toArray w fun v w' => Out Nil w w' ∧ aH X (fK op ix code v) w' := by
 refine bC.aI (N := 14) func53 rfl rfl (by simp) ?_
 have H := St.begin hX
 refine WE.aA (WL.as rfl rfl (WL.nil (WE.seq (WE.aA (WL.mv rfl rfl (WL.pv (PV.eql rfl rfl rfl) rfl (WL.nil ?_)))))))
 refine WE.cond rfl (fun l8 => ?_) (fun l8 => ?_)
 ·
  try simp only [bP] at l8
  have hz : code = 0 := by exact l8
  refine WE.aA (WL.as rfl rfl (WL.nil (WE.ret ⟨[_], _, .nil _, ⟨rfl, trivial⟩, ?_⟩)))
  exact ⟨H.aL, fun _ _ => .inl ⟨hz, rfl⟩⟩
 ·
  try simp only [bP] at l8
  have hz : code ≠ 0 := by exact l8
  refine WE.skip (WE.aA (WL.mv rfl rfl (WL.mv rfl rfl (WL.mv rfl rfl (WL.pv (PV.lK rfl (by kernel_rfl)) rfl ?_)))))
  refine WL.call aGe rfl (zL (op := op) (ix := ix) (code := code) H.aR  ) ?_
  rintro _ w1 ⟨U7, rfl, hO, hge, hB⟩
  replace H := H.push hO (aP.blk U7 221 (dY op ix code)) hB (fun c hc => by cases hc; exact hge)
  refine WL.as rfl rfl (WL.nil (WE.ret ⟨[_], _, .nil _, ⟨rfl, trivial⟩, ?_⟩))
  replace H := H.freeze (i := 0) rfl
  exact ⟨H.aL, (show aH X (fun w => aN w U7 221 (dY op ix code)) _ from H.fX (H.bJ 0 rfl)).imp fun _ h => .inr ⟨hz, U7, rfl, h⟩⟩
theorem VR {X : Nat → Prop} {w : World} {bf : Nat} {op : List UInt8} {ix code : Int} (hX : c6 X w) (bT : aH X (fun w => aN w bf 221 (dY op ix code)) w) :
  bC prog 249 [.pointer (some ⟨bf, 0, none⟩)].toArray w fun v w' => v = .iface 42 (.int .i64 code) ∧ Out Nil w w' := by
 refine bC.aI (N := 9) func249 rfl rfl (by simp) ?_
 have H := (St.begin hX).add (cE bT)
 refine WE.aA (WL.as rfl rfl (WL.nil (WE.seq (WE.aA (WL.mv rfl rfl (WL.pv (PV.jU rfl aA2 rfl rfl) rfl (WL.nil ?_)))))))
 refine WE.bD rfl rfl ?_
 refine WE.skip (WE.aA (WL.mv rfl rfl (WL.pv (PV.nilCheck rfl rfl) rfl (WL.pv (PV.fieldAddr rfl L8 rfl) rfl (WL.aX rfl aH1 rfl rfl ((dY.rd2 (H.p 0 rfl))) (WL.as rfl rfl (WL.nil ?_)))))))
 refine WE.ret ⟨[_], _, .nil _, ⟨rfl, trivial⟩, ?_⟩
 exact ⟨rfl, H.aL⟩
theorem MF {X : Nat → Prop} {w : World} {s sv : Value} {lb vv : List UInt8} (hX : c6 X w) (bT : aH X (bL s lb) w) (dJ : aH X (bL sv vv) w) (FL : lb.length ≤ 9223372036854775807) (hvv : vv.length ≤ 9223372036854775807) :
  bC prog 89 [s, sv].toArray w fun v w' => v = .tuple [.agg (kc (kG lb) ++ [sv]).toArray, .int .i64 (bW lb vv)].toArray ∧ Out Nil w w' := by
 refine bC.aI (N := 24) func89 rfl rfl (by simp) ?_
 have H := ((St.begin hX).add (cE dJ)).add (cE bT)
 have wR : sv.oneCell' = true := cO.fW (dJ.here)
 have PY := oG lb
 have SL := gG lb
 refine WE.aA ?_
 refine WL.alloc H rfl lC rfl ?_
 intro b4 w1 H
 refine WL.as rfl rfl (WL.nil (WE.aA (WL.mv rfl rfl ?_)))
 refine WL.call aHf rfl (aIi (lb := lb) H.aR (by exact (H.bJ 0 rfl : aH _ (bL s lb) _)) FL) ?_
 rintro _ w2 ⟨rfl, hO⟩
 replace H := H.out hO
 refine WL.mv rfl rfl (WL.pv (PV.extract rfl rfl rfl) rfl (WL.pv (PV.extract rfl rfl rfl) rfl ?_))
 refine WL.alloc H rfl q7 rfl ?_
 intro b6 w3 H
 refine WL.aW H 0 rfl rfl rfl (new := kc (kG lb)) rfl (cI cM (by simp only [aS, aY, aB]; omega)) (bH _) (Laid.at (Laid.all (by simp only [aS, aY, aB]; omega)) rfl) rfl ?_
 intro w4 H
 refine WL.as rfl rfl (WL.nil (WE.seq (WE.aA (WL.mv rfl rfl (WL.pv (PV.eql rfl rfl rfl) rfl (WL.mv rfl rfl ?_))))))
 refine WL.split (t := 15) rfl (fun tI => ?_) (fun tI => ?_)
 ·
  refine WL.known (t := 14) (c := true) rfl tI ?_
  try simp only [bP] at tI
  have hok : bW lb [] = 0 := by exact tI
  have HV : lb.length = 32 := (dN.1 hok).1
  refine WL.mv rfl rfl ?_
  refine WL.pv (PV.dS (by exact (H.p 1 rfl : (bL sv vv) _)) eN rfl) rfl ?_
  refine WL.pv (PV.gtr rfl rfl rfl) rfl (WL.pv (PV.c5 rfl rfl rfl) rfl (WL.nil ?_))
  refine WE.cond rfl (fun kC => ?_) (fun kC => ?_)
  ·
   try simp only [bP] at kC
   have hrn : bW lb vv = 3 := by unfold bW; rw [if_neg (by omega), if_pos (by omega)]
   refine WE.dW (WL.as rfl rfl (WL.nil (WE.aA ?_)))
   refine WL.bE rfl c7 rfl rfl (aN.aF (H.l 0 rfl) (aK.all _) rfl) (cI cM (by simp only [aS, aY, aB]; omega)) ?_
   refine WL.mv rfl rfl ?_
   refine WL.pv (PV.dQ rfl xZ lC (Fl.cons rfl rfl (by simp only [aS, aY, aB]; omega) (Laid.left (Laid.all (by simp only [aS, aY, aB]; omega))) (Fl.cons rfl (cells_one wR) (by simp only [aS, aY, aB]) (Laid.right (Laid.all (by simp only [aS, aY, aB])) (by simp only [aS, aY, aB]; omega)) Fl.nil))) rfl ?_
   refine WL.mv rfl rfl ?_
   refine WL.aW H 1 rfl rfl rfl (new := kc (kG lb) ++ [sv]) rfl (cI fH (by simp only [aS, aY, aB]; omega)) (bN (bH _) (eF wR)) (Laid.at (Laid.all (by simp only [aS, aY, aB]; omega)) rfl) rfl ?_
   intro w5 H
   refine WL.as rfl rfl (WL.nil (WE.ret ⟨[_, _], _, .nil _, ⟨⟨_, rfl, aU pV (aN.aF (H.l 1 rfl) (aK.all _) rfl) (cI fH (by simp only [aS, aY, aB]; omega))⟩, rfl, trivial⟩, ?_⟩))
   refine ⟨?_, H.aL⟩
   rw [hrn]; rfl
  ·
   try simp only [bP] at kC
   have hrn : bW lb vv = bW lb [] := by rw [hok]; exact dN.2 ⟨HV, by omega⟩
   refine WE.skip (WE.aA ?_)
   refine WL.bE rfl c7 rfl rfl (aN.aF (H.l 0 rfl) (aK.all _) rfl) (cI cM (by simp only [aS, aY, aB]; omega)) ?_
   refine WL.mv rfl rfl ?_
   refine WL.pv (PV.dQ rfl xZ lC (Fl.cons rfl rfl (by simp only [aS, aY, aB]; omega) (Laid.left (Laid.all (by simp only [aS, aY, aB]; omega))) (Fl.cons rfl (cells_one wR) (by simp only [aS, aY, aB]) (Laid.right (Laid.all (by simp only [aS, aY, aB])) (by simp only [aS, aY, aB]; omega)) Fl.nil))) rfl ?_
   refine WL.mv rfl rfl ?_
   refine WL.aW H 1 rfl rfl rfl (new := kc (kG lb) ++ [sv]) rfl (cI fH (by simp only [aS, aY, aB]; omega)) (bN (bH _) (eF wR)) (Laid.at (Laid.all (by simp only [aS, aY, aB]; omega)) rfl) rfl ?_
   intro w6 H
   refine WL.as rfl rfl (WL.nil (WE.ret ⟨[_, _], _, .nil _, ⟨⟨_, rfl, aU pV (aN.aF (H.l 1 rfl) (aK.all _) rfl) (cI fH (by simp only [aS, aY, aB]; omega))⟩, rfl, trivial⟩, ?_⟩))
   refine ⟨?_, H.aL⟩
   rw [hrn]; rfl
 ·
  refine WL.known (t := 14) (c := false) rfl tI ?_
  try simp only [bP] at tI
  have hok : ¬ bW lb [] = 0 := by exact tI
  have HV : lb.length ≠ 32 := fun h => hok (dN.2 ⟨h, by simp⟩)
  have hrn : bW lb vv = bW lb [] := by rw [SL, if_neg HV]; exact if_pos HV
  refine WL.off rfl (WL.off rfl (WL.off rfl (WL.pv (PV.cF rfl rfl rfl) rfl (WL.nil (WE.jF rfl (WE.skip (WE.aA ?_)))))))
  refine WL.bE rfl c7 rfl rfl (aN.aF (H.l 0 rfl) (aK.all _) rfl) (cI cM (by simp only [aS, aY, aB]; omega)) ?_
  refine WL.mv rfl rfl ?_
  refine WL.pv (PV.dQ rfl xZ lC (Fl.cons rfl rfl (by simp only [aS, aY, aB]; omega) (Laid.left (Laid.all (by simp only [aS, aY, aB]; omega))) (Fl.cons rfl (cells_one wR) (by simp only [aS, aY, aB]) (Laid.right (Laid.all (by simp only [aS, aY, aB])) (by simp only [aS, aY, aB]; omega)) Fl.nil))) rfl ?_
  refine WL.mv rfl rfl ?_
  refine WL.aW H 1 rfl rfl rfl (new := kc (kG lb) ++ [sv]) rfl (cI fH (by simp only [aS, aY, aB]; omega)) (bN (bH _) (eF wR)) (Laid.at (Laid.all (by simp only [aS, aY, aB]; omega)) rfl) rfl ?_
  intro w7 H
  refine WL.as rfl rfl (WL.nil (WE.ret ⟨[_, _], _, .nil _, ⟨⟨_, rfl, aU pV (aN.aF (H.l 1 rfl) (aK.all _) rfl) (cI fH (by simp only [aS, aY, aB]; omega))⟩, rfl, trivial⟩, ?_⟩))
  refine ⟨?_, H.aL⟩
  rw [hrn]; rfl
theorem xI {X : Nat → Prop} {w : World} {bt : Nat} {op : List UInt8} {s sv : Value} {lb vv : List UInt8} (hX : c6 X w) (bT : aH X (bL s lb) w) (dJ : aH X (bL sv vv) w) (FL : lb.length ≤ 9223372036854775807) (hvv : vv.length ≤ 9223372036854775807) :
  bC prog 49 [.pointer (some ⟨bt, 0, none⟩), p5 op, s, sv].toArray w fun v w' => ∃ ev, v = .tuple [.agg (kc (kG lb) ++ [sv]).toArray, ev].toArray ∧ Out Nil w w' ∧ aH X (fK op 0 (bW lb vv) ev) w' := by
 refine bC.aI (N := 27) func49 rfl rfl (by simp) ?_
 have H := ((St.begin hX).add (cE dJ)).add (cE bT)
 have wR : sv.oneCell' = true := cO.fW (dJ.here)
 have PY := oG lb
 refine WE.aA ?_
 refine WL.alloc H rfl lC rfl ?_
 intro b8 w1 H
 refine WL.as rfl rfl (WL.nil (WE.seq (WE.aA (WL.mv rfl rfl (WL.pv (PV.jU rfl IV rfl rfl) rfl (WL.nil ?_))))))
 refine WE.bD rfl rfl ?_
 refine WE.skip (WE.aA (WL.mv rfl rfl (WL.mv rfl rfl ?_)))
 refine WL.call aGc rfl (MF (lb := lb) (vv := vv) H.aR (by exact H.bJ 0 rfl) (by exact H.bJ 1 rfl) (by assumption) (by assumption)) ?_
 rintro _ w2 ⟨rfl, hO⟩
 replace H := H.out hO
 refine WL.mv rfl rfl (WL.pv (PV.extract rfl rfl rfl) rfl (WL.pv (PV.extract rfl rfl rfl) rfl ?_))
 refine WL.alloc H rfl lC rfl ?_
 intro vB w3 H
 refine WL.aW H 0 rfl rfl rfl (new := _) rfl (cI fH (by simp only [aS, aY, aB]; omega)) (bN (bH _) (eF wR)) (Laid.at (Laid.all (by simp only [aS, aY, aB]; omega)) rfl) rfl ?_
 intro w4 H
 refine WL.as rfl rfl (WL.nil ?_)
 refine WE.bG (.take 0 (.take 1 (.take 2 (.aG 3 (.aG 4 (.take 5 .done)))))) mixed (by kernel_rfl) ?_
 replace H := H.out (Out.drew _)
 refine WP.dO rfl rfl rfl pV rfl (aN.aF (H.l 0 rfl) (aK.all _) rfl) (cI fH (by simp only [aS, aY, aB]; omega)) ?_
 refine WP.mv rfl rfl rfl (WP.mv rfl rfl rfl (WP.aG rfl ?_))
 refine WL.call aDa rfl (JT (op := op) (ix := 0) (code := bW lb vv) H.aR  ) ?_
 rintro v26 w5 ⟨hO, hR⟩
 replace H := (H.out hO).add hR
 refine WL.nil ⟨(fa (fun _ _ => (aN.aF (H.l 0 rfl) (aK.all _) rfl)) c8), ?_⟩
 refine WP.aG rfl ?_
 refine WL.aW H 1 rfl rfl rfl (new := kc (kG lb) ++ [sv]) rfl (cI fH (by simp only [aS, aY, aB]; omega)) (bN (bH _) (eF wR)) (Laid.at (Laid.all (by simp only [aS, aY, aB]; omega)) rfl) rfl ?_
 intro w6 H
 refine WL.nil ⟨(fa (nw 4 0) c8), ?_⟩
 refine WP.as rfl rfl rfl (WP.done (WE.ret ⟨[_, _], _, .nil _, ⟨⟨_, rfl, aU pV (aN.aF (H.l 1 rfl) (aK.all _) rfl) (cI fH (by simp only [aS, aY, aB]; omega))⟩, rfl, trivial⟩, ?_⟩))
 exact ⟨_, rfl, H.aL, H.fX (H.bJ 0 rfl)⟩
theorem pO {X : Nat → Prop} {w : World} {bt bh : Nat} {T : Tr} (hX : c6 X w) (bT : aH X (fun w => dD w ⟨bt, 0, none⟩ [.pointer (some ⟨bh, 0, none⟩), T.ptr]) w) :
  bC prog 10 [.pointer (some ⟨bt, 0, none⟩)].toArray w fun v w' => v = .pointer (some ⟨bh, 0, none⟩) ∧ Out Nil w w' := by
 refine bC.aI (N := 9) func10 rfl rfl (by simp) ?_
 have H := (St.begin hX).add (cE bT)
 refine WE.aA (WL.as rfl rfl (WL.nil (WE.seq (WE.aA (WL.mv rfl rfl (WL.pv (PV.jU rfl IV rfl rfl) rfl (WL.nil ?_)))))))
 refine WE.bD rfl rfl ?_
 refine WE.skip (WE.aA (WL.mv rfl rfl (WL.pv (PV.nilCheck rfl rfl) rfl (WL.pv (PV.fieldAddr rfl yQ rfl) rfl ?_))))
 refine WL.aX rfl wK rfl rfl (by exact dD.at_ (o := 0) (H.p 0 rfl) rfl rfl) ?_
 refine WL.as rfl rfl (WL.nil (WE.ret ⟨[_], _, .nil _, ⟨rfl, trivial⟩, ?_⟩))
 exact ⟨rfl, H.aL⟩
theorem DR {X : Nat → Prop} {w : World} {bt bh : Nat} {T : Tr} (hX : c6 X w) (bT : aH X (fun w => dD w ⟨bt, 0, none⟩ [.pointer (some ⟨bh, 0, none⟩), T.ptr]) w) :
  bC prog 11 [.pointer (some ⟨bt, 0, none⟩)].toArray w fun v w' => v = T.ptr ∧ Out Nil w w' := by
 refine bC.aI (N := 9) func11 rfl rfl (by simp) ?_
 have H := (St.begin hX).add (cE bT)
 refine WE.aA (WL.as rfl rfl (WL.nil (WE.seq (WE.aA (WL.mv rfl rfl (WL.pv (PV.jU rfl IV rfl rfl) rfl (WL.nil ?_)))))))
 refine WE.bD rfl rfl ?_
 refine WE.skip (WE.aA (WL.mv rfl rfl (WL.pv (PV.nilCheck rfl rfl) rfl (WL.pv (PV.fieldAddr rfl pH rfl) rfl ?_))))
 refine WL.aX rfl iQ rfl rfl (by exact dD.at_ (o := 1) (H.p 0 rfl) rfl rfl) ?_
 refine WL.as rfl rfl (WL.nil (WE.ret ⟨[_], _, .nil _, ⟨rfl, trivial⟩, ?_⟩))
 exact ⟨rfl, H.aL⟩
theorem MY {X : Nat → Prop} {w : World} {bt bh bc : Nat} {bits c0 : Int} {T : Tr} (hX : c6 X w) (fA : aN w bc 213 ([.int .i64 c0])) (bT : aH (fun c_ => X c_ ∨ c_ = bc) (fun w => dD w ⟨bt, 0, none⟩ [.pointer (some ⟨bh, 0, none⟩), T.ptr]) w) (dJ : aH (fun c_ => X c_ ∨ c_ = bc) (fO bh bc bits) w) (fQ : aH (fun c_ => X c_ ∨ c_ = bc) (cV bits T) w) (jW : aH (fun c_ => X c_ ∨ c_ = bc) (aZ) w) (bU : 0 ≤ bits ∧ bits ≤ 256) :
  bC prog 13 [.pointer (some ⟨bt, 0, none⟩)].toArray w fun v w' => ∃ m : Int, v = .agg (kc (T.er.nV bits)).toArray ∧ Out (· = bc) w w' ∧ aN w' bc 213 [.int .i64 m] := by
 refine bC.aI (N := 15) func13 rfl rfl (by simp) ?_
 have H := ((((St.dK (b := bc) (t := 213) (l := [.int .i64 c0]) hX fA).add (cC jW)).add (cC fQ)).add (cC dJ)).add (cC bT)
 refine WE.aA ?_
 refine WL.alloc H rfl lB rfl ?_
 intro b2 w1 H
 refine WL.nil (WE.seq (WE.aA (WL.mv rfl rfl (WL.pv (PV.jU rfl IV rfl rfl) rfl (WL.nil ?_)))))
 refine WE.bD rfl rfl ?_
 refine WE.skip ?_
 refine WE.bG (.take 0 (.take 1 (.take 2 (.take 3 (.take 4 (.take 5 (.take 6 (.take 7 (.aG 8 (.aG 9 .done)))))))))) mixed (by kernel_rfl) ?_
 replace H := H.out (Out.drew _)
 refine WP.mv rfl rfl rfl (WP.aC rfl rfl (PV.nilCheck rfl rfl) (WP.aC rfl rfl (PV.fieldAddr rfl yQ rfl) ?_))
 refine WP.aM rfl rfl (RV.aV rfl wK rfl) (by exact dD.at_ (o := 0) (H.p 0 rfl) rfl rfl) ?_
 refine WP.mv rfl rfl rfl (WP.aC rfl rfl (PV.nilCheck rfl rfl) (WP.aC rfl rfl (PV.fieldAddr rfl pH rfl) ?_))
 refine WP.aM rfl rfl (RV.aV rfl iQ rfl) (by exact dD.at_ (o := 1) (H.p 0 rfl) rfl rfl) ?_
 refine WP.aG rfl ?_
 refine WL.call T6 rfl (tW (T := T) (bits := bits) H.aR (H.o 0 rfl) (by exact H.aO 0 rfl 1 rfl) (by exact H.aO 0 rfl 2 rfl) (by exact H.aO 0 rfl 3 rfl) (by assumption)) ?_
 rintro _ w2 ⟨aLj, rfl, hO, hB⟩
 replace H := H.eZ 0 rfl hO hB
 refine WL.nil ⟨(fa (nw 8 7) (fa (nw 8 3) c8)), ?_⟩
 refine WP.aG rfl ?_
 refine WL.aW H 0 rfl rfl rfl (new := kc (T.er.nV bits)) rfl (cI dH (by simp only [aS, aY, aB])) (bH _) (Laid.at (Laid.all (by simp only [aS, aY, aB])) rfl) rfl ?_
 intro w3 H
 refine WL.nil ⟨(fa (nw 9 7) (fa (nw 9 3) c8)), ?_⟩
 refine WP.done (WE.ret ⟨[_], _, .nil _, ⟨⟨_, rfl, aU fS (aN.aF (H.l 0 rfl) (aK.all _) rfl) (cI dH (by simp only [aS, aY, aB]))⟩, trivial⟩, ?_⟩)
 exact ⟨_, rfl, H.cT, H.o 0 rfl⟩
theorem VS {X : Nat → Prop} {w : World} {i : Int} (hX : c6 X w) (hi : 0 ≤ i ∧ i ≤ 256) :
  bC prog 29 [.int .i64 i].toArray w fun v w' => ∃ bt bh bc, v = .tuple [.pointer (some ⟨bt, 0, none⟩), .int .i64 0].toArray ∧ Out Nil w w' ∧ w.heap.size ≤ bt ∧ w.heap.size ≤ bc ∧ bt ≠ bc ∧ aN w' bt 90 [.pointer (some ⟨bh, 0, none⟩), .pointer none] ∧ aN w' bc 213 [.int .i64 0] ∧ aH (fun c => X c ∨ c = bt ∨ c = bc) (fO bh bc i) w' := by
 refine bC.aI (N := 17) func29 rfl rfl (by simp) ?_
 have H := St.begin hX
 refine WE.aA (WL.as rfl rfl (WL.as rfl rfl (WL.nil (WE.aA (WL.mv rfl rfl ?_)))))
 refine WL.call aJ2 rfl (aIj (i := i) H.aR  (by assumption)) ?_
 rintro _ w1 ⟨aKA, aKC, rfl, hO, hge, hB, hR⟩
 replace H := H.RK hO (aP.blk aKC 213 [.int .i64 0]) hB (fun c hc => by cases hc; exact hge) hR
 refine WL.mv rfl rfl (WL.pv (PV.extract rfl rfl rfl) rfl (WL.pv (PV.extract rfl rfl rfl) rfl (WL.as rfl rfl (WL.as rfl rfl (WL.nil (WE.seq (WE.aA ?_)))))))
 refine WL.mv rfl rfl (WL.pv (PV.neq rfl rfl rfl) rfl (WL.nil ?_))
 refine WE.bD rfl rfl ?_
 refine WE.skip (WE.aA (WL.mv rfl rfl ?_))
 refine WL.pv (PV.dQ rfl aIP aIw (Fl.cons rfl (rfl) (by simp only [aS, aY, aB]) Laid.head Fl.nil)) rfl ?_
 refine WL.box (l := [.pointer (some ⟨aKA, 0, none⟩), .pointer none]) H rfl rfl rfl ?_
 intro b16 w2 H
 refine WL.as rfl rfl (WL.as rfl rfl (WL.nil (WE.ret ⟨[_, _], _, .nil _, ⟨rfl, rfl, trivial⟩, ?_⟩)))
 exact ⟨_, _, _, rfl, H.aL, H.kI _ (List.mem_of_getElem? (i := 0) rfl) _ rfl, H.kI _ (List.mem_of_getElem? (i := 1) rfl) _ rfl, (fun e => fC H.iR (i := 0) (j := 1) (by decide) rfl rfl _ ⟨rfl, e⟩), H.l 0 rfl, H.l 1 rfl, H.aBs 0 rfl⟩
def pK (T : Tr) (k : List UInt8) : Nat := (T.fin k).er.kind.toNat
theorem aER (T : Tr) (k : List UInt8) : (T.fin k).er.kind = ((pK T k : Nat) : Int) := by
 unfold pK
 cases (T.fin k).er <;> rfl
theorem PQ {X : Nat → Prop} {w : World} {bits : Int} {T : Tr} {k : List UInt8} (hX : c6 X w) (bT : aH X (cV bits T) w) :
  bC prog 31 [(T.fin k).ptr].toArray w fun v w' => v = .int .i64 ((pK T k : Nat) : Int) ∧ Out Nil w w' := by
 rw [← aER]
 exact e8 hX (bT.imp fun _ h => h.jA _)
theorem aCg {v : Value} {T : Tr} {k : List UInt8} {n i : Nat} {w : World} (h : kN v (o4 T k n) w) (hi : i < n) : dD w (jS v (i * 1)) [(p6 T k i).ptr] := by
 have h2 := kN.rd h i (by rw [p7]; exact hi)
 rw [QZ] at h2
 exact h2
theorem EY (T : Tr) (k : List UInt8) (i : Nat) : pA T k (i + 1) = if A4 T k i then pQ (pA T k i) i else pA T k i := rfl
theorem aAw {X : Nat → Prop} {w : World} {bh bc : Nat} {bits n0 : Int} {T : Tr} {k : List UInt8} (hX : c6 X w) (fA : aN w bc 213 ([.int .i64 n0])) (bT : aH (fun c_ => X c_ ∨ c_ = bc) (fO bh bc bits) w) (dJ : aH (fun c_ => X c_ ∨ c_ = bc) (cV bits T) w) (fQ : aH (fun c_ => X c_ ∨ c_ = bc) (aZ) w) (bU : 0 ≤ bits ∧ bits ≤ 256) (hk : k.length = 32) (hfit : T.er.fit 0) :
  bC prog 9 [.pointer (some ⟨bh, 0, none⟩), T.ptr, .agg (kc k).toArray].toArray w fun v w' => ∃ (m : Int) (sl : Value), v = .agg (fU (pK T k) (T.dp k 0) (T.fin k).key ((T.fin k).vd bits) (pA T k (T.dp k 0)) sl).toArray ∧ Out (· = bc) w w' ∧ aN w' bc 213 [.int .i64 m] ∧ aH (fun c => X c ∨ c = bc) (fE sl (jB bits T k (T.dp k 0))) w' := by
 refine bC.aI (N := 52) func9 rfl rfl (by simp) ?_
 have H := (((St.dK (b := bc) (t := 213) (l := [.int .i64 n0]) hX fA).add (cC fQ)).add (cC dJ)).add (cC bT)
 have D0 := Tr.yX (k := k) _ 0 T rfl hfit (by omega)
 have hfk := cV.gY (show cV bits (T.fin k) w from (dJ.here).jA _)
 have hvd := Tr.aT bits (T.fin k)
 refine WE.aA ?_
 refine WL.box (l := kc k) H rfl rfl rfl ?_
 intro b5 w1 H
 refine WL.alloc H rfl D5 rfl ?_
 intro b6 w2 H
 refine WL.nil (WE.aA (WL.mv rfl rfl ?_))
 refine WL.bE rfl c7 rfl rfl (aN.aF (H.l 1 rfl) (aK.all _) rfl) (cI cM (by simp only [aS, aY, aB, Tr.aT, bS, bM, aD]; omega)) ?_
 refine WL.call Z5 rfl (tV (T := T) (k := k) (bits := bits) H.aR (by exact (H.bJ 1 rfl : aH _ (cV bits T) _)) hk hfit) ?_
 rintro _ w3 ⟨rfl, hO⟩
 replace H := H.out hO
 refine WL.mv rfl rfl (WL.pv (PV.extract rfl rfl rfl) rfl (WL.pv (PV.extract rfl rfl rfl) rfl (WL.as rfl rfl (WL.as rfl rfl (WL.nil (WE.aA (WL.mv rfl rfl ?_)))))))
 refine WL.call mE rfl (PQ (T := T) (k := k) (bits := bits) H.aR (by exact (H.bJ 1 rfl : aH _ (cV bits T) _))) ?_
 rintro _ w4 ⟨rfl, hO⟩
 replace H := H.out hO
 refine WL.mv rfl rfl (WL.mv rfl rfl ?_)
 refine WL.call F5 rfl (nH (T := T.fin k) (bits := bits) H.aR (by exact (H.bJ 1 rfl : aH _ (cV bits T) _).imp fun _ h => h.jA _)) ?_
 rintro _ w5 ⟨rfl, hO⟩
 replace H := H.out hO
 refine WL.pv (PV.dQ rfl aCq D5 (Fl.cons rfl rfl (by simp only [aS, aY, aB, Tr.aT, bS, bM, aD]) (Laid.left (Laid.all (by simp only [aS, aY, aB, Tr.aT, bS, bM, aD]))) (Fl.cons rfl rfl (by simp only [aS, aY, aB, Tr.aT, bS, bM, aD]) (Laid.right (Laid.left (Laid.all (by simp only [aS, aY, aB, Tr.aT, bS, bM, aD]))) (by simp only [aS, aY, aB, Tr.aT, bS, bM, aD])) (Fl.cons rfl rfl (by simp only [aS, aY, aB, Tr.aT, bS, bM, aD]; omega) (Laid.right (Laid.right (Laid.left (Laid.all (by simp only [aS, aY, aB, Tr.aT, bS, bM, aD]; omega))) rfl) (by simp only [aS, aY, aB, Tr.aT, bS, bM, aD])) Fl.nil)))) rfl ?_
 refine WL.alloc H rfl D5 rfl ?_
 intro b9 w6 H
 refine WL.aW H 0 rfl rfl rfl (new := fU (pK T k) (T.dp k 0) (T.fin k).key ((T.fin k).vd bits) ((List.replicate 32 0)) (.slice none 0 0)) rfl (cI lE (by simp only [aS, aY, aB, Tr.aT, bS, bM, aD]; omega)) (sY rfl) (Laid.at (Laid.all (by simp only [aS, aY, aB, Tr.aT, bS, bM, aD]; omega)) rfl) rfl ?_
 intro w7 H
 replace H := H.kU 30 32
 refine WL.nil (WE.aA ?_)
 refine WL.alloc H rfl M5 rfl ?_
 intro vB w8 H
 replace H := H.perm (List.Perm.swap _ _ _)
 obtain ⟨z6, hz6⟩ : ∃ z6 : List Value, z6 = [.int .i64 0] ++ ([.int .i64 0] ++ ((kc (List.replicate 32 0) ++ kc (List.replicate 32 0)) ++ (kc (List.replicate 32 0) ++ [.slice none 0 0]))) := ⟨_, rfl⟩
 have aLm : z6.length = 99 := by rw [hz6]; rfl
 rw [← hz6] at H
 refine WL.nil (WE.seq (WE.aA (WL.mv rfl rfl ?_)))
 refine WL.bE rfl c7 rfl rfl (aN.aF (H.l 4 rfl) (aK.all _) rfl) (cI cM (by simp only [aS, aY, aB, Tr.aT, bS, bM, aD]; omega)) ?_
 refine WL.call aKl rfl (KE (T := T) (k := k) (bits := bits) H.aR (by exact (H.bJ 1 rfl : aH _ (cV bits T) _)) hk hfit) ?_
 rintro v27 w9 ⟨hO, hR⟩
 replace H := (H.out hO).add hR
 refine WL.pv (PV.dS (by exact (H.p 0 rfl : (kN v27 (o4 T k (T.dp k 0))) _)) QY rfl) rfl ?_
 refine WL.mv rfl rfl (WL.nil (WE.block ?_))
 refine WE.loop (α := Nat × Value × Int) (rg [(11, 2), (29, 20)]) (fun p => [(29, .int .i64 (p.1 : Int))]) (fun p wl => p.1 ≤ T.dp k 0 ∧ St X w wl [aP.blk bc 213 [.int .i64 p.2.2]] [aP.gZ w.heap.size p.2.1 30 32 (jB bits T k (p.1)).length ((jB bits T k (p.1)).flatMap kc), aP.blk vB 85 (kc (pA T k (p.1))), aP.blk b9 35 (fU (pK T k) (T.dp k 0) (T.fin k).key ((T.fin k).vd bits) ((List.replicate 32 0)) p.2.1), aP.blk b6 35 z6, aP.blk b5 24 (kc k)] [kN v27 (o4 T k (T.dp k 0)), fO bh bc bits, cV bits T, aZ]) (fun p => T.dp k 0 - p.1) (0, .slice none 0 0, n0) ⟨rfl, trivial⟩ ⟨Nat.zero_le _, H⟩ ?_
 intro ⟨i, q, m⟩ γ0 tX hI
 try dsimp only at hI
 obtain ⟨hi, H⟩ := hI
 refine WE.aA (WL.pv (PV.lss rfl rfl rfl) rfl (WL.nil (WE.seq ?_)))
 refine WE.cond rfl (fun TN => ?_) (fun TN => ?_)
 ·
  try simp only [bP] at TN
  have hlt : i < T.dp k 0 := by (rw [p7] at TN; omega)
  have wE := RL bits T k i
  have hbl := bS T k i
  refine WE.skip ?_
  refine WE.cut (α := Value × Int) (rg [(11, 2), (31, 17)]) (fun ⟨q1, m1⟩ => []) (fun ⟨q1, m1⟩ wl => St X w wl [aP.blk bc 213 [.int .i64 m1]] [aP.gZ w.heap.size q1 30 32 (jB bits T k (i + 1)).length ((jB bits T k (i + 1)).flatMap kc), aP.blk vB 85 (kc (pA T k (i + 1))), aP.blk b9 35 (fU (pK T k) (T.dp k 0) (T.fin k).key ((T.fin k).vd bits) ((List.replicate 32 0)) q1), aP.blk b6 35 z6, aP.blk b5 24 (kc k)] [kN v27 (o4 T k (T.dp k 0)), fO bh bc bits, cV bits T, aZ]) ?_ ?_
  ·
   refine WE.block (WE.aA (WL.mv rfl rfl ?_))
   refine WL.pv (PV.dX rfl (by exact (H.p 0 rfl : (kN v27 (o4 T k (T.dp k 0))) _)) QY mI rfl rfl (by omega) (by rw [p7]; omega)) rfl ?_
   refine WL.aX rfl iQ rfl rfl ((aCg (by exact (H.p 0 rfl : (kN v27 (o4 T k (T.dp k 0))) _)) hlt)) ?_
   refine WL.as rfl rfl (WL.as rfl rfl (WL.nil (WE.aA (WL.mv rfl rfl ?_))))
   refine WL.call mE rfl (e8 (T := p6 T k i) (bits := bits) H.aR (by exact (H.bJ 2 rfl : aH _ (cV bits T) _).imp fun _ h => (h.jA i).beside)) ?_
   rintro _ xG ⟨rfl, hO⟩
   replace H := H.out hO
   refine WL.pv (PV.neq rfl rfl rfl) rfl (WL.nil ?_)
   refine WE.cond rfl (fun pE => ?_) (fun pE => ?_)
   ·
    try simp only [bP] at pE
    have hnz : A4 T k i = true := decide_eq_true (by exact pE)
    refine WE.aA ?_
    refine WL.bE rfl mX rfl rfl (aN.aF (H.l 1 rfl) (aK.all _) rfl) (cI j8 (by simp only [aS, aY, aB, Tr.aT, bS, bM, aD])) ?_
    refine WL.mv rfl rfl ?_
    refine WL.call aKk rfl (aAL (B := pA T k i) (d := i) H.aR  (by assumption) (by omega)) ?_
    rintro _ HL ⟨rfl, hO⟩
    replace H := H.out hO
    refine WL.aW H 1 rfl rfl rfl (new := kc (pQ (pA T k i) i)) rfl (cI j8 (by simp only [aS, aY, aB, Tr.aT, bS, bM, aD])) (bH _) (Laid.at (Laid.all (by simp only [aS, aY, aB, Tr.aT, bS, bM, aD])) rfl) rfl ?_
    intro DW H
    refine WL.nil ?_
    refine WE.draw (.take 0 (.take 1 (.take 2 (.take 3 (.aG 4 (.aG 5 (.aG 6 (.take 7 (.aG 8 .done))))))))) mixed (by kernel_rfl) ?_
    replace H := H.out (Out.drew _)
    refine WP.aC rfl rfl (PV.fieldAddr rfl nP rfl) ?_
    refine WP.aM rfl rfl (RV.aV rfl vF rfl) (aN.aF (H.l 2 rfl) (aK.r (aK.r (aK.r (aK.r (aK.all _) rfl) rfl) rfl) rfl) (by simp [aJ, aQ, *])) ?_
    refine WP.mv rfl rfl rfl (WP.mv rfl rfl rfl (WP.aG rfl ?_))
    refine WL.call T6 rfl (tW (T := p6 T k i) (bits := bits) H.aR (H.o 0 rfl) (by exact (H.aO 0 rfl 1 rfl : aH _ (fO bh bc bits) _)) (by exact (H.aO 0 rfl 2 rfl : aH _ (cV bits T) _).imp fun _ h => (h.jA i).beside) (by exact (H.aO 0 rfl 3 rfl : aH _ (aZ) _)) bU) ?_
    rintro _ H9 ⟨m44, rfl, hO, hB⟩
    replace H := H.eZ 0 rfl hO hB
    refine WL.nil ⟨(fa (fun _ _ => (aN.aF (H.l 2 rfl) (aK.r (aK.r (aK.r (aK.r (aK.all _) rfl) rfl) rfl) rfl) (by simp [aJ, aQ, *]))) c8), ?_⟩
    refine WP.aG rfl ?_
    refine WL.bA (l0 := (kc (List.replicate 32 0))) H rfl EI (by decide) rfl (Fl.cons rfl rfl (by simp only [aS, aY, aB, Tr.aT, bS, bM, aD]) (Laid.all (by simp only [aS, aY, aB, Tr.aT, bS, bM, aD])) Fl.nil) rfl ?_
    intro b45 ND H
    refine WL.nil ⟨(fa (fun _ _ => (aN.aF (H.l 3 rfl) (aK.r (aK.r (aK.r (aK.r (aK.all _) rfl) rfl) rfl) rfl) (by simp [aJ, aQ, *]))) c8), ?_⟩
    refine WP.aG rfl ?_
    refine WL.append (m := 1) H 1 EI (by decide) rfl rfl rfl (cO.cA (n := 1) (H.l 0 rfl) (by rw [aJ]; exact eW _ _)) (bH _) (by omega) (by decide) rfl ?_
    intro v46 QL H
    replace H := H.forget 0
    refine WL.nil ⟨(fa (nw 6 1) c8), ?_⟩
    refine WP.aC rfl rfl (PV.fieldAddr rfl nP rfl) (WP.aG rfl ?_)
    refine WL.aW H 2 rfl rfl rfl (new := _) (cells_one (jI (H.l 0 rfl))) (by exact aCb) (eF (jI (H.l 0 rfl))) (Laid.at (Laid.right (Laid.right (Laid.right (Laid.right (Laid.all (by simp only [aS, aY, aB, Tr.aT, bS, bM, aD])) rfl) rfl) rfl) rfl) (by simp [aJ, aQ, *])) rfl ?_
    intro QK H
    replace H := H.conv (L' := [aP.gZ w.heap.size v46 30 32 (jB bits T k (i + 1)).length ((jB bits T k (i + 1)).flatMap kc), aP.blk vB 85 (kc (pA T k (i + 1))), aP.blk b9 35 (fU (pK T k) (T.dp k 0) (T.fin k).key ((T.fin k).vd bits) ((List.replicate 32 0)) v46), aP.blk b6 35 z6, aP.blk b5 24 (kc k)]) (by rw [EY, if_pos hnz, AZ, if_pos hnz, List.length_append, List.flatMap_append, List.flatMap_singleton]; rfl)
    refine WL.nil ⟨(fa (nw 8 1) c8), ?_⟩
    refine WP.done ?_
    exact ⟨(v46, m44), (by repeat (first | with_reducible exact bK.refl _ _ | refine bK.dG rfl ?_)), trivial, rfl, H⟩
   ·
    try simp only [bP] at pE
    have hnz : ¬ A4 T k i = true := by unfold A4; rw [decide_eq_true_iff]; exact fun h => h pE
    replace H := H.conv (L' := [aP.gZ w.heap.size q 30 32 (jB bits T k (i + 1)).length ((jB bits T k (i + 1)).flatMap kc), aP.blk vB 85 (kc (pA T k (i + 1))), aP.blk b9 35 (fU (pK T k) (T.dp k 0) (T.fin k).key ((T.fin k).vd bits) ((List.replicate 32 0)) q), aP.blk b6 35 z6, aP.blk b5 24 (kc k)]) (by rw [EY, if_neg hnz, AZ, if_neg hnz])
    refine WE.skip ?_
    exact ⟨(q, m), (by repeat (first | with_reducible exact bK.refl _ _ | refine bK.dG rfl ?_)), trivial, rfl, H⟩
  ·
   intro ⟨q1, m1⟩ γ QJ hI
   try dsimp only at hI
   replace H := hI
   refine WE.dW (WL.pv (PV.eq (v' := .int .i64 ((i + 1 : Nat) : Int)) (PV.bV rfl rfl rfl (by omega) (by omega)) rfl) rfl (WL.mv rfl rfl (WL.nil ?_)))
   exact ⟨(i + 1, q1, m1), (by repeat (first | with_reducible exact bK.refl _ _ | refine bK.dG rfl ?_ | refine bK.bZ rfl ?_ | refine bK.bX rfl ?_)), ⟨rfl, trivial⟩, rfl, ⟨by dsimp only; omega, H⟩, (by dsimp only; omega)⟩
 ·
  try simp only [bP] at TN
  have vR : i = T.dp k 0 := by (rw [p7] at TN; omega)
  refine WE.exit (WE.aA ?_)
  refine WL.bE rfl mX rfl rfl (aN.aF (H.l 1 rfl) (aK.all _) rfl) (cI j8 (by simp only [aS, aY, aB, Tr.aT, bS, bM, aD])) ?_
  refine WL.pv (PV.fieldAddr rfl qK rfl) rfl ?_
  refine WL.aW H 2 rfl rfl rfl (new := _) rfl (cI wB (by simp only [aS, aY, aB, Tr.aT, bS, bM, aD])) (bH _) (Laid.at (Laid.right (Laid.right (Laid.right (Laid.left (Laid.all (by simp only [aS, aY, aB, Tr.aT, bS, bM, aD]))) rfl) rfl) rfl) (by simp [aJ, aQ, *])) rfl ?_
  intro w19 H
  refine WL.nil (WE.aA ?_)
  refine WL.bE rfl nS rfl rfl (aN.aF (H.l 2 rfl) (aK.all _) rfl) (cI lE (by simp only [aS, aY, aB, Tr.aT, bS, bM, aD]; omega)) ?_
  refine WL.aW H 3 rfl rfl rfl (new := fU (pK T k) (T.dp k 0) (T.fin k).key ((T.fin k).vd bits) (pA T k i) q) rfl (cI lE (by simp only [aS, aY, aB, Tr.aT, bS, bM, aD]; omega)) (sY (jI (H.l 0 rfl))) (Laid.at (Laid.all (by simp only [aS, aY, aB, Tr.aT, bS, bM, aD]; omega)) rfl) rfl ?_
  intro w20 H
  refine WL.nil (WE.ret ⟨[_], _, .nil _, ⟨⟨_, rfl, aU nS (aN.aF (H.l 3 rfl) (aK.all _) rfl) (cI lE (by simp only [aS, aY, aB, Tr.aT, bS, bM, aD]; omega))⟩, trivial⟩, ?_⟩)
  subst vR
  replace H := H.freeze (i := 0) rfl
  exact ⟨_, q, rfl, H.cT, H.o 0 rfl, (H.gA (H.bJ 0 rfl)).imp fun _ h => cO.dM h⟩
end Go.Sp.Tryz
