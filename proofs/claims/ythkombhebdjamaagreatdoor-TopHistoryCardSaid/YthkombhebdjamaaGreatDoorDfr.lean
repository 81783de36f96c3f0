/- Part of the proof of this claim: walks through the program's functions and the plain laws that they need, printed by a program of this session. -/
import Derived.Test.YthkombhebdjamaaGreatDoorMore
import Derived.DefersIn
import Derived.RangeFuncLeaves
namespace Go.Sp
open Go.RowKit
def JZ (P : Program) (f : FuncId) (args : Array Value) (w : World) (R : World → Prop) : Prop :=
 ∀ u : FrameMode, CallsDIn (FW none) 0 P f args u w fun e u' w' => u' = u ∧ ∃ v, e = .returned v ∧ R w'
def aHq (P : Program) (fn : Func) (R : World → Prop) : EPost
 | .normal, σ, ds, w => ds = [] ∧ (∃ vs, xD P σ w fn.results.toList vs) ∧ R w
 | .ret, σ, ds, w => ds = [] ∧ (∃ vs, xD P σ w fn.results.toList vs) ∧ R w
 | _, _, _, _ => False
theorem JZ.aH {P : Program} {N : Nat} {w : World} {f : FuncId} {fn : Func} {c : Code} {args : List Value} {R : World → Prop} (hf : P.funcs[f]? = some fn) (hb : fn.body = some c) (hN : fn.ntmps = N) (hle : args.length ≤ N)
  (h : WE none P N c (aHq P fn R) (u2 args) [] w) : JZ P f args.toArray w R := fun u => by
 refine callsDIn_of_wp (R := fun e w' => ∃ v, e = .returned v ∧ R w') hf hb trivial (wpIn_mono (h _ ⟨?_, rX args _, rfl⟩) ?_)
 ·
  simp [hN]; omega
 ·
  rintro e a' w' ⟨hs, hq⟩
  cases e with
  | normal =>
   obtain ⟨hd, ⟨vs, hr⟩, hR⟩ := hq
   exact ⟨hd, _, k9 (N := N) (σ := gL a') (ds := a'.defers) ⟨hs, rfl, rfl⟩ hr, _, rfl, hR⟩
  | ret =>
   obtain ⟨hd, ⟨vs, hr⟩, hR⟩ := hq
   exact ⟨hd, _, k9 (N := N) (σ := gL a') (ds := a'.defers) ⟨hs, rfl, rfl⟩ hr, _, rfl, hR⟩
  | _ => exact hq.elim
def nK (P : Program) : List Deferred → World → (World → Prop) → Prop
 | [], w, K => K w
 | d :: ds, w, K => (∃ b w', d.target = .collected b ∧ (Instr.takeDeferred b).run P w = .ok [] w' ∧ nK P ds w' K) ∨
   (∃ g cap fn, ∃ R : World → Prop, d.target = .fn (.func g) cap ∧ Body P g fn ∧ JZ P g (d.args ++ cap) w R ∧ ∀ w', R w' → nK P ds w' K)
theorem zQ {P : Program} {fn : Func} {tmps : Array Value} {R : Ending → World → Prop} : ∀ (ds : List Deferred) (w : World), nK P ds w (fun w' => ∃ v, (results fn tmps).run P w' = .ok v w' ∧ R (.returned v) w') →
  LeavesInM (FW none) 0 P fn tmps R ds .returning w := by
 intro ds
 induction ds with
 | nil =>
  intro w h
  simp only [LeavesInM, LeavesIn]
  exact h
 | cons d ds ih =>
  intro w h
  refine ⟨by simp, ?_⟩
  rcases h with ⟨b, w', ht, hk, h⟩ | ⟨g, cap, gn, R', ht, hb, hc, h⟩
  ·
   exact .inl ⟨b, w', ht, hk, ih w' h⟩
  ·
   refine .inr ⟨fun h => (by cases h), .func g, cap, g, d.args ++ cap, ht, ?_, fun _ _ => trivial, CallsDIn.mono (hc .returning) ?_⟩
   ·
    rw [ht]; exact fW hb _ w
   ·
    rintro e u' w' ⟨rfl, v, rfl, hR⟩
    exact ih w' (h w' hR)
def aHo (P : Program) (fn : Func) (R : Value → World → Prop) : EPost
 | .normal, σ, ds, w => nK P ds w fun w' => ∃ vs, xD P σ w' fn.results.toList vs ∧ R (B6 vs) w'
 | .ret, σ, ds, w => nK P ds w fun w' => ∃ vs, xD P σ w' fn.results.toList vs ∧ R (B6 vs) w'
 | _, _, _, _ => False
theorem nK.mono {P : Program} {K K' : World → Prop} (hK : ∀ w, K w → K' w) : ∀ (ds : List Deferred) (w : World), nK P ds w K → nK P ds w K' := by
 intro ds
 induction ds with
 | nil => exact fun w h => hK w h
 | cons d ds ih =>
  intro w h
  rcases h with ⟨b, w', ht, hk, h⟩ | ⟨g, cap, gn, R', ht, hb, hc, h⟩
  ·
   exact .inl ⟨b, w', ht, hk, ih w' h⟩
  ·
   exact .inr ⟨g, cap, gn, R', ht, hb, hc, fun w' hR => ih w' (h w' hR)⟩
theorem bC.sS {P : Program} {N : Nat} {w : World} {f : FuncId} {fn : Func} {c : Code} {args : List Value} {R : Value → World → Prop} (hf : P.funcs[f]? = some fn) (hb : fn.body = some c) (hN : fn.ntmps = N) (hle : args.length ≤ N)
  (h : WE none P N c (aHo P fn R) (u2 args) [] w) : bC P f args.toArray w R := by
 refine callsIn_of_wp_marks hf hb trivial (wpIn_mono (h _ ⟨?_, rX args _, rfl⟩) ?_)
 ·
  simp [hN]; omega
 ·
  rintro e a' w' ⟨hs, hq⟩
  have key : nK P a'.defers w' (fun w'' => ∃ vs, xD P (gL a') w'' fn.results.toList vs ∧ R (B6 vs) w'') → LeavesInM (FW none) 0 P fn a'.tmps (fun e w' => ∃ v, e = .returned v ∧ R v w') a'.defers .returning w' := fun hq =>
   zQ _ _ (nK.mono (fun w'' ⟨vs, hr, hR⟩ => ⟨_, k9 (N := N) (σ := gL a') (ds := a'.defers) ⟨hs, rfl, rfl⟩ hr, _, rfl, hR⟩) _ _ hq)
  cases e with
  | normal => exact key hq
  | ret => exact key hq
  | _ => exact hq.elim
section
variable {P : Program} {N : Nat} {σ : Env} {ds : List Deferred} {w : World} {ops : Array Oper} {rest : List Oper} {K : Env → List Deferred → World → Prop} {o : Oper}
theorem WL.defer {c : Call} {x : Operand} {g : FuncId} {fs cs : List Value} (h : o.op = .defer c) (hw : cH ops σ o = true) (hc : c.callee = .value x) (ha : c.args = #[]) (hx : ev σ x = .func (.func g) fs.toArray cs.toArray)
  (k : WL none P N ops rest K (dD N σ o.dst undef) ({ target := .fn (.func g) cs.toArray, args := fs.toArray } :: ds) w) : WL none P N ops (o :: rest) K σ ds w := fun a hh => by
 unfold wpListIn
 rw [kN hh, hw]
 refine ⟨fun _ _ => trivial, ?_⟩
 have e : (o.semAt none a.eval).run P w = .ok (.defer { target := .fn (.func g) cs.toArray, args := fs.toArray }) w := by
  rw [Oper.semAt_none, hh.eval]
  simp [execOp, h, resolve, hc, ha, hx, Deferred.ofValue]
 rw [show (FW none).round = none from rfl, e]
 exact k _ (mL.put (a := { a with defers := _ :: a.defers }) ⟨hh.size, hh.env, by rw [hh.defers]⟩ o.dst undef)
end
theorem aJ.wk1 {X : Nat → Prop} {b : Nat} {p : World → Prop} {w : World} (h : aJ (fun c => X c ∨ c = b) p w) : aJ (fun c => c = b) p w := h.mono fun _ _ h => .inr h
end Go.Sp
