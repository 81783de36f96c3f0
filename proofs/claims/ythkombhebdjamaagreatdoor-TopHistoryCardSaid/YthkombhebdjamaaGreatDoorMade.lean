/- Part of the proof of this claim: walks through the program's functions and the plain laws that they need, printed by a program of this session. -/
import Derived.Test.YthkombhebdjamaaGreatDoorBytes
namespace Go.Sp
open Go.RowKit
inductive Fl (place : Nat → Option (Nat × Nat)) : List Value → List (Nat × Value) → List Value → Prop
 | nil {l : List Value} : Fl place l [] l
 | cons {i off sz : Nat} {v : Value} {l l1 l' new : List Value} {rest : List (Nat × Value)} (hp : place i = some (off, sz)) (hv : v.cells = new.toArray) (hn : new.length = sz) (hl : Laid l off new l1) (hr : Fl place l1 rest l') : Fl place l ((i, v) :: rest) l'
theorem N0 (new : List Value) : ∀ (l : List Value) (off k : Nat), off + k + new.length ≤ l.length →
  (new.zipIdx k).foldl (fun (cs : Array Value) (p : Value × Nat) => cs.setIfInBounds (off + p.2) p.1) l.toArray = (l.take (off + k) ++ new ++ l.drop (off + k + new.length)).toArray := by
 induction new with
 | nil => intro l off k h; simp
 | cons a new ih =>
  intro l off k h
  simp only [List.length_cons] at h
  simp only [List.zipIdx_cons, List.foldl_cons, List.setIfInBounds_toArray]
  rw [ih _ off (k + 1) (by simp; omega)]
  congr 1
  have e1 : (l.set (off + k) a).take (off + (k + 1)) = l.take (off + k) ++ [a] := by
   rw [show off + (k + 1) = (off + k) + 1 by omega, List.take_succ_eq_append_getElem (by simp; omega)]
   simp [List.take_set_of_le]
  have e2 : (l.set (off + k) a).drop (off + (k + 1) + new.length) = l.drop (off + k + (a :: new).length) := by
   rw [List.drop_set_of_lt (by omega)]
   congr 1
   simp; omega
  rw [e1, e2]; simp
theorem Fl.fill {place : Nat → Option (Nat × Nat)} {l l' : List Value} {ps : List (Nat × Value)} (h : Fl place l ps l') : Instr.fill place l.toArray ps = some l'.toArray := by
 induction h with
 | nil => rfl
 | @cons i off sz v l l1 l' new rest hp hv hn hl hr ih =>
  obtain ⟨hle, rfl⟩ := hl
  have hf := N0 new l off 0 (by simpa using hle)
  simp only [Nat.add_zero] at hf
  have hz : new.toArray.zipIdx.foldl (fun (cs : Array Value) (p : Value × Nat) => cs.setIfInBounds (off + p.2) p.1) l.toArray = (l.take off ++ new ++ l.drop (off + new.length)).toArray := by
   rw [← hf, ← Array.foldl_toList]; simp
  unfold Instr.fill
  rw [hp]
  simp only [hv]
  rw [if_neg (by simp; omega)]
  have : (fun (cs : Array Value) (x : Value × Nat) => match x with | (c, j) => cs.setIfInBounds (off + j) c) = fun cs p => cs.setIfInBounds (off + p.2) p.1 := rfl
  rw [this, hz]
  exact ih
def jM (len : Nat) (zl : List Value) : List Value := (List.range (len * zl.length)).map fun i => zl[i % zl.length]!
theorem vZ (len : Nat) (zl : List Value) : (Array.range (len * zl.length)).map (zl.toArray[· % zl.toArray.size]!) = (jM len zl).toArray := by
 apply Array.ext'
 simp [jM, Array.toList_range]
theorem cT (len : Nat) (z : Value) : jM len [z] = List.replicate len z := by
 apply List.ext_getElem
 ·
  simp [jM]
 ·
  intro i h1 h2
  simp [jM, Nat.mod_one]
section
variable {r : Option Nat} {P : Program} {N : Nat} {σ : Env} {ds : List Deferred} {w : World} {ops : Array Oper} {o : Oper} {rest : List Oper} {K : Env → List Deferred → World → Prop}
variable {X : Nat → Prop} {w0 : World} {O L : List aP} {Ps : List (World → Prop)}
theorem WL.bB {t e : TypeId} {zl : List Value} {bytes len : Nat} {parts : List (Nat × Operand)} {l0 l : List Value} (H : St X w0 w O L Ps) (h : o.op = .buildSlice t len parts.toArray) (ht : lZ P t e zl bytes)
  (hsmall : len * zl.length ≤ 16777216) (hz : jM len zl = l0) (FD : Fl (fun i => some (i * zl.length, zl.length)) l0 (parts.map fun p => (p.1, ev σ p.2)) l) (hw : cH ops σ o = true)
  (k : ∀ b w', St X w0 w' O (aP.blk b e l :: L) Ps → WL r P N ops rest K (dD N σ o.dst (.slice (some ⟨b, 0, none⟩) len len)) ds w') : WL r P N ops (o :: rest) K σ ds w :=
 WL.buildSlice H h ht hsmall (by rw [vZ, hz]; exact FD.fill) hw k
end
theorem cells_one {v : Value} (h : v.oneCell' = true) : v.cells = [v].toArray := by
 cases v <;> first | rfl | (simp [Value.oneCell'] at h)
theorem cN.cells {w : World} {v : Value} {sz n : Nat} {cs : List Value} (h : cN w v sz n cs) : v.cells = [v].toArray := by
 obtain ⟨A, c, rfl, _⟩ := h; rfl
def eZ (P : Program) (t : TypeId) : Option (List (Nat × Nat)) := match P.underlying t with
 | some (.struct fs) => fs.toList.mapM fun f => (P.info? f.type).map fun i => (f.offset, i.size)
 | _ => none
section
variable {P : Program} {σ : Env} {o : Oper}
theorem run_places {w : World} : ∀ (fs : List Field) (ps : List (Nat × Nat)), (fs.mapM fun f => (P.info? f.type).map fun i => (f.offset, i.size)) = some ps →
  (fs.mapM (m := Sem) fun f => do pure (f.offset, ← sizeOf f.type)).run P w = .ok ps w := by
 intro fs
 induction fs with
 | nil => intro ps h; simp at h; subst h; rfl
 | cons f fs ih =>
  intro ps h
  rw [List.mapM_cons] at h
  cases hi : P.info? f.type with
  | none => simp [hi] at h
  | some i =>
   simp only [hi, Option.map_some, Option.bind_eq_bind, Option.bind_some] at h
   cases hr : (fs.mapM fun f => (P.info? f.type).map fun i => (f.offset, i.size)) with
   | none => rw [hr] at h; simp at h
   | some qs =>
    rw [hr] at h
    simp at h
    subst h
    have hs : (sizeOf f.type).run P w = .ok i.size w := cU (by simp [cB, hi]) w
    rw [List.mapM_cons, Sem.run_bind, Sem.run_bind, hs]
    simp only [Result.andThen, Sem.run_pure]
    rw [Sem.run_bind, ih qs hr]
    simp only [Result.andThen, Sem.run_pure]
theorem PV.dM {t : TypeId} {parts : List (Nat × Operand)} {ps : List (Nat × Nat)} {l0 l : List Value} (h : o.op = .build t parts.toArray) (ht : eZ P t = some ps) (hz : cM P t = some l0)
  (hf : Fl (fun i => ps[i]?) l0 (parts.map fun p => (p.1, ev σ p.2)) l) : PV P σ o (.agg l.toArray) := fun w => by
 obtain ⟨z, hz1, hc⟩ := gD hz w
 unfold eZ at ht
 cases hu : P.underlying t with
 | none => rw [hu] at ht; cases ht
 | some d =>
  rw [hu] at ht
  cases d with
  | struct fs =>
   have hp : (fs.mapM (m := Sem) fun f => do pure (f.offset, ← sizeOf f.type)).run P w = .ok ps.toArray w := by
    rw [Array.mapM_eq_mapM_toList, map_eq_pure_bind, Sem.run_bind, run_places (w := w) fs.toList ps ht]
    rfl
   have key : (Instr.build t (parts.map fun p => (p.1, ev σ p.2)).toArray).run P w = .ok (.agg l.toArray) w := by
    have hff := hf.fill
    unfold Instr.build
    simp only [Sem.run_bind, hz1, Result.andThen, run_underlying hu, hp, hc]
    have e : (fun (i : Nat) => ps.toArray[i]?) = fun (i : Nat) => ps[i]? := by funext i; simp
    simp only [e, hff, Sem.run_pure]
   simp [execOp, h, key]
  | _ => cases ht
theorem PV.lP {t e : TypeId} {n sz : Nat} {parts : List (Nat × Operand)} {l0 l : List Value} (h : o.op = .build t parts.toArray) (ht : eV P t = some (n, e)) (he : cB P e = some sz) (hz : cM P t = some l0)
  (hf : Fl (fun i => some (i * sz, sz)) l0 (parts.map fun p => (p.1, ev σ p.2)) l) : PV P σ o (.agg l.toArray) := fun w => by
 obtain ⟨z, hz1, hc⟩ := gD hz w
 have key : (Instr.build t (parts.map fun p => (p.1, ev σ p.2)).toArray).run P w = .ok (.agg l.toArray) w := by
  have hff := hf.fill
  unfold Instr.build
  simp only [Sem.run_bind, hz1, Result.andThen, run_underlying (eR ht), cU he, hc]
  simp only [hff, Sem.run_pure]
 simp [execOp, h, key]
end
def DL (P : Program) (n : Nat) (t : TypeId) (x y : Value) (b : Bool) : Prop := ∀ d w, n < d → (Op.equalIn d t x y).run P w = .ok b w
def eG (P : Program) (t : TypeId) (l : List Value) (o : Nat) (x : Value) : Prop := ∀ w, (part t l.toArray o).run P w = .ok x w
inductive VW (P : Program) (n : Nat) (l m : List Value) : List (Nat × TypeId) → List Bool → Prop
 | nil : VW P n l m [] []
 | cons {o : Nat} {t : TypeId} {x y : Value} {b : Bool} {fs : List (Nat × TypeId)} {bs : List Bool} (hx : eG P t l o x) (hy : eG P t m o y) (h : DL P n t x y b) (hr : VW P n l m fs bs) : VW P n l m ((o, t) :: fs) (b :: bs)
def QG (P : Program) (t : TypeId) : Option (List (Nat × TypeId)) := match P.underlying t with
 | some (.struct fs) => if P.stoodInHeld t = false ∧ fs.toList.all (fun f => f.name != "_") = true then some (fs.toList.map fun f => (f.offset, f.type)) else none
 | _ => none
section
variable {P : Program} {σ : Env} {o : Oper}
theorem aK.extract {l s : List Value} {off : Nat} (h : aK l off s) : l.toArray.extract off (off + s.length) = s.toArray := by
 obtain ⟨a, b, rfl, rfl⟩ := h
 simp
theorem aK.get {l : List Value} {v : Value} {off : Nat} (h : aK l off [v]) : l[off]? = some v := by
 obtain ⟨a, b, rfl, rfl⟩ := h
 simp
theorem eG.agg {t : TypeId} {l s : List Value} {off : Nat} (ha : dK P t = some true) (hs : cB P t = some s.length) (h : aK l off s) : eG P t l off (.agg s.toArray) := fun w => by
 have e := h.extract
 unfold part
 simp only [Sem.run_bind, kQ ha, cU hs, Result.andThen, if_true, e, Sem.run_pure]
theorem eG.one {t : TypeId} {l : List Value} {v : Value} {off : Nat} (ha : dK P t = some false) (h : aK l off [v]) : eG P t l off v := fun w => by
 unfold part
 simp [kQ ha, h.get]
theorem DL.bytes {t e : TypeId} {n : Nat} {l m : List UInt8} (ht : eV P t = some (n, e)) (he : fR P e = some .u8) (hs : cB P e = some 1) (hl : l.length = n) (hm : m.length = n) : DL P 1 t (.agg (kc l).toArray) (.agg (kc m).toArray) (decide (l = m)) := fun d w hd => by
 obtain ⟨d, rfl⟩ : ∃ k, d = k + 2 := ⟨d - 2, by omega⟩
 exact p4 w d ht he hs l m hl hm
theorem DL.mono {n n' : Nat} {t : TypeId} {x y : Value} {b : Bool} (h : DL P n t x y b) (hn : n ≤ n') : DL P n' t x y b := fun d w hd => h d w (by omega)
theorem zM (n d : Nat) (w : World) (l m : List Value) : ∀ (fs : List Field) (bs : List Bool), (∀ f ∈ fs, f.name ≠ "_") → VW P n l m (fs.map fun f => (f.offset, f.type)) bs → n < d →
  (forIn (m := Sem) fs ((none, ()) : Option Bool × Unit) fun f _ => do
   if f.name ≠ "_" then
    let x ← part f.type l.toArray f.offset
    let y ← part f.type m.toArray f.offset
    let b ← Op.equalIn d f.type x y
    if (!b) = true then pure (ForInStep.done (some false, ())) else pure (ForInStep.yield (none, ()))
   else pure (ForInStep.yield (none, ()))).run P w = .ok (if bs.all id then (none, ()) else (some false, ())) w := by
 intro fs
 induction fs with
 | nil => intro bs _ h _; cases h; simp
 | cons f fs ih =>
  intro bs hn h hd
  cases h with
  | cons hx hy he hr =>
   rename_i x y b bs
   rw [List.forIn_cons, Sem.run_bind]
   have hne : f.name ≠ "_" := hn f (List.mem_cons_self ..)
   rw [if_pos hne]
   rw [Sem.run_bind, hx w]; simp only [Result.andThen]
   rw [Sem.run_bind, hy w]; simp only [Result.andThen]
   rw [Sem.run_bind, he d w hd]; simp only [Result.andThen]
   cases b with
   | true => 
    simp only [Bool.not_true, Bool.false_eq_true, if_false, Sem.run_pure]
    rw [ih bs (fun g hg => hn g (List.mem_cons_of_mem _ hg)) hr hd]
    simp
   | false => simp
theorem DL.struct {t : TypeId} {n : Nat} {l m : List Value} {fs : List (Nat × TypeId)} {bs : List Bool} (ht : QG P t = some fs) (h : VW P n l m fs bs) : DL P (n + 1) t (.agg l.toArray) (.agg m.toArray) (bs.all id) := fun d w hd => by
 obtain ⟨d, rfl⟩ : ∃ k, d = k + 1 := ⟨d - 1, by omega⟩
 unfold QG at ht
 split at ht
 case h_2 => cases ht
 case h_1 a hu =>
  split at ht
  case isFalse => cases ht
  case isTrue hc =>
   cases ht
   rw [Op.equalIn]
   simp only [Sem.run_bind, run_underlying hu, Result.andThen]
   have hp : (program).run P w = .ok P w := by simp [program, Sem.run]
   simp only [hp, hc.1, Bool.false_eq_true, if_false]
   have hrun := zM n d w l m a.toList bs (fun f hf => by
    have := List.all_eq_true.1 hc.2 f hf
    simpa using this) h (by omega)
   rw [← Array.forIn_toList]
   rw [Sem.run_bind]
   refine (congrArg (fun r => Result.andThen r _) hrun).trans ?_
   cases bs.all id <;> rfl
theorem PV.aHf {t u : TypeId} {x y : Operand} {n : Nat} {a b : Array Value} {c : Bool} (h : o.op = .binOp .eql t x y u) (hg : P.eqGuardType P.depth t = false) (hx : ev σ x = .agg a) (hy : ev σ y = .agg b) (he : DL P n t (.agg a) (.agg b) c) (hn : n ≤ 9000) : PV P σ o (.bool c) := fun w => by
 have h1 : (Op.equal t (.agg a) (.agg b)).run P w = .ok c w := he 10000 w (by omega)
 simp [execOp, h, hx, hy, eqGuard, hg, binOp, h1, program, Sem.run]
end
theorem WL.bE {r : Option Nat} {P : Program} {N : Nat} {σ : Env} {ds : List Deferred} {w : World} {ops : Array Oper} {rest : List Oper} {o : Oper} {K : Env → List Deferred → World → Prop} {t : TypeId} {x : Operand} {a : Addr} {l : List Value}
  (h : o.op = .load t x) (ha : dK P t = some true) (hw : cH ops σ o = true)
  (hx : ev σ x = .pointer (some a)) (hr : dA w a l) (hs : cB P t = some l.length) (k : WL r P N ops rest K (dD N σ o.dst (.agg l.toArray)) ds w) : WL r P N ops (o :: rest) K σ ds w := WL.aEG h ha hs hw hx hr k
theorem WP.dN {r : Option Nat} {P : Program} {N : Nat} {ops : Array Oper} {K : Env → List Deferred → World → Prop} {O : oN} {σ : Env} {ds : List Deferred} {w : World} {i : Nat} {T : Tree} {o : Oper} {t : TypeId} {x : Operand} {a : Addr} {l : List Value} (hi : ops[i]? = some o) (hw : cH ops σ o = true)
  (h : o.op = .load t x) (ha : dK P t = some true) (hx : ev σ x = .pointer (some a)) (hr : dA w a l) (hs : cB P t = some l.length)
  (k : WP r P N ops K T ((i, fun w => dA w a l) :: O) (dD N σ o.dst (.agg l.toArray)) ds w) : WP r P N ops K (.take i T) O σ ds w := WP.aM hi hw (RV.K7 h ha hs hx) hr k
theorem aU {P : Program} {w : World} {a : Addr} {t : TypeId} {l : List Value} (ha : dK P t = some true) (h : dA w a l) (hs : cB P t = some l.length) : (loadVar t a).run P w = .ok (.agg l.toArray) w := pH ha hs h
theorem Laid.tI {l : List UInt8} {x : UInt8} (i : Nat) (hi : i < l.length) : Laid (kc l) i [.int .u8 (x.toNat : Int)] (kc (l.set i x)) := Laid.byte hi
theorem Laid.aB3 {l : List Value} {v : Value} (i : Nat) (h : i < l.length) : Laid l i [v] (l.set i v) := Laid.one h
theorem St.conv {X : Nat → Prop} {w0 w : World} {O L : List aP} {Ps : List (World → Prop)} (H : St X w0 w O L Ps) {L' : List aP} (h : L = L') : St X w0 w O L' Ps := h ▸ H
theorem CK (x : List UInt8) (l : List UInt8) (k : Nat) (h : k < l.length) : kc (x ++ l.take (k + 1)) = kc (x ++ l.take k) ++ [.int .u8 (l[k].toNat : Int)] := by
 rw [List.take_succ_eq_append_getElem h, ← List.append_assoc, iO (x ++ _)]; rfl
end Go.Sp
