/- Made: values built from parts, literals of slices, and equality of values. -/
import Derived.Test.YtcclagdjpoimaaaGreatDoorBytes
namespace Go.Sp
open Go.RowKit

/-! parts laid into cells -/
inductive Fl (place : Nat → Option (Nat × Nat)) : List Value → List (Nat × Value) → List Value → Prop
  | nil {l : List Value} : Fl place l [] l
  | cons {i off sz : Nat} {v : Value} {l l1 l' new : List Value} {rest : List (Nat × Value)} (hp : place i = some (off, sz)) (hv : v.cells = new.toArray) (hn : new.length = sz) (hl : Laid l off new l1) (hr : Fl place l1 rest l') : Fl place l ((i, v) :: rest) l'
theorem fold_laid (new : List Value) : ∀ (l : List Value) (off k : Nat), off + k + new.length ≤ l.length →
    (new.zipIdx k).foldl (fun (cs : Array Value) (p : Value × Nat) => cs.setIfInBounds (off + p.2) p.1) l.toArray = (l.take (off + k) ++ new ++ l.drop (off + k + new.length)).toArray := by
  induction new with
  | nil => intro l off k h; simp
  | cons a new ih =>
    intro l off k h
    simp only [List.length_cons] at h
    simp only [List.zipIdx_cons, List.foldl_cons, List.setIfInBounds_toArray]
    rw [ih _ off (k + 1) (by simp; omega)]
    congr 1
    have e1 : (l.set (off + k) a).take (off + (k + 1)) = l.take (off + k) ++ [a] := by
      rw [show off + (k + 1) = (off + k) + 1 by omega, List.take_succ_eq_append_getElem (by simp; omega)]
      simp [List.take_set_of_le]
    have e2 : (l.set (off + k) a).drop (off + (k + 1) + new.length) = l.drop (off + k + (a :: new).length) := by
      rw [List.drop_set_of_lt (by omega)]
      congr 1
      simp; omega
    rw [e1, e2]; simp
theorem Fl.fill {place : Nat → Option (Nat × Nat)} {l l' : List Value} {ps : List (Nat × Value)} (h : Fl place l ps l') : Instr.fill place l.toArray ps = some l'.toArray := by
  induction h with
  | nil => rfl
  | @cons i off sz v l l1 l' new rest hp hv hn hl hr ih =>
    obtain ⟨hle, rfl⟩ := hl
    have hf := fold_laid new l off 0 (by simpa using hle)
    simp only [Nat.add_zero] at hf
    have hz : new.toArray.zipIdx.foldl (fun (cs : Array Value) (p : Value × Nat) => cs.setIfInBounds (off + p.2) p.1) l.toArray = (l.take off ++ new ++ l.drop (off + new.length)).toArray := by
      rw [← hf, ← Array.foldl_toList]; simp
    unfold Instr.fill
    rw [hp]
    simp only [hv]
    rw [if_neg (by simp; omega)]
    have : (fun (cs : Array Value) (x : Value × Nat) => match x with | (c, j) => cs.setIfInBounds (off + j) c) = fun cs p => cs.setIfInBounds (off + p.2) p.1 := rfl
    rw [this, hz]
    exact ih
/-- the zero cells of a row -/
def zrow (len : Nat) (zl : List Value) : List Value := (List.range (len * zl.length)).map fun i => zl[i % zl.length]!
theorem zrow_eq (len : Nat) (zl : List Value) : (Array.range (len * zl.length)).map (zl.toArray[· % zl.toArray.size]!) = (zrow len zl).toArray := by
  apply Array.ext'
  simp [zrow, Array.toList_range]
theorem zrow_one (len : Nat) (z : Value) : zrow len [z] = List.replicate len z := by
  apply List.ext_getElem
  · simp [zrow]
  · intro i h1 h2
    simp [zrow, Nat.mod_one]
section
variable {r : Option Nat} {P : Program} {N : Nat} {σ : Env} {ds : List Deferred} {w : World} {ops : Array Oper} {o : Oper} {rest : List Oper} {K : Env → List Deferred → World → Prop}
variable {X : Nat → Prop} {w0 : World} {O L : List Ent} {Ps : List (World → Prop)}
theorem WL.buildSliceF {t e : TypeId} {zl : List Value} {bytes len : Nat} {parts : List (Nat × Operand)} {l0 l : List Value} (H : St X w0 w O L Ps) (h : o.op = .buildSlice t len parts.toArray) (ht : SlTy P t e zl bytes)
    (hsmall : len * zl.length ≤ 16777216) (hz : zrow len zl = l0) (hfill : Fl (fun i => some (i * zl.length, zl.length)) l0 (parts.map fun p => (p.1, ev σ p.2)) l) (hw : wantedE ops σ o = true)
    (k : ∀ b w', St X w0 w' O (Ent.blk b e l :: L) Ps → WL r P N ops rest K (upd N σ o.dst (.slice (some ⟨b, 0, none⟩) len len)) ds w') : WL r P N ops (o :: rest) K σ ds w :=
  WL.buildSlice H h ht hsmall (by rw [zrow_eq, hz]; exact hfill.fill) hw k
end
theorem cells_one {v : Value} (h : v.oneCell' = true) : v.cells = [v].toArray := by
  cases v <;> first | rfl | (simp [Value.oneCell'] at h)
theorem SlC.cells {w : World} {v : Value} {sz n : Nat} {cs : List Value} (h : SlC w v sz n cs) : v.cells = [v].toArray := by
  obtain ⟨A, c, rfl, _⟩ := h; rfl

/-! build -/
def tyPlaces (P : Program) (t : TypeId) : Option (List (Nat × Nat)) := match P.underlying t with
  | some (.struct fs) => fs.toList.mapM fun f => (P.info? f.type).map fun i => (f.offset, i.size)
  | _ => none
section
variable {P : Program} {σ : Env} {o : Oper}
theorem run_places {w : World} : ∀ (fs : List Field) (ps : List (Nat × Nat)), (fs.mapM fun f => (P.info? f.type).map fun i => (f.offset, i.size)) = some ps →
    (fs.mapM (m := Sem) fun f => do pure (f.offset, ← sizeOf f.type)).run P w = .ok ps w := by
  intro fs
  induction fs with
  | nil => intro ps h; simp at h; subst h; rfl
  | cons f fs ih =>
    intro ps h
    rw [List.mapM_cons] at h
    cases hi : P.info? f.type with
    | none => simp [hi] at h
    | some i =>
      simp only [hi, Option.map_some, Option.bind_eq_bind, Option.bind_some] at h
      cases hr : (fs.mapM fun f => (P.info? f.type).map fun i => (f.offset, i.size)) with
      | none => rw [hr] at h; simp at h
      | some qs =>
        rw [hr] at h
        simp at h
        subst h
        have hs : (sizeOf f.type).run P w = .ok i.size w := run_sizeOf' (by simp [tySize, hi]) w
        rw [List.mapM_cons, Sem.run_bind, Sem.run_bind, hs]
        simp only [Result.andThen, Sem.run_pure]
        rw [Sem.run_bind, ih qs hr]
        simp only [Result.andThen, Sem.run_pure]
theorem PV.buildS {t : TypeId} {parts : List (Nat × Operand)} {ps : List (Nat × Nat)} {l0 l : List Value} (h : o.op = .build t parts.toArray) (ht : tyPlaces P t = some ps) (hz : tyCells P t = some l0)
    (hf : Fl (fun i => ps[i]?) l0 (parts.map fun p => (p.1, ev σ p.2)) l) : PV P σ o (.agg l.toArray) := fun w => by
  obtain ⟨z, hz1, hc⟩ := run_zeroValue' hz w
  unfold tyPlaces at ht
  cases hu : P.underlying t with
  | none => rw [hu] at ht; cases ht
  | some d =>
    rw [hu] at ht
    cases d with
    | struct fs =>
      have hp : (fs.mapM (m := Sem) fun f => do pure (f.offset, ← sizeOf f.type)).run P w = .ok ps.toArray w := by
        rw [Array.mapM_eq_mapM_toList, map_eq_pure_bind, Sem.run_bind, run_places (w := w) fs.toList ps ht]
        rfl
      have key : (Instr.build t (parts.map fun p => (p.1, ev σ p.2)).toArray).run P w = .ok (.agg l.toArray) w := by
        have hff := hf.fill
        unfold Instr.build
        simp only [Sem.run_bind, hz1, Result.andThen, run_underlying hu, hp, hc]
        have e : (fun (i : Nat) => ps.toArray[i]?) = fun (i : Nat) => ps[i]? := by funext i; simp
        simp only [e, hff, Sem.run_pure]
      simp [execOp, h, key]
    | _ => cases ht
theorem PV.buildA {t e : TypeId} {n sz : Nat} {parts : List (Nat × Operand)} {l0 l : List Value} (h : o.op = .build t parts.toArray) (ht : tyArray P t = some (n, e)) (he : tySize P e = some sz) (hz : tyCells P t = some l0)
    (hf : Fl (fun i => some (i * sz, sz)) l0 (parts.map fun p => (p.1, ev σ p.2)) l) : PV P σ o (.agg l.toArray) := fun w => by
  obtain ⟨z, hz1, hc⟩ := run_zeroValue' hz w
  have key : (Instr.build t (parts.map fun p => (p.1, ev σ p.2)).toArray).run P w = .ok (.agg l.toArray) w := by
    have hff := hf.fill
    unfold Instr.build
    simp only [Sem.run_bind, hz1, Result.andThen, run_underlying (und_of_array ht), run_sizeOf' he, hc]
    simp only [hff, Sem.run_pure]
  simp [execOp, h, key]
end

/-! equality -/
def EqV (P : Program) (n : Nat) (t : TypeId) (x y : Value) (b : Bool) : Prop := ∀ d w, n < d → (Op.equalIn d t x y).run P w = .ok b w
def PartAt (P : Program) (t : TypeId) (l : List Value) (o : Nat) (x : Value) : Prop := ∀ w, (part t l.toArray o).run P w = .ok x w
inductive EqF (P : Program) (n : Nat) (l m : List Value) : List (Nat × TypeId) → List Bool → Prop
  | nil : EqF P n l m [] []
  | cons {o : Nat} {t : TypeId} {x y : Value} {b : Bool} {fs : List (Nat × TypeId)} {bs : List Bool} (hx : PartAt P t l o x) (hy : PartAt P t m o y) (h : EqV P n t x y b) (hr : EqF P n l m fs bs) : EqF P n l m ((o, t) :: fs) (b :: bs)
/-- the fields that are compared, if the type is a struct without blank fields -/
def tyEqF (P : Program) (t : TypeId) : Option (List (Nat × TypeId)) := match P.underlying t with
  | some (.struct fs) => if P.stoodInHeld t = false ∧ fs.toList.all (fun f => f.name != "_") = true then some (fs.toList.map fun f => (f.offset, f.type)) else none
  | _ => none
section
variable {P : Program} {σ : Env} {o : Oper}
theorem Seg.extract {l s : List Value} {off : Nat} (h : Seg l off s) : l.toArray.extract off (off + s.length) = s.toArray := by
  obtain ⟨a, b, rfl, rfl⟩ := h
  simp
theorem Seg.get {l : List Value} {v : Value} {off : Nat} (h : Seg l off [v]) : l[off]? = some v := by
  obtain ⟨a, b, rfl, rfl⟩ := h
  simp
theorem PartAt.agg {t : TypeId} {l s : List Value} {off : Nat} (ha : tyAgg P t = some true) (hs : tySize P t = some s.length) (h : Seg l off s) : PartAt P t l off (.agg s.toArray) := fun w => by
  have e := h.extract
  unfold part
  simp only [Sem.run_bind, run_isAgg ha, run_sizeOf' hs, Result.andThen, if_true, e, Sem.run_pure]
theorem PartAt.one {t : TypeId} {l : List Value} {v : Value} {off : Nat} (ha : tyAgg P t = some false) (h : Seg l off [v]) : PartAt P t l off v := fun w => by
  unfold part
  simp [run_isAgg ha, h.get]
theorem EqV.bytes {t e : TypeId} {n : Nat} {l m : List UInt8} (ht : tyArray P t = some (n, e)) (he : tyInt P e = some .u8) (hs : tySize P e = some 1) (hl : l.length = n) (hm : m.length = n) : EqV P 1 t (.agg (kc l).toArray) (.agg (kc m).toArray) (decide (l = m)) := fun d w hd => by
  obtain ⟨d, rfl⟩ : ∃ k, d = k + 2 := ⟨d - 2, by omega⟩
  exact run_equalB' w d ht he hs l m hl hm
theorem EqV.int {t : TypeId} {k k' : IntKind} {a b : Int} (ht : tyInt P t = some k') : EqV P 0 t (.int k a) (.int k b) (decide (a = b)) := fun d w hd => by
  obtain ⟨d, rfl⟩ : ∃ k, d = k + 1 := ⟨d - 1, by omega⟩
  rw [Op.equalIn]
  simp only [Sem.run_bind, run_underlying (und_of_int ht), Result.andThen]
  by_cases h : a = b <;> simp [h]
theorem EqV.bool {t : TypeId} {a b : Bool} (ht : tyBool P t = true) : EqV P 0 t (.bool a) (.bool b) (a == b) := fun d w hd => by
  obtain ⟨d, rfl⟩ : ∃ k, d = k + 1 := ⟨d - 1, by omega⟩
  rw [Op.equalIn]
  simp [run_underlying (und_of_bool ht)]
theorem EqV.mono {n n' : Nat} {t : TypeId} {x y : Value} {b : Bool} (h : EqV P n t x y b) (hn : n ≤ n') : EqV P n' t x y b := fun d w hd => h d w (by omega)
theorem run_eq_fields (n d : Nat) (w : World) (l m : List Value) : ∀ (fs : List Field) (bs : List Bool), (∀ f ∈ fs, f.name ≠ "_") → EqF P n l m (fs.map fun f => (f.offset, f.type)) bs → n < d →
    (forIn (m := Sem) fs ((none, ()) : Option Bool × Unit) fun f _ => do
      if f.name ≠ "_" then
        let x ← part f.type l.toArray f.offset
        let y ← part f.type m.toArray f.offset
        let b ← Op.equalIn d f.type x y
        if (!b) = true then pure (ForInStep.done (some false, ())) else pure (ForInStep.yield (none, ()))
      else pure (ForInStep.yield (none, ()))).run P w = .ok (if bs.all id then (none, ()) else (some false, ())) w := by
  intro fs
  induction fs with
  | nil => intro bs _ h _; cases h; simp
  | cons f fs ih =>
    intro bs hn h hd
    cases h with
    | cons hx hy he hr =>
      rename_i x y b bs
      rw [List.forIn_cons, Sem.run_bind]
      have hne : f.name ≠ "_" := hn f (List.mem_cons_self ..)
      rw [if_pos hne]
      rw [Sem.run_bind, hx w]; simp only [Result.andThen]
      rw [Sem.run_bind, hy w]; simp only [Result.andThen]
      rw [Sem.run_bind, he d w hd]; simp only [Result.andThen]
      cases b with
      | true => 
        simp only [Bool.not_true, Bool.false_eq_true, if_false, Sem.run_pure]
        rw [ih bs (fun g hg => hn g (List.mem_cons_of_mem _ hg)) hr hd]
        simp
      | false => simp
theorem EqV.struct {t : TypeId} {n : Nat} {l m : List Value} {fs : List (Nat × TypeId)} {bs : List Bool} (ht : tyEqF P t = some fs) (h : EqF P n l m fs bs) : EqV P (n + 1) t (.agg l.toArray) (.agg m.toArray) (bs.all id) := fun d w hd => by
  obtain ⟨d, rfl⟩ : ∃ k, d = k + 1 := ⟨d - 1, by omega⟩
  unfold tyEqF at ht
  split at ht
  case h_2 => cases ht
  case h_1 a hu =>
    split at ht
    case isFalse => cases ht
    case isTrue hc =>
      cases ht
      rw [Op.equalIn]
      simp only [Sem.run_bind, run_underlying hu, Result.andThen]
      have hp : (program).run P w = .ok P w := by simp [program, Sem.run]
      simp only [hp, hc.1, Bool.false_eq_true, if_false]
      have hrun := run_eq_fields n d w l m a.toList bs (fun f hf => by
        have := List.all_eq_true.1 hc.2 f hf
        simpa using this) h (by omega)
      rw [← Array.forIn_toList]
      rw [Sem.run_bind]
      refine (congrArg (fun r => Result.andThen r _) hrun).trans ?_
      cases bs.all id <;> rfl
end
theorem WL.loadR {r : Option Nat} {P : Program} {N : Nat} {σ : Env} {ds : List Deferred} {w : World} {ops : Array Oper} {rest : List Oper} {o : Oper} {K : Env → List Deferred → World → Prop} {t : TypeId} {x : Operand} {a : Addr} {l : List Value}
    (h : o.op = .load t x) (ha : tyAgg P t = some true) (hw : wantedE ops σ o = true)
    (hx : ev σ x = .pointer (some a)) (hr : RdA w a l) (hs : tySize P t = some l.length) (k : WL r P N ops rest K (upd N σ o.dst (.agg l.toArray)) ds w) : WL r P N ops (o :: rest) K σ ds w := WL.loadA h ha hs hw hx hr k
theorem WP.readA {r : Option Nat} {P : Program} {N : Nat} {ops : Array Oper} {K : Env → List Deferred → World → Prop} {O : Watch} {σ : Env} {ds : List Deferred} {w : World} {i : Nat} {T : Tree} {o : Oper} {t : TypeId} {x : Operand} {a : Addr} {l : List Value} (hi : ops[i]? = some o) (hw : wantedE ops σ o = true)
    (h : o.op = .load t x) (ha : tyAgg P t = some true) (hx : ev σ x = .pointer (some a)) (hr : RdA w a l) (hs : tySize P t = some l.length)
    (k : WP r P N ops K T ((i, fun w => RdA w a l) :: O) (upd N σ o.dst (.agg l.toArray)) ds w) : WP r P N ops K (.take i T) O σ ds w := WP.take_read hi hw (RV.loadAgg h ha hs hx) hr k
theorem run_loadVar_aggR {P : Program} {w : World} {a : Addr} {t : TypeId} {l : List Value} (ha : tyAgg P t = some true) (h : RdA w a l) (hs : tySize P t = some l.length) : (loadVar t a).run P w = .ok (.agg l.toArray) w := run_loadVar_agg ha hs h
theorem Laid.byteA {l : List UInt8} {x : UInt8} (i : Nat) (hi : i < l.length) : Laid (kc l) i [.int .u8 (x.toNat : Int)] (kc (l.set i x)) := Laid.byte hi
theorem Laid.oneA {l : List Value} {v : Value} (i : Nat) (h : i < l.length) : Laid l i [v] (l.set i v) := Laid.one h
theorem St.conv {X : Nat → Prop} {w0 w : World} {O L : List Ent} {Ps : List (World → Prop)} (H : St X w0 w O L Ps) {L' : List Ent} (h : L = L') : St X w0 w O L' Ps := h ▸ H
theorem Laid.bytes {l0 : List Value} {m y : List UInt8} {n : Nat} (hy : m.take (min m.length n) = y) (hl : y.length = l0.length) : Laid l0 0 ((kc m).take (min m.length n)) (kc y) := by
  subst hy
  have e : (kc m).take (min m.length n) = kc (m.take (min m.length n)) := by simp only [kc, List.map_take]
  rw [e]
  exact Laid.all (by rw [kc_length]; exact hl)
end Go.Sp
