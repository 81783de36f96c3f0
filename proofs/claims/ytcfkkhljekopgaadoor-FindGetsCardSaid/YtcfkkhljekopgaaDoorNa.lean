/- Walks of functions, printed by a program of this session (gen.py) from notes on each function. -/
import Derived.Test.YtcfkkhljekopgaaDoorTa
import Derived.Test.YtcfkkhljekopgaaDoorPc
set_option maxRecDepth 100000
set_option maxHeartbeats 1000000
set_option linter.unusedVariables false
set_option linter.unusedSimpArgs false
namespace Go.Sp.Tryd
open Go.Proofs Go.RowKit Go.Sp

/-- a tree in memory: where each node lies -/
inductive Tr where
  | nil
  | leaf (a : Nat) (k v : List UInt8) (s : Value)
  | inner (a : Nat) (l r : Tr)
def Tr.addr : Tr → Option Addr
  | .nil => none
  | .leaf a _ _ _ => some ⟨a, 0, none⟩
  | .inner a _ _ => some ⟨a, 0, none⟩
def Tr.ptr (T : Tr) : Value := .pointer T.addr
def Tr.er : Tr → Sh
  | .nil => .nil
  | .leaf _ k v _ => .leaf k v
  | .inner _ l r => .inner l.er r.er
def leafC (bits : Int) (k v : List UInt8) (s : Value) : List Value := (kc k ++ kc (valD bits v)) ++ [s]
def innerC (bits : Int) (l r : Tr) : List Value := [l.ptr, r.ptr] ++ ((kc (l.er.dig bits) ++ kc (r.er.dig bits)) ++ [.int .i64 ((l.er.cnt + r.er.cnt : Nat) : Int)])
def NodeAt (a : Nat) (t : TypeId) (L : List Value) (D : List UInt8) (w : World) : Prop := Blk w a 103 ([.iface t (.agg L.toArray)] ++ kc D)
def TrA (bits : Int) : Tr → World → Prop
  | .nil, _ => True
  | .leaf a k v s, w => k.length = 32 ∧ SlB s v w ∧ v.length ≤ 1000000 ∧ NodeAt a 111 (leafC bits k v s) (leafD bits k v) w
  | .inner a l r, w => TrA bits l w ∧ TrA bits r w ∧ NodeAt a 109 (innerC bits l r) (nodeD bits (l.er.dig bits) (r.er.dig bits)) w
def zeroLeafC : List Value := (kc (List.replicate 32 0) ++ kc (List.replicate 32 0)) ++ [.slice none 0 0]
def zeroInnerC : List Value := [.pointer none, .pointer none] ++ ((kc (List.replicate 32 0) ++ kc (List.replicate 32 0)) ++ [.int .i64 0])
def Tr.lfC (bits : Int) : Tr → List Value
  | .leaf _ k v s => leafC bits k v s
  | _ => zeroLeafC
def Tr.inC (bits : Int) : Tr → List Value
  | .inner _ l r => innerC bits l r
  | _ => zeroInnerC
def Tr.left : Tr → Tr
  | .inner _ l _ => l
  | _ => .nil
def Tr.right : Tr → Tr
  | .inner _ _ r => r
  | _ => .nil
def Tr.key : Tr → List UInt8
  | .leaf _ k _ _ => k
  | _ => List.replicate 32 0
def Tr.val : Tr → List UInt8
  | .leaf _ _ v _ => v
  | _ => []
def Tr.vs : Tr → Value
  | .leaf _ _ _ s => s
  | _ => .slice none 0 0
def Tr.vd (bits : Int) : Tr → List UInt8
  | .leaf _ _ v _ => valD bits v
  | _ => List.replicate 32 0
def Tr.icnt : Tr → Nat
  | .inner _ l r => l.er.cnt + r.er.cnt
  | _ => 0
def Tr.ld (bits : Int) : Tr → List UInt8
  | .inner _ l _ => l.er.dig bits
  | _ => List.replicate 32 0
def Tr.rd (bits : Int) : Tr → List UInt8
  | .inner _ _ r => r.er.dig bits
  | _ => List.replicate 32 0
theorem valD_length (bits : Int) (v : List UInt8) : (valD bits v).length = 32 := cutI_length _ _
theorem Tr.vd_length (bits : Int) (T : Tr) : (T.vd bits).length = 32 := match T with | .leaf _ _ v _ => valD_length bits v | .nil => List.length_replicate | .inner _ _ _ => List.length_replicate
theorem Tr.ld_length (bits : Int) (T : Tr) : (T.ld bits).length = 32 := match T with | .inner _ l _ => dig_length bits l.er | .nil => List.length_replicate | .leaf _ _ _ _ => List.length_replicate
theorem Tr.rd_length (bits : Int) (T : Tr) : (T.rd bits).length = 32 := match T with | .inner _ _ r => dig_length bits r.er | .nil => List.length_replicate | .leaf _ _ _ _ => List.length_replicate
theorem TrA.key_length {bits : Int} {T : Tr} {w : World} (h : TrA bits T w) : T.key.length = 32 := by
  cases T <;> first | exact h.1 | simp [Tr.key]
theorem TrA.vsl {bits : Int} {T : Tr} {w : World} (h : TrA bits T w) : SlB T.vs T.val w := by
  cases T <;> first | exact h.2.1 | exact SlB.nil _
theorem TrA.vlen {bits : Int} {T : Tr} {w : World} (h : TrA bits T w) : T.val.length ≤ 1000000 := by
  cases T <;> first | exact h.2.2.1 | simp [Tr.val]
theorem TrA.left {bits : Int} {T : Tr} {w : World} (h : TrA bits T w) : TrA bits T.left w := by
  cases T <;> first | exact h.1 | trivial
theorem TrA.right {bits : Int} {T : Tr} {w : World} (h : TrA bits T w) : TrA bits T.right w := by
  cases T <;> first | exact h.2.1 | trivial
theorem Tr.lfC_eq (bits : Int) (T : Tr) : T.lfC bits = (kc T.key ++ kc (T.vd bits)) ++ [T.vs] := by cases T <;> rfl
theorem Tr.inC_eq (bits : Int) (T : Tr) : T.inC bits = [T.left.ptr, T.right.ptr] ++ ((kc (T.ld bits) ++ kc (T.rd bits)) ++ [.int .i64 (T.icnt : Int)]) := by cases T <;> rfl
theorem Tr.one_lfC {bits : Int} {T : Tr} {w : World} (h : TrA bits T w) : oneAll (T.lfC bits) := by
  rw [Tr.lfC_eq]; exact one_append (one_append (kc_one _) (kc_one _)) (one_lit _ (by simp [SlC.one1 h.vsl]))
theorem Tr.one_inC (bits : Int) (T : Tr) : oneAll (T.inC bits) := by
  rw [Tr.inC_eq]; exact one_append (one_lit _ rfl) (one_append (one_append (kc_one _) (kc_one _)) (one_lit _ rfl))
theorem Tr.len_lfC {bits : Int} {T : Tr} {w : World} (h : TrA bits T w) : (T.lfC bits).length = 65 := by
  rw [Tr.lfC_eq]; simp [kc_length, h.key_length, Tr.vd_length]
theorem Tr.len_inC (bits : Int) (T : Tr) : (T.inC bits).length = 67 := by
  rw [Tr.inC_eq]; simp [kc_length, Tr.ld_length, Tr.rd_length]
theorem Tr.kind1 {T : Tr} (h : T.er.kind = 1) : ∃ a k v s, T = .leaf a k v s := by cases T <;> first | exact ⟨_, _, _, _, rfl⟩ | simp [Tr.er, Sh.kind] at h
theorem Tr.kind2 {T : Tr} (h : T.er.kind = 2) : ∃ a l r, T = .inner a l r := by cases T <;> first | exact ⟨_, _, _, rfl⟩ | simp [Tr.er, Sh.kind] at h
theorem Tr.lfC_not {bits : Int} {T : Tr} (h : T.er.kind ≠ 1) : T.lfC bits = zeroLeafC := by cases T <;> first | rfl | exact absurd rfl h
theorem Tr.inC_not {bits : Int} {T : Tr} (h : T.er.kind ≠ 2) : T.inC bits = zeroInnerC := by cases T <;> first | rfl | exact absurd rfl h
theorem Tr.cnt_eq (T : Tr) : T.er.cnt = if T.er.kind = 1 then 1 else T.icnt := by cases T <;> simp [Tr.er, Sh.cnt, Sh.kind, Tr.icnt]

theorem KindNil_c {X : Nat → Prop} {w : World}  (hX : ∀ b, X b → b < w.heap.size) :
    Ret Tryd.prog 40 [.pointer none].toArray w fun v w' => v = .int .i64 0 ∧ Out Nil w w' := by
  refine Ret.of_body (N := 15) Tryd.func40 rfl rfl (by simp) ?_
  have H := St.begin hX
  refine WE.seq_reg ?_
  refine WL.as rfl rfl ?_
  refine WL.nil ?_
  refine WE.seq ?_
  refine WE.seq_reg ?_
  refine WL.mv rfl rfl ?_
  refine WL.pv (PV.eqlPn rfl TrydT.pt47 rfl rfl) rfl ?_
  refine WL.nil ?_
  refine WE.cond_t' rfl rfl ?_
  refine WE.seq_reg ?_
  refine WL.as rfl rfl ?_
  refine WL.nil ?_
  refine WE.ret ?_
  refine ⟨[_], _, .nil _, ⟨rfl, trivial⟩, ?_⟩
  exact ⟨rfl, H.toOut0⟩

theorem KindLeaf_c {X : Nat → Prop} {w : World} {a : Nat} {L : List Value} {D : List UInt8} (hX : ∀ b, X b → b < w.heap.size) (hf0 : Rob X (NodeAt a 111 L D) w) :
    Ret Tryd.prog 40 [.pointer (some ⟨a, 0, none⟩)].toArray w fun v w' => v = .int .i64 1 ∧ Out Nil w w' := by
  refine Ret.of_body (N := 15) Tryd.func40 rfl rfl (by simp) ?_
  have H := St.begin hX
  replace H := H.add (rob0 hf0)
  refine WE.seq_reg ?_
  refine WL.as rfl rfl ?_
  refine WL.nil ?_
  refine WE.seq ?_
  refine WE.seq_reg ?_
  refine WL.mv rfl rfl ?_
  refine WL.pv (PV.eqlPn rfl TrydT.pt47 rfl rfl) rfl ?_
  refine WL.nil ?_
  refine WE.cond_f' rfl rfl ?_
  refine WE.skip ?_
  refine WE.seq ?_
  refine WE.seq_reg ?_
  refine WL.mv rfl rfl ?_
  refine WL.pv (PV.nilCheck rfl rfl) rfl ?_
  refine WL.pv (PV.fieldAddr rfl TrydT.fd103_0 rfl) rfl ?_
  refine WL.load1 rfl TrydT.ag101 rfl rfl (RdA.at_ (o := 0) (Blk.rd (H.p 0 rfl)) rfl rfl) ?_
  refine WL.nil ?_
  refine WE.block ?_
  refine WE.seq_reg ?_
  refine WL.pv (PV.assertOk rfl TrydT.cn111 TrydT.zz111 rfl) rfl ?_
  refine WL.pv (PV.extract rfl rfl rfl) rfl ?_
  refine WL.pv (PV.extract rfl rfl rfl) rfl ?_
  refine WL.nil ?_
  refine WE.cond_t' rfl rfl ?_
  refine WE.seq_reg ?_
  refine WL.as rfl rfl ?_
  refine WL.nil ?_
  refine WE.ret ?_
  refine ⟨[_], _, .nil _, ⟨rfl, trivial⟩, ?_⟩
  exact ⟨rfl, H.toOut0⟩

theorem KindInner_c {X : Nat → Prop} {w : World} {a : Nat} {L : List Value} {D : List UInt8} (hX : ∀ b, X b → b < w.heap.size) (hf0 : Rob X (NodeAt a 109 L D) w) :
    Ret Tryd.prog 40 [.pointer (some ⟨a, 0, none⟩)].toArray w fun v w' => v = .int .i64 2 ∧ Out Nil w w' := by
  refine Ret.of_body (N := 15) Tryd.func40 rfl rfl (by simp) ?_
  have H := St.begin hX
  replace H := H.add (rob0 hf0)
  refine WE.seq_reg ?_
  refine WL.as rfl rfl ?_
  refine WL.nil ?_
  refine WE.seq ?_
  refine WE.seq_reg ?_
  refine WL.mv rfl rfl ?_
  refine WL.pv (PV.eqlPn rfl TrydT.pt47 rfl rfl) rfl ?_
  refine WL.nil ?_
  refine WE.cond_f' rfl rfl ?_
  refine WE.skip ?_
  refine WE.seq ?_
  refine WE.seq_reg ?_
  refine WL.mv rfl rfl ?_
  refine WL.pv (PV.nilCheck rfl rfl) rfl ?_
  refine WL.pv (PV.fieldAddr rfl TrydT.fd103_0 rfl) rfl ?_
  refine WL.load1 rfl TrydT.ag101 rfl rfl (RdA.at_ (o := 0) (Blk.rd (H.p 0 rfl)) rfl rfl) ?_
  refine WL.nil ?_
  refine WE.block ?_
  refine WE.seq_reg ?_
  refine WL.pv (PV.assertOk rfl TrydT.cn111 TrydT.zz111 rfl) rfl ?_
  refine WL.pv (PV.extract rfl rfl rfl) rfl ?_
  refine WL.pv (PV.extract rfl rfl rfl) rfl ?_
  refine WL.nil ?_
  refine WE.cond_f' rfl rfl ?_
  refine WE.seq_reg ?_
  refine WL.pv (PV.assertOk rfl TrydT.cn109 TrydT.zz109 rfl) rfl ?_
  refine WL.pv (PV.extract rfl rfl rfl) rfl ?_
  refine WL.pv (PV.extract rfl rfl rfl) rfl ?_
  refine WL.nil ?_
  refine WE.cond_t' rfl rfl ?_
  refine WE.seq_reg ?_
  refine WL.as rfl rfl ?_
  refine WL.nil ?_
  refine WE.ret ?_
  refine ⟨[_], _, .nil _, ⟨rfl, trivial⟩, ?_⟩
  exact ⟨rfl, H.toOut0⟩


theorem NKind_c {X : Nat → Prop} {w : World} {bits : Int} {T : Tr} (hX : ∀ b, X b → b < w.heap.size) (hf0 : Rob X (TrA bits T) w) :
    Ret Tryd.prog 40 [T.ptr].toArray w fun v w' => v = .int .i64 T.er.kind ∧ Out Nil w w' := by
  cases T with
  | nil => exact KindNil_c hX
  | leaf a k v s => exact KindLeaf_c hX (hf0.imp fun _ h => h.2.2.2)
  | inner a l r => exact KindInner_c hX (hf0.imp fun _ h => h.2.2)

theorem leafM_c {X : Nat → Prop} {w : World} {bits : Int} {T : Tr} (hX : ∀ b, X b → b < w.heap.size) (hf0 : Rob X (TrA bits T) w) :
    Ret Tryd.prog 77 [T.ptr].toArray w fun v w' => v = .agg (T.lfC bits).toArray ∧ Out Nil w w' := by
  refine Ret.of_body (N := 12) Tryd.func77 rfl rfl (by simp) ?_
  have H := St.begin hX
  replace H := H.add (rob0 hf0)
  have hlen := Tr.len_lfC (hf0.here)
  have hone := Tr.one_lfC (hf0.here)
  refine WE.seq_reg ?_
  refine WL.alloc H rfl TrydT.ze111 rfl ?_
  intro b2 w1 H
  refine WL.nil ?_
  refine WE.seq ?_
  refine WE.seq_reg ?_
  refine WL.mv rfl rfl ?_
  refine WL.call TrydT.fb40 rfl (NKind_c (T := T) H.yylt (H.rob 0 rfl)) ?_
  rintro _ w2 ⟨rfl, hO⟩
  replace H := H.out hO
  refine WL.pv (PV.neq rfl rfl rfl) rfl ?_
  refine WL.nil ?_
  refine WE.cond rfl (fun hc5 => ?_) (fun hc5 => ?_)
  · skip
    try simp only [decide_eq_true_eq, decide_eq_false_iff_not, ne_eq, Decidable.not_not, Bool.not_eq_true', Bool.not_eq_false', Bool.and_eq_true, Bool.or_eq_true, Bool.not_not, Bool.and_eq_false_iff, Bool.or_eq_false_iff, Int.not_lt, Int.not_le] at hc5
    have hz := Tr.lfC_not (bits := bits) hc5
    refine WE.seq_reg ?_
    refine WL.pv (PV.eq (v' := .agg (T.lfC bits).toArray) (PV.buildS (l := T.lfC bits) rfl TrydT.pl111 TrydT.ze111 (by rw [hz]; exact Fl.nil)) rfl) rfl ?_
    refine WL.storeL H 0 rfl rfl rfl (new := _) rfl (by (rw [TrydT.sz111]; refine congrArg some ?_; (symm; assumption))) hone (Laid.all (by rw [hlen]; rfl)) rfl ?_
    intro w3 H
    refine WL.nil ?_
    refine WE.ret ?_
    refine ⟨[_], _, .nil _, ⟨⟨_, rfl, run_loadVar_aggR TrydT.ag111 (by exact Blk.segAt (H.l 0 rfl) (Seg.all _) rfl) (by (rw [TrydT.sz111]; refine congrArg some ?_; (symm; assumption)))⟩, trivial⟩, ?_⟩
    exact ⟨rfl, H.toOut0⟩
  · skip
    try simp only [decide_eq_true_eq, decide_eq_false_iff_not, ne_eq, Decidable.not_not, Bool.not_eq_true', Bool.not_eq_false', Bool.and_eq_true, Bool.or_eq_true, Bool.not_not, Bool.and_eq_false_iff, Bool.or_eq_false_iff, Int.not_lt, Int.not_le] at hc5
    obtain ⟨a, k, v, s, rfl⟩ := Tr.kind1 hc5
    refine WE.skip ?_
    refine WE.seq_reg ?_
    refine WL.mv rfl rfl ?_
    refine WL.pv (PV.nilCheck rfl rfl) rfl ?_
    refine WL.pv (PV.fieldAddr rfl TrydT.fd103_0 rfl) rfl ?_
    refine WL.load1 rfl TrydT.ag101 rfl rfl (RdA.at_ (o := 0) (Blk.rd ((H.p 0 rfl : TrA bits _ _).2.2.2)) rfl rfl) ?_
    refine WL.pv (PV.assert1 rfl TrydT.cn111 rfl) rfl ?_
    refine WL.storeL H 0 rfl rfl rfl (new := _) rfl (by (rw [TrydT.sz111]; refine congrArg some ?_; (symm; assumption))) hone (Laid.all (show (leafC bits k v s).length = _ from hlen)) rfl ?_
    intro w4 H
    refine WL.nil ?_
    refine WE.ret ?_
    refine ⟨[_], _, .nil _, ⟨⟨_, rfl, run_loadVar_aggR TrydT.ag111 (by exact Blk.segAt (H.l 0 rfl) (Seg.all _) rfl) (by (rw [TrydT.sz111]; refine congrArg some ?_; (symm; assumption)))⟩, trivial⟩, ?_⟩
    exact ⟨rfl, H.toOut0⟩

theorem innerM_c {X : Nat → Prop} {w : World} {bits : Int} {T : Tr} (hX : ∀ b, X b → b < w.heap.size) (hf0 : Rob X (TrA bits T) w) :
    Ret Tryd.prog 76 [T.ptr].toArray w fun v w' => v = .agg (T.inC bits).toArray ∧ Out Nil w w' := by
  refine Ret.of_body (N := 12) Tryd.func76 rfl rfl (by simp) ?_
  have H := St.begin hX
  replace H := H.add (rob0 hf0)
  have hlen := Tr.len_inC bits T
  have hone := Tr.one_inC bits T
  refine WE.seq_reg ?_
  refine WL.alloc H rfl TrydT.ze109 rfl ?_
  intro b2 w1 H
  refine WL.nil ?_
  refine WE.seq ?_
  refine WE.seq_reg ?_
  refine WL.mv rfl rfl ?_
  refine WL.call TrydT.fb40 rfl (NKind_c (T := T) H.yylt (H.rob 0 rfl)) ?_
  rintro _ w2 ⟨rfl, hO⟩
  replace H := H.out hO
  refine WL.pv (PV.neq rfl rfl rfl) rfl ?_
  refine WL.nil ?_
  refine WE.cond rfl (fun hc5 => ?_) (fun hc5 => ?_)
  · skip
    try simp only [decide_eq_true_eq, decide_eq_false_iff_not, ne_eq, Decidable.not_not, Bool.not_eq_true', Bool.not_eq_false', Bool.and_eq_true, Bool.or_eq_true, Bool.not_not, Bool.and_eq_false_iff, Bool.or_eq_false_iff, Int.not_lt, Int.not_le] at hc5
    have hz := Tr.inC_not (bits := bits) hc5
    refine WE.seq_reg ?_
    refine WL.pv (PV.eq (v' := .agg (T.inC bits).toArray) (PV.buildS (l := T.inC bits) rfl TrydT.pl109 TrydT.ze109 (by rw [hz]; exact Fl.nil)) rfl) rfl ?_
    refine WL.storeL H 0 rfl rfl rfl (new := _) rfl (by (rw [TrydT.sz109]; refine congrArg some ?_; (symm; assumption))) hone (Laid.all (by rw [hlen]; rfl)) rfl ?_
    intro w3 H
    refine WL.nil ?_
    refine WE.ret ?_
    refine ⟨[_], _, .nil _, ⟨⟨_, rfl, run_loadVar_aggR TrydT.ag109 (by exact Blk.segAt (H.l 0 rfl) (Seg.all _) rfl) (by (rw [TrydT.sz109]; refine congrArg some ?_; (symm; assumption)))⟩, trivial⟩, ?_⟩
    exact ⟨rfl, H.toOut0⟩
  · skip
    try simp only [decide_eq_true_eq, decide_eq_false_iff_not, ne_eq, Decidable.not_not, Bool.not_eq_true', Bool.not_eq_false', Bool.and_eq_true, Bool.or_eq_true, Bool.not_not, Bool.and_eq_false_iff, Bool.or_eq_false_iff, Int.not_lt, Int.not_le] at hc5
    obtain ⟨a, l, r, rfl⟩ := Tr.kind2 hc5
    refine WE.skip ?_
    refine WE.seq_reg ?_
    refine WL.mv rfl rfl ?_
    refine WL.pv (PV.nilCheck rfl rfl) rfl ?_
    refine WL.pv (PV.fieldAddr rfl TrydT.fd103_0 rfl) rfl ?_
    refine WL.load1 rfl TrydT.ag101 rfl rfl (RdA.at_ (o := 0) (Blk.rd ((H.p 0 rfl : TrA bits _ _).2.2)) rfl rfl) ?_
    refine WL.pv (PV.assert1 rfl TrydT.cn109 rfl) rfl ?_
    refine WL.storeL H 0 rfl rfl rfl (new := _) rfl (by (rw [TrydT.sz109]; refine congrArg some ?_; (symm; assumption))) hone (Laid.all (show (innerC bits l r).length = _ from hlen)) rfl ?_
    intro w4 H
    refine WL.nil ?_
    refine WE.ret ?_
    refine ⟨[_], _, .nil _, ⟨⟨_, rfl, run_loadVar_aggR TrydT.ag109 (by exact Blk.segAt (H.l 0 rfl) (Seg.all _) rfl) (by (rw [TrydT.sz109]; refine congrArg some ?_; (symm; assumption)))⟩, trivial⟩, ?_⟩
    exact ⟨rfl, H.toOut0⟩

theorem Leaf2_c {X : Nat → Prop} {w : World} {bits : Int} {T : Tr} (hX : ∀ b, X b → b < w.heap.size) (hf0 : Rob X (TrA bits T) w) :
    Ret Tryd.prog 39 [T.ptr].toArray w fun v w' => v = .agg (kc T.key ++ kc (T.vd bits)).toArray ∧ Out Nil w w' := by
  refine Ret.of_body (N := 6) Tryd.func39 rfl rfl (by simp) ?_
  have H := St.begin hX
  replace H := H.add (rob0 hf0)
  have hk := TrA.key_length (hf0.here)
  have hd := Tr.vd_length bits T
  refine WE.seq_reg ?_
  refine WL.alloc H rfl TrydT.ze38 rfl ?_
  intro b2 w1 H
  refine WL.nil ?_
  refine WE.seq_reg ?_
  refine WL.mv rfl rfl ?_
  refine WL.call TrydT.fb77 rfl (leafM_c (T := T) H.yylt (H.rob 0 rfl)) ?_
  rintro _ w2 ⟨rfl, hO⟩
  replace H := H.out hO
  rw [Tr.lfC_eq]
  refine WL.pv (PV.fieldV rfl TrydT.fd111_0 rfl (PartAt.agg TrydT.ag38 (by (rw [TrydT.sz38]; refine congrArg some ?_; (simp only [kc_length, kw_length, List.length_replicate, List.length_append, List.length_cons, List.length_nil, cutI_length, shaOf_length, dig_length, valD_length, Tr.vd_length, Tr.ld_length, Tr.rd_length]; omega))) (Seg.l (Seg.all _)))) rfl ?_
  refine WL.storeL H 0 rfl rfl rfl (new := _) rfl (by (rw [TrydT.sz38]; refine congrArg some ?_; (simp only [kc_length, kw_length, List.length_replicate, List.length_append, List.length_cons, List.length_nil, cutI_length, shaOf_length, dig_length, valD_length, Tr.vd_length, Tr.ld_length, Tr.rd_length]; omega))) (one_append (kc_one _) (kc_one _)) (Laid.at (Laid.all (by (simp only [kc_length, kw_length, List.length_replicate, List.length_append, List.length_cons, List.length_nil, cutI_length, shaOf_length, dig_length, valD_length, Tr.vd_length, Tr.ld_length, Tr.rd_length]; omega))) (by rfl)) rfl ?_
  intro w3 H
  refine WL.nil ?_
  refine WE.ret ?_
  refine ⟨[_], _, .nil _, ⟨⟨_, rfl, run_loadVar_aggR TrydT.ag38 (by exact Blk.segAt (H.l 0 rfl) (Seg.all _) rfl) (by (rw [TrydT.sz38]; refine congrArg some ?_; (simp only [kc_length, kw_length, List.length_replicate, List.length_append, List.length_cons, List.length_nil, cutI_length, shaOf_length, dig_length, valD_length, Tr.vd_length, Tr.ld_length, Tr.rd_length]; omega)))⟩, trivial⟩, ?_⟩
  exact ⟨rfl, H.toOut0⟩

theorem Left_c {X : Nat → Prop} {w : World} {bits : Int} {T : Tr} (hX : ∀ b, X b → b < w.heap.size) (hf0 : Rob X (TrA bits T) w) :
    Ret Tryd.prog 41 [T.ptr].toArray w fun v w' => v = T.left.ptr ∧ Out Nil w w' := by
  refine Ret.of_body (N := 7) Tryd.func41 rfl rfl (by simp) ?_
  have H := St.begin hX
  replace H := H.add (rob0 hf0)
  refine WE.seq_reg ?_
  refine WL.as rfl rfl ?_
  refine WL.nil ?_
  refine WE.seq_reg ?_
  refine WL.mv rfl rfl ?_
  refine WL.call TrydT.fb76 rfl (innerM_c (T := T) H.yylt (H.rob 0 rfl)) ?_
  rintro _ w1 ⟨rfl, hO⟩
  replace H := H.out hO
  rw [Tr.inC_eq]
  refine WL.pv (PV.fieldV rfl TrydT.fd109_0 rfl (PartAt.agg TrydT.ag105 (by exact TrydT.sz105) (Seg.l (Seg.all _)))) rfl ?_
  refine WL.pv (PV.indexV (i := 0) rfl TrydT.ar105 TrydT.sz47 rfl rfl (by decide) (PartAt.one TrydT.ag47 Seg.hd)) rfl ?_
  refine WL.as rfl rfl ?_
  refine WL.nil ?_
  refine WE.ret ?_
  refine ⟨[_], _, .nil _, ⟨rfl, trivial⟩, ?_⟩
  exact ⟨rfl, H.toOut0⟩

theorem Right2_c {X : Nat → Prop} {w : World} {bits : Int} {T : Tr} (hX : ∀ b, X b → b < w.heap.size) (hf0 : Rob X (TrA bits T) w) :
    Ret Tryd.prog 42 [T.ptr].toArray w fun v w' => v = T.right.ptr ∧ Out Nil w w' := by
  refine Ret.of_body (N := 7) Tryd.func42 rfl rfl (by simp) ?_
  have H := St.begin hX
  replace H := H.add (rob0 hf0)
  refine WE.seq_reg ?_
  refine WL.as rfl rfl ?_
  refine WL.nil ?_
  refine WE.seq_reg ?_
  refine WL.mv rfl rfl ?_
  refine WL.call TrydT.fb76 rfl (innerM_c (T := T) H.yylt (H.rob 0 rfl)) ?_
  rintro _ w1 ⟨rfl, hO⟩
  replace H := H.out hO
  rw [Tr.inC_eq]
  refine WL.pv (PV.fieldV rfl TrydT.fd109_0 rfl (PartAt.agg TrydT.ag105 (by exact TrydT.sz105) (Seg.l (Seg.all _)))) rfl ?_
  refine WL.pv (PV.indexV (i := 1) rfl TrydT.ar105 TrydT.sz47 rfl rfl (by decide) (PartAt.one TrydT.ag47 (Seg.tl Seg.hd rfl))) rfl ?_
  refine WL.as rfl rfl ?_
  refine WL.nil ?_
  refine WE.ret ?_
  refine ⟨[_], _, .nil _, ⟨rfl, trivial⟩, ?_⟩
  exact ⟨rfl, H.toOut0⟩

theorem Len_c {X : Nat → Prop} {w : World} {bits : Int} {T : Tr} (hX : ∀ b, X b → b < w.heap.size) (hf0 : Rob X (TrA bits T) w) :
    Ret Tryd.prog 36 [T.ptr].toArray w fun v w' => v = .int .i64 (T.er.cnt : Int) ∧ Out Nil w w' := by
  refine Ret.of_body (N := 9) Tryd.func36 rfl rfl (by simp) ?_
  have H := St.begin hX
  replace H := H.add (rob0 hf0)
  have hd := Tr.ld_length bits T
  have hr := Tr.rd_length bits T
  refine WE.seq_reg ?_
  refine WL.as rfl rfl ?_
  refine WL.nil ?_
  refine WE.seq ?_
  refine WE.seq_reg ?_
  refine WL.mv rfl rfl ?_
  refine WL.call TrydT.fb40 rfl (NKind_c (T := T) H.yylt (H.rob 0 rfl)) ?_
  rintro _ w1 ⟨rfl, hO⟩
  replace H := H.out hO
  refine WL.pv (PV.eql rfl rfl rfl) rfl ?_
  refine WL.nil ?_
  refine WE.cond rfl (fun hc5 => ?_) (fun hc5 => ?_)
  · skip
    try simp only [decide_eq_true_eq, decide_eq_false_iff_not, ne_eq, Decidable.not_not, Bool.not_eq_true', Bool.not_eq_false', Bool.and_eq_true, Bool.or_eq_true, Bool.not_not, Bool.and_eq_false_iff, Bool.or_eq_false_iff, Int.not_lt, Int.not_le] at hc5
    refine WE.seq_reg ?_
    refine WL.as rfl rfl ?_
    refine WL.nil ?_
    refine WE.ret ?_
    refine ⟨[_], _, .nil _, ⟨rfl, trivial⟩, ?_⟩
    refine ⟨?_, H.toOut0⟩
    rw [Tr.cnt_eq, if_pos hc5]; rfl
  · skip
    try simp only [decide_eq_true_eq, decide_eq_false_iff_not, ne_eq, Decidable.not_not, Bool.not_eq_true', Bool.not_eq_false', Bool.and_eq_true, Bool.or_eq_true, Bool.not_not, Bool.and_eq_false_iff, Bool.or_eq_false_iff, Int.not_lt, Int.not_le] at hc5
    refine WE.skip ?_
    refine WE.seq_reg ?_
    refine WL.mv rfl rfl ?_
    refine WL.call TrydT.fb76 rfl (innerM_c (T := T) H.yylt (H.rob 0 rfl)) ?_
    rintro _ w2 ⟨rfl, hO⟩
    replace H := H.out hO
    rw [Tr.inC_eq]
    refine WL.pv (PV.fieldV rfl TrydT.fd109_2 rfl (PartAt.one TrydT.ag3 (Seg.r (Seg.r (Seg.all _) (by with_reducible rfl)) (by (simp only [kc_length, kw_length, List.length_replicate, List.length_append, List.length_cons, List.length_nil, cutI_length, shaOf_length, dig_length, valD_length, Tr.vd_length, Tr.ld_length, Tr.rd_length]; done))))) rfl ?_
    refine WL.as rfl rfl ?_
    refine WL.nil ?_
    refine WE.ret ?_
    refine ⟨[_], _, .nil _, ⟨rfl, trivial⟩, ?_⟩
    refine ⟨?_, H.toOut0⟩
    rw [Tr.cnt_eq, if_neg hc5]; rfl

end Go.Sp.Tryd
