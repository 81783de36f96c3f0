/- Walks of functions, printed by a program of this session (gen.py) from notes on each function. -/
import Derived.Test.YtcclagdjpoimaaaGreatDoorNk
import Derived.Test.YtcclagdjpoimaaaGreatDoorMore
set_option maxRecDepth 100000
set_option maxHeartbeats 1000000
set_option linter.unusedVariables false
set_option linter.unusedSimpArgs false
namespace Go.Sp.Tryz
open Go.Proofs Go.RowKit Go.Sp

theorem and1 {m : Nat} (h : m < 256) : IntKind.u8.wrap ((BitVec.ofInt IntKind.u8.bits (m : Int) &&& BitVec.ofInt IntKind.u8.bits 1).toNat : Int) = ((m % 2 : Nat) : Int) := by
  rw [wrap8]
  have e : (BitVec.ofInt IntKind.u8.bits (m : Int) &&& BitVec.ofInt IntKind.u8.bits 1).toNat = m % 2 := by
    show (BitVec.ofInt 8 (m : Int) &&& 1#8).toNat = _
    rw [BitVec.ofInt_natCast, BitVec.toNat_and]
    simp [Nat.and_one_is_mod]
  rw [e]
  omega

theorem bitsBit_c {X : Nat → Prop} {w : World} {k : List UInt8} {d : Nat} (hX : ∀ b, X b → b < w.heap.size) (hk : k.length = 32) (hd : d < 256) :
    Ret Tryz.prog 87 [.agg (kc k).toArray, .int .i64 (d : Int)].toArray w fun v w' => v = .int .i64 (bitN k d : Int) ∧ Out Nil w w' := by
  refine Ret.of_body (N := 21) Tryz.func87 rfl rfl (by simp) ?_
  have H := St.begin hX
  have hx := (k.getD (d / 8) 0).toNat_lt
  have hb2 := bitN_lt k d
  refine WE.seq_reg ?_
  refine WL.box (l := kc k) H rfl (by rfl) rfl ?_
  intro b2 w1 H
  refine WL.as rfl rfl ?_
  refine WL.nil ?_
  refine WE.seq ?_
  refine WE.seq_reg ?_
  refine WL.mv rfl rfl ?_
  refine WL.pv (PV.lss rfl rfl rfl) rfl ?_
  refine WL.mv rfl rfl ?_
  refine WL.known (t := 7) (c := false) rfl (by (simp; done)) ?_
  refine WL.mv rfl rfl ?_
  refine WL.pv (PV.geq rfl rfl rfl) rfl ?_
  refine WL.pv (PV.pick_f rfl rfl rfl) rfl ?_
  refine WL.nil ?_
  refine WE.cond_f' rfl (by (simp; omega)) ?_
  refine WE.skip ?_
  refine WE.seq_reg ?_
  refine WL.mv rfl rfl ?_
  refine WL.pv (PV.eq (v' := .int .i64 ((d / 8 : Nat) : Int)) (PV.quo64 rfl rfl rfl (by omega) (by omega) (by omega)) (by rfl)) rfl ?_
  refine WL.pv (PV.indexArr rfl TryzT.ar31 TryzT.sz5 rfl rfl (by omega) (by omega)) rfl ?_
  refine WL.load1 rfl TryzT.ag5 rfl rfl (Blk.bytD (H.l 0 rfl) (d / 8) (by omega) (by omega)) ?_
  refine WL.mv rfl rfl ?_
  refine WL.pv (PV.eq (v' := .int .i64 ((d % 8 : Nat) : Int)) (PV.rem64 rfl rfl rfl (by omega) (by omega)) (by rfl)) rfl ?_
  refine WL.pv (PV.eq (v' := .int .i64 ((7 - d % 8 : Nat) : Int)) (PV.sub64 rfl rfl rfl (by omega) (by omega)) (by (congr 1; omega))) rfl ?_
  refine WL.pv (PV.eq (v' := .int .u8 (((k.getD (d / 8) 0).toNat / 2 ^ (7 - d % 8) : Nat) : Int)) (PV.shrN rfl rfl rfl (by show _ < 8; omega)) rfl) rfl ?_
  refine WL.pv (PV.eq (v' := .int .u8 ((bitN k d : Nat) : Int)) (PV.andw rfl rfl rfl) (congrArg (Value.int .u8) (and1 (Nat.lt_of_le_of_lt (Nat.div_le_self _ _) hx)))) rfl ?_
  refine WL.pv (PV.conv64 rfl TryzT.in5 TryzT.in3 rfl (by omega) (by omega)) rfl ?_
  refine WL.as rfl rfl ?_
  refine WL.nil ?_
  refine WE.ret ?_
  refine ⟨[_], _, .nil _, ⟨rfl, trivial⟩, ?_⟩
  exact ⟨rfl, H.toOut0⟩

theorem Child_c {X : Nat → Prop} {w : World} {bits : Int} {T : Tr} {b : Nat} (hX : ∀ b, X b → b < w.heap.size) (hf0 : Rob X (TrA bits T) w) :
    Ret Tryz.prog 76 [T.ptr, .int .i64 (b : Int)].toArray w fun v w' => v = (T.child b).ptr ∧ Out Nil w w' := by
  refine Ret.of_body (N := 11) Tryz.func76 rfl rfl (by simp) ?_
  have H := St.begin hX
  replace H := H.add (rob0 hf0)
  refine WE.seq_reg ?_
  refine WL.as rfl rfl ?_
  refine WL.nil ?_
  refine WE.seq ?_
  refine WE.seq_reg ?_
  refine WL.mv rfl rfl ?_
  refine WL.pv (PV.eql rfl rfl rfl) rfl ?_
  refine WL.nil ?_
  refine WE.cond rfl (fun hc6 => ?_) (fun hc6 => ?_)
  · skip
    try simp only [decide_eq_true_eq, decide_eq_false_iff_not, ne_eq, Decidable.not_not, Bool.not_eq_true', Bool.not_eq_false', Bool.and_eq_true, Bool.or_eq_true, Bool.not_not, Bool.and_eq_false_iff, Bool.or_eq_false_iff, Int.not_lt, Int.not_le] at hc6
    have hb : b = 0 := by omega
    refine WE.seq_reg ?_
    refine WL.mv rfl rfl ?_
    refine WL.call TryzT.fb85 rfl (Left_c (T := T) (bits := bits) H.yylt (by exact H.rob 0 rfl) ) ?_
    rintro _ w1 ⟨rfl, hO⟩
    replace H := H.out hO
    refine WL.as rfl rfl ?_
    refine WL.nil ?_
    refine WE.ret ?_
    refine ⟨[_], _, .nil _, ⟨rfl, trivial⟩, ?_⟩
    refine ⟨?_, H.toOut0⟩
    rw [Tr.child, if_pos hb]; rfl
  · skip
    try simp only [decide_eq_true_eq, decide_eq_false_iff_not, ne_eq, Decidable.not_not, Bool.not_eq_true', Bool.not_eq_false', Bool.and_eq_true, Bool.or_eq_true, Bool.not_not, Bool.and_eq_false_iff, Bool.or_eq_false_iff, Int.not_lt, Int.not_le] at hc6
    have hb : b ≠ 0 := by omega
    refine WE.skip ?_
    refine WE.seq_reg ?_
    refine WL.mv rfl rfl ?_
    refine WL.call TryzT.fb86 rfl (Right2_c (T := T) (bits := bits) H.yylt (by exact H.rob 0 rfl) ) ?_
    rintro _ w2 ⟨rfl, hO⟩
    replace H := H.out hO
    refine WL.as rfl rfl ?_
    refine WL.nil ?_
    refine WE.ret ?_
    refine ⟨[_], _, .nil _, ⟨rfl, trivial⟩, ?_⟩
    refine ⟨?_, H.toOut0⟩
    rw [Tr.child, if_neg hb]; rfl

def wayV (T : Tr) (k : List UInt8) (i : Nat) (xs : List Value) (_ : World) : Prop := xs = [.int .i64 (i : Int), (T.atN k 0 i).ptr]
def wayF (b1 b2 : Nat) : Value := .func (.func 119) [].toArray [.pointer (some ⟨b1, 0, none⟩), .pointer (some ⟨b2, 0, none⟩)].toArray

def lastP (T : Tr) (k : List UInt8) : Nat → Value
  | 0 => .pointer none
  | i + 1 => (T.atN k 0 i).ptr
def Tr.fin (T : Tr) (k : List UInt8) : Tr := T.atN k 0 (T.dp k 0)

end Go.Sp.Tryz

set_option maxRecDepth 100000
set_option maxHeartbeats 1000000
set_option linter.unusedVariables false
set_option linter.unusedSimpArgs false
namespace Go.Sp.Tryz
open Go.Proofs Go.RowKit Go.Sp

theorem TrA.fin {bits : Int} {T : Tr} {w : World} {k : List UInt8} (h : TrA bits T w) : TrA bits (T.fin k) w := h.atN _
def Tr.getV (T : Tr) (k : List UInt8) : Option (List UInt8) := match T.fin k with
  | .leaf _ q v _ => if q = k then some v else none
  | _ => none

end Go.Sp.Tryz

set_option maxRecDepth 100000
set_option maxHeartbeats 1000000
set_option linter.unusedVariables false
set_option linter.unusedSimpArgs false
namespace Go.Sp.Tryz
open Go.Proofs Go.RowKit Go.Sp

def getR (m : List En) (k : List UInt8) : Value := match getM m k with
  | none => .tuple [.slice none 0 0, .bool false].toArray
  | some e => .tuple [e.s, .bool true].toArray
theorem OneS.at {m : List En} {k : List UInt8} {d i : Nat} (h : OneS m) : OneS (atM k d m i) := fun e he => h e (atM_mem he)
theorem KL.at {m : List En} {k : List UInt8} {d i : Nat} (h : KL m) : KL (atM k d m i) := fun e he => h e (atM_mem he)
def SameE (a b : List En) : Prop := a.length = b.length ∧ ∀ i (h : i < a.length) (h' : i < b.length), a[i].k = b[i].k ∧ a[i].v = b[i].v

end Go.Sp.Tryz

