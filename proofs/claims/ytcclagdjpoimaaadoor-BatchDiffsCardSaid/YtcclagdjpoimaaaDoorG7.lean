/- Walks of functions, printed by a program of this session (gen.py) from notes on each function. -/
import Derived.Test.YtcclagdjpoimaaaDoorNk
import Derived.Test.YtcclagdjpoimaaaDoorMore
set_option maxRecDepth 100000
set_option maxHeartbeats 1000000
set_option linter.unusedVariables false
set_option linter.unusedSimpArgs false
namespace Go.Sp.Tryd
open Go.Proofs Go.RowKit Go.Sp

theorem and1 {m : Nat} (h : m < 256) : IntKind.u8.wrap ((BitVec.ofInt IntKind.u8.bits (m : Int) &&& BitVec.ofInt IntKind.u8.bits 1).toNat : Int) = ((m % 2 : Nat) : Int) := by
  rw [wrap8]
  have e : (BitVec.ofInt IntKind.u8.bits (m : Int) &&& BitVec.ofInt IntKind.u8.bits 1).toNat = m % 2 := by
    show (BitVec.ofInt 8 (m : Int) &&& 1#8).toNat = _
    rw [BitVec.ofInt_natCast, BitVec.toNat_and]
    simp [Nat.and_one_is_mod]
  rw [e]
  omega

theorem bitsBit_c {X : Nat → Prop} {w : World} {k : List UInt8} {d : Nat} (hX : ∀ b, X b → b < w.heap.size) (hk : k.length = 32) (hd : d < 256) :
    Ret Tryd.prog 66 [.agg (kc k).toArray, .int .i64 (d : Int)].toArray w fun v w' => v = .int .i64 (bitN k d : Int) ∧ Out Nil w w' := by
  refine Ret.of_body (N := 21) Tryd.func66 rfl rfl (by simp) ?_
  have H := St.begin hX
  have hx := (k.getD (d / 8) 0).toNat_lt
  have hb2 := bitN_lt k d
  refine WE.seq_reg ?_
  refine WL.box (l := kc k) H rfl (by rfl) rfl ?_
  intro b2 w1 H
  refine WL.as rfl rfl ?_
  refine WL.nil ?_
  refine WE.seq ?_
  refine WE.seq_reg ?_
  refine WL.mv rfl rfl ?_
  refine WL.pv (PV.lss rfl rfl rfl) rfl ?_
  refine WL.mv rfl rfl ?_
  refine WL.known (t := 7) (c := false) rfl (by (simp; done)) ?_
  refine WL.mv rfl rfl ?_
  refine WL.pv (PV.geq rfl rfl rfl) rfl ?_
  refine WL.pv (PV.pick_f rfl rfl rfl) rfl ?_
  refine WL.nil ?_
  refine WE.cond_f' rfl (by (simp; omega)) ?_
  refine WE.skip ?_
  refine WE.seq_reg ?_
  refine WL.mv rfl rfl ?_
  refine WL.pv (PV.eq (v' := .int .i64 ((d / 8 : Nat) : Int)) (PV.quo64 rfl rfl rfl (by omega) (by omega) (by omega)) (by rfl)) rfl ?_
  refine WL.pv (PV.indexArr rfl TrydT.ar44 TrydT.sz5 rfl rfl (by omega) (by omega)) rfl ?_
  refine WL.load1 rfl TrydT.ag5 rfl rfl (Blk.bytD (H.l 0 rfl) (d / 8) (by omega) (by omega)) ?_
  refine WL.mv rfl rfl ?_
  refine WL.pv (PV.eq (v' := .int .i64 ((d % 8 : Nat) : Int)) (PV.rem64 rfl rfl rfl (by omega) (by omega)) (by rfl)) rfl ?_
  refine WL.pv (PV.eq (v' := .int .i64 ((7 - d % 8 : Nat) : Int)) (PV.sub64 rfl rfl rfl (by omega) (by omega)) (by (congr 1; omega))) rfl ?_
  refine WL.pv (PV.eq (v' := .int .u8 (((k.getD (d / 8) 0).toNat / 2 ^ (7 - d % 8) : Nat) : Int)) (PV.shrN rfl rfl rfl (by show _ < 8; omega)) rfl) rfl ?_
  refine WL.pv (PV.eq (v' := .int .u8 ((bitN k d : Nat) : Int)) (PV.andw rfl rfl rfl) (congrArg (Value.int .u8) (and1 (Nat.lt_of_le_of_lt (Nat.div_le_self _ _) hx)))) rfl ?_
  refine WL.pv (PV.conv64 rfl TrydT.in5 TrydT.in3 rfl (by omega) (by omega)) rfl ?_
  refine WL.as rfl rfl ?_
  refine WL.nil ?_
  refine WE.ret ?_
  refine ⟨[_], _, .nil _, ⟨rfl, trivial⟩, ?_⟩
  exact ⟨rfl, H.toOut0⟩

theorem Child_c {X : Nat → Prop} {w : World} {bits : Int} {T : Tr} {b : Nat} (hX : ∀ b, X b → b < w.heap.size) (hf0 : Rob X (TrA bits T) w) :
    Ret Tryd.prog 52 [T.ptr, .int .i64 (b : Int)].toArray w fun v w' => v = (T.child b).ptr ∧ Out Nil w w' := by
  refine Ret.of_body (N := 11) Tryd.func52 rfl rfl (by simp) ?_
  have H := St.begin hX
  replace H := H.add (rob0 hf0)
  refine WE.seq_reg ?_
  refine WL.as rfl rfl ?_
  refine WL.nil ?_
  refine WE.seq ?_
  refine WE.seq_reg ?_
  refine WL.mv rfl rfl ?_
  refine WL.pv (PV.eql rfl rfl rfl) rfl ?_
  refine WL.nil ?_
  refine WE.cond rfl (fun hc6 => ?_) (fun hc6 => ?_)
  · skip
    try simp only [decide_eq_true_eq, decide_eq_false_iff_not, ne_eq, Decidable.not_not, Bool.not_eq_true', Bool.not_eq_false', Bool.and_eq_true, Bool.or_eq_true, Bool.not_not, Bool.and_eq_false_iff, Bool.or_eq_false_iff, Int.not_lt, Int.not_le] at hc6
    have hb : b = 0 := by omega
    refine WE.seq_reg ?_
    refine WL.mv rfl rfl ?_
    refine WL.call TrydT.fb67 rfl (Left_c (T := T) (bits := bits) H.yylt (by exact H.rob 0 rfl) ) ?_
    rintro _ w1 ⟨rfl, hO⟩
    replace H := H.out hO
    refine WL.as rfl rfl ?_
    refine WL.nil ?_
    refine WE.ret ?_
    refine ⟨[_], _, .nil _, ⟨rfl, trivial⟩, ?_⟩
    refine ⟨?_, H.toOut0⟩
    rw [Tr.child, if_pos hb]; rfl
  · skip
    try simp only [decide_eq_true_eq, decide_eq_false_iff_not, ne_eq, Decidable.not_not, Bool.not_eq_true', Bool.not_eq_false', Bool.and_eq_true, Bool.or_eq_true, Bool.not_not, Bool.and_eq_false_iff, Bool.or_eq_false_iff, Int.not_lt, Int.not_le] at hc6
    have hb : b ≠ 0 := by omega
    refine WE.skip ?_
    refine WE.seq_reg ?_
    refine WL.mv rfl rfl ?_
    refine WL.call TrydT.fb68 rfl (Right2_c (T := T) (bits := bits) H.yylt (by exact H.rob 0 rfl) ) ?_
    rintro _ w2 ⟨rfl, hO⟩
    replace H := H.out hO
    refine WL.as rfl rfl ?_
    refine WL.nil ?_
    refine WE.ret ?_
    refine ⟨[_], _, .nil _, ⟨rfl, trivial⟩, ?_⟩
    refine ⟨?_, H.toOut0⟩
    rw [Tr.child, if_neg hb]; rfl

def wayV (T : Tr) (k : List UInt8) (i : Nat) (xs : List Value) (_ : World) : Prop := xs = [.int .i64 (i : Int), (T.atN k 0 i).ptr]

def lastP (T : Tr) (k : List UInt8) : Nat → Value
  | 0 => .pointer none
  | i + 1 => (T.atN k 0 i).ptr
def Tr.fin (T : Tr) (k : List UInt8) : Tr := T.atN k 0 (T.dp k 0)

end Go.Sp.Tryd

set_option maxRecDepth 100000
set_option maxHeartbeats 1000000
set_option linter.unusedVariables false
set_option linter.unusedSimpArgs false
namespace Go.Sp.Tryd
open Go.Proofs Go.RowKit Go.Sp

theorem TrA.fin {bits : Int} {T : Tr} {w : World} {k : List UInt8} (h : TrA bits T w) : TrA bits (T.fin k) w := h.atN _
def Tr.getV (T : Tr) (k : List UInt8) : Option (List UInt8) := match T.fin k with
  | .leaf _ q v _ => if q = k then some v else none
  | _ => none

end Go.Sp.Tryd

set_option maxRecDepth 100000
set_option maxHeartbeats 1000000
set_option linter.unusedVariables false
set_option linter.unusedSimpArgs false
namespace Go.Sp.Tryd
open Go.Proofs Go.RowKit Go.Sp

theorem getM_here {m : List En} {k : List UInt8} {i : Nat} (hi : i < m.length) (h : ∀ x ∈ m.take i, x.k ≠ k) (he : m[i].k = k) : getM m k = some m[i] := by
  unfold getM
  rw [List.find?_eq_some_iff_append]
  refine ⟨by simp [he], m.take i, m.drop (i + 1), ?_, fun x hx => by simpa using h x hx⟩
  rw [← List.drop_eq_getElem_cons hi, List.take_append_drop]
theorem getM_none {m : List En} {k : List UInt8} (h : ∀ x ∈ m, x.k ≠ k) : getM m k = none := by
  unfold getM
  rw [List.find?_eq_none]
  intro x hx
  simpa using h x hx
def getR (m : List En) (k : List UInt8) : Value := match getM m k with
  | none => .tuple [.slice none 0 0, .bool false].toArray
  | some e => .tuple [e.s, .bool true].toArray
theorem OneS.at {m : List En} {k : List UInt8} {d i : Nat} (h : OneS m) : OneS (atM k d m i) := fun e he => h e (atM_mem he)
theorem KL.at {m : List En} {k : List UInt8} {d i : Nat} (h : KL m) : KL (atM k d m i) := fun e he => h e (atM_mem he)
def SameE (a b : List En) : Prop := a.length = b.length ∧ ∀ i (h : i < a.length) (h' : i < b.length), a[i].k = b[i].k ∧ a[i].v = b[i].v

theorem refGet_c {X : Nat → Prop} {w : World} {s : Value} {m : List En} {k : List UInt8} (hX : ∀ b, X b → b < w.heap.size) (hf0 : Rob X (SlE s m) w) (hkl : KL m) (hlen : m.length ≤ 1000000) (hk : k.length = 32) :
    Ret Tryd.prog 22 [s, .agg (kc k).toArray].toArray w fun v w' => v = getR m k ∧ Out Nil w w' := by
  refine Ret.of_body (N := 25) Tryd.func22 rfl rfl (by simp) ?_
  have H := St.begin hX
  replace H := H.add (rob0 hf0)
  refine WE.seq_reg ?_
  refine WL.box (l := kc k) H rfl (by rfl) rfl ?_
  intro b3 w1 H
  refine WL.as rfl rfl ?_
  refine WL.as rfl rfl ?_
  refine WL.nil ?_
  refine WE.seq ?_
  refine WE.seq_reg ?_
  refine WL.as rfl rfl ?_
  refine WL.nil ?_
  refine WE.block ?_
  refine WE.loop (α := Nat) [4, 5, 6, 7, 8, 9, 10, 11, 12, 13, 14, 15, 16, 17, 18, 19, 20, 21, 22, 23, 24] (fun i => [(6, .int .i64 i)]) (fun i wl => i ≤ m.length ∧ (∀ x ∈ m.take i, x.k ≠ k) ∧ St X w wl [] [Ent.blk b3 44 (kc k)] [SlE s m]) (fun i => m.length - i) 0 ⟨rfl, trivial⟩ ⟨Nat.zero_le _, by simp, H⟩ ?_
  intro i γ0 w2 hI
  try dsimp only at hI
  obtain ⟨hi, hall, H⟩ := hI
  refine WE.seq ?_
  refine WE.seq_reg ?_
  refine WL.mv rfl rfl ?_
  refine WL.mv rfl rfl ?_
  refine WL.pv (PV.lenS (by exact H.p 0 rfl : SlE s m _) TrydT.sl22 rfl) rfl ?_
  refine WL.pv (PV.lss rfl rfl rfl) rfl ?_
  refine WL.nil ?_
  refine WE.cond rfl (fun hc10 => ?_) (fun hc10 => ?_)
  · skip
    try simp only [decide_eq_true_eq, decide_eq_false_iff_not, ne_eq, Decidable.not_not, Bool.not_eq_true', Bool.not_eq_false', Bool.and_eq_true, Bool.or_eq_true, Bool.not_not, Bool.and_eq_false_iff, Bool.or_eq_false_iff, Int.not_lt, Int.not_le] at hc10
    have hlt : i < m.length := by omega
    have hkk := hkl _ (List.getElem_mem hlt)
    refine WE.skip ?_
    refine WE.seq ?_
    refine WE.block ?_
    refine WE.seq_draw (.take 0 (.take 1 (.take 2 (.take 3 (.take 4 (.take 5 (.take 6 .done))))))) TrydT.mixed (by kernel_rfl) ?_
    replace H := H.out (Out.drew _)
    refine WP.mv rfl rfl rfl ?_
    refine WP.mv rfl rfl rfl ?_
    refine WP.take_pure rfl rfl (PV.idxS rfl (by exact H.p 0 rfl : SlE s m _) TrydT.sl22 TrydT.sz47 rfl rfl (by omega) (by omega)) ?_
    refine WP.take_pure rfl rfl (PV.fieldAddrA rfl TrydT.fd47_0 rfl) ?_
    refine WP.readA rfl rfl rfl TrydT.ag44 rfl (SlE.rdk (H.p 0 rfl) hkl i hlt) (by (rw [TrydT.sz44]; refine congrArg some ?_; (simp only [kc_length, kw_length, List.length_replicate, List.length_append, List.length_cons, List.length_nil, cutI_length, shaOf_length, dig_length, valD_length, rootM_length]; omega))) ?_
    refine WP.readA rfl rfl rfl TrydT.ag44 rfl (by exact Blk.segAt (H.l 0 rfl) (Seg.all _) (by rfl)) (by (rw [TrydT.sz44]; refine congrArg some ?_; (simp only [kc_length, kw_length, List.length_replicate, List.length_append, List.length_cons, List.length_nil, cutI_length, shaOf_length, dig_length, valD_length, rootM_length]; omega))) ?_
    refine WP.take_pure rfl rfl (PV.eqlB rfl TrydT.ar44 TrydT.in5 TrydT.sz5 (by kernel_rfl) rfl rfl (by assumption) (by assumption)) ?_
    refine WP.done ?_
    refine WE.cond rfl (fun hc19 => ?_) (fun hc19 => ?_)
    · skip
      try simp only [decide_eq_true_eq, decide_eq_false_iff_not, ne_eq, Decidable.not_not, Bool.not_eq_true', Bool.not_eq_false', Bool.and_eq_true, Bool.or_eq_true, Bool.not_not, Bool.and_eq_false_iff, Bool.or_eq_false_iff, Int.not_lt, Int.not_le] at hc19
      have he : m[i].k = k := by exact hc19
      refine WE.seq_reg ?_
      refine WL.mv rfl rfl ?_
      refine WL.mv rfl rfl ?_
      refine WL.pv (PV.idxS rfl (by exact H.p 0 rfl : SlE s m _) TrydT.sl22 TrydT.sz47 rfl rfl (by omega) (by omega)) rfl ?_
      refine WL.pv (PV.fieldAddrA rfl TrydT.fd47_1 rfl) rfl ?_
      refine WL.load1 rfl TrydT.ag45 rfl rfl (SlE.rdv (H.p 0 rfl) hkl i hlt) ?_
      refine WL.as rfl rfl ?_
      refine WL.as rfl rfl ?_
      refine WL.nil ?_
      refine WE.ret ?_
      refine ⟨[_, _], _, .nil _, ⟨rfl, rfl, trivial⟩, ?_⟩
      refine ⟨?_, H.toOut0⟩
      rw [getR, getM_here hlt hall he]; rfl
    · skip
      try simp only [decide_eq_true_eq, decide_eq_false_iff_not, ne_eq, Decidable.not_not, Bool.not_eq_true', Bool.not_eq_false', Bool.and_eq_true, Bool.or_eq_true, Bool.not_not, Bool.and_eq_false_iff, Bool.or_eq_false_iff, Int.not_lt, Int.not_le] at hc19
      have he : m[i].k ≠ k := by exact hc19
      refine WE.skip ?_
      refine WE.reg ?_
      refine WL.mv rfl rfl ?_
      refine WL.pv (PV.add64 rfl rfl rfl (by omega) (by omega)) rfl ?_
      refine WL.as rfl rfl ?_
      refine WL.nil ?_
      exact ⟨i + 1, (by repeat (first | with_reducible exact Off.refl _ _ | refine Off.upd rfl ?_ | refine Off.setAll rfl ?_ | refine Off.forget' rfl ?_)), ⟨rfl, trivial⟩, rfl, ⟨by omega, (by rw [List.take_succ_eq_append_getElem hlt]; intro x hx; rcases List.mem_append.1 hx with h | h; exact hall x h; simp at h; subst h; exact he), H⟩, (by omega)⟩
  · skip
    try simp only [decide_eq_true_eq, decide_eq_false_iff_not, ne_eq, Decidable.not_not, Bool.not_eq_true', Bool.not_eq_false', Bool.and_eq_true, Bool.or_eq_true, Bool.not_not, Bool.and_eq_false_iff, Bool.or_eq_false_iff, Int.not_lt, Int.not_le] at hc10
    have hke : m.take i = m := List.take_of_length_le (by omega)
    refine WE.exit ?_
    refine WE.seq_reg ?_
    refine WL.as rfl rfl ?_
    refine WL.as rfl rfl ?_
    refine WL.nil ?_
    refine WE.ret ?_
    refine ⟨[_, _], _, .nil _, ⟨rfl, rfl, trivial⟩, ?_⟩
    refine ⟨?_, H.toOut0⟩
    rw [hke] at hall
    rw [getR, getM_none hall]; rfl

end Go.Sp.Tryd

