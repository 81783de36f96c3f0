/- Walks of functions, printed by a program of this session (gen.py) from notes on each function. -/
import Derived.Test.YthdcihakjomagaaDoorG7
set_option maxRecDepth 100000
set_option maxHeartbeats 1000000
set_option linter.unusedVariables false
set_option linter.unusedSimpArgs false
namespace Go.Sp.Tryd
open Go.Proofs Go.RowKit Go.Sp

def sibL (T : Tr) (k : List UInt8) (n : Nat) : List Value := (List.range n).map fun j => ((T.atN k 0 j).beside k j).ptr
def wayL (T : Tr) (k : List UInt8) (n : Nat) : List Value := (List.range n).map fun j => (T.atN k 0 j).ptr
theorem sibL_len (T : Tr) (k : List UInt8) (n : Nat) : (sibL T k n).length = n := by simp [sibL]
theorem wayL_len (T : Tr) (k : List UInt8) (n : Nat) : (wayL T k n).length = n := by simp [wayL]
theorem sibL_snoc (T : Tr) (k : List UInt8) (n : Nat) : sibL T k (n + 1) = sibL T k n ++ [((T.atN k 0 n).beside k n).ptr] := by simp [sibL, List.range_succ]
theorem wayL_snoc (T : Tr) (k : List UInt8) (n : Nat) : wayL T k (n + 1) = wayL T k n ++ [(T.atN k 0 n).ptr] := by simp [wayL, List.range_succ]
theorem sibL_get (T : Tr) (k : List UInt8) (n i : Nat) (h : i < (sibL T k n).length) : (sibL T k n)[i] = ((T.atN k 0 i).beside k i).ptr := by simp [sibL]
theorem wayL_get (T : Tr) (k : List UInt8) (n i : Nat) (h : i < (wayL T k n).length) : (wayL T k n)[i] = (T.atN k 0 i).ptr := by simp [wayL]

end Go.Sp.Tryd

set_option maxRecDepth 100000
set_option maxHeartbeats 1000000
set_option linter.unusedVariables false
set_option linter.unusedSimpArgs false
namespace Go.Sp.Tryd
open Go.Proofs Go.RowKit Go.Sp

def comF (a b : List UInt8) : Nat → Nat → Nat
  | 0, i => i
  | f + 1, i => if bitN a i = bitN b i then comF a b f (i + 1) else i
def comN (a b : List UInt8) : Nat := comF a b 256 0
structure IsCom (a b : List UInt8) (c : Nat) : Prop where
  le : c ≤ 256
  eq : ∀ i, i < c → bitN a i = bitN b i
  ne : c < 256 → bitN a c ≠ bitN b c
theorem comF_is (a b : List UInt8) : ∀ (f i : Nat), f + i = 256 → (∀ j, j < i → bitN a j = bitN b j) → IsCom a b (comF a b f i) := by
  intro f
  induction f with
  | zero => intro i h he; exact ⟨by show i ≤ 256; omega, he, fun hl => absurd hl (by show ¬ i < 256; omega)⟩
  | succ f ih =>
    intro i h he
    unfold comF
    by_cases hb : bitN a i = bitN b i
    · rw [if_pos hb]
      refine ih (i + 1) (by omega) fun j hj => ?_
      by_cases e : j = i
      · subst e; exact hb
      · exact he j (by omega)
    · rw [if_neg hb]
      exact ⟨by omega, he, fun _ => hb⟩
theorem comN_is (a b : List UInt8) : IsCom a b (comN a b) := comF_is a b 256 0 rfl fun _ h => by omega
theorem IsCom.uniq {a b : List UInt8} {c d : Nat} (h : IsCom a b c) (g : IsCom a b d) : c = d := by
  have h1 := h.le
  have h2 := g.le
  rcases Nat.lt_trichotomy c d with hl | hl | hl
  · exact absurd (g.eq c hl) (h.ne (by omega))
  · exact hl
  · exact absurd (h.eq d hl) (g.ne (by omega))
theorem comN_le (a b : List UInt8) : comN a b ≤ 256 := (comN_is a b).le
theorem comN_succ {a b : List UInt8} {c : Nat} (hc : c < 256) : c + 1 ≤ comN a b ↔ c ≤ comN a b ∧ bitN a c = bitN b c := by
  have h := comN_is a b
  constructor
  · intro hl; exact ⟨by omega, h.eq c (by omega)⟩
  · rintro ⟨h1, h2⟩
    rcases Nat.lt_or_ge c (comN a b) with hl | hl
    · exact hl
    · have e : comN a b = c := by omega
      exact absurd (e ▸ h2 : bitN a (comN a b) = bitN b (comN a b)) (h.ne (by omega))
theorem pre_com {a b : List UInt8} (ha : a.length = 32) (hb : b.length = 32) : ∀ d, d ≤ 256 → (pre d a = pre d b ↔ d ≤ comN a b) := by
  intro d
  induction d with
  | zero => intro _; rw [pre_zero a ha, pre_zero b hb]; simp
  | succ d ih =>
    intro hd
    have h1 := bitN_lt a d
    have h2 := bitN_lt b d
    rw [pre_succ a ha d (by omega), pre_succ b hb d (by omega), comN_succ (by omega), ← ih (by omega)]
    constructor
    · intro h; omega
    · rintro ⟨h3, h4⟩; rw [h3, h4]
theorem comN_full {a b : List UInt8} (ha : a.length = 32) (hb : b.length = 32) : 256 ≤ comN a b ↔ a = b := by
  rw [← pre_com ha hb 256 (by omega), pre_full, pre_full]
  exact ⟨num_inj a b (by rw [ha, hb]), fun h => by rw [h]⟩
def underM (m : List En) (k : List UInt8) (c : Nat) : List En := m.filter fun e => decide (c ≤ comN e.k k)
theorem underM_mem {m : List En} {k : List UInt8} {c : Nat} {e : En} : e ∈ underM m k c ↔ e ∈ m ∧ c ≤ comN e.k k := by simp [underM]
theorem underM_zero (m : List En) (k : List UInt8) : underM m k 0 = m := by simp [underM]
theorem underM_succ (m : List En) (k : List UInt8) {c : Nat} (hc : c < 256) : partM (underM m k c) c (bitN k c) = underM m k (c + 1) := by
  unfold partM underM
  rw [List.filter_filter]
  apply List.filter_congr
  intro e _
  have := comN_succ (a := e.k) (b := k) hc
  by_cases h1 : bitN e.k c = bitN k c <;> by_cases h2 : c ≤ comN e.k k <;> simp [h1, h2, this]
theorem at_under {m : List En} {k : List UInt8} : ∀ i, i ≤ 256 → atM k 0 m i = underM m k i
  | 0, _ => (underM_zero m k).symm
  | i + 1, h => by
    show partM (atM k 0 m i) (i + 0) (bitN k (i + 0)) = _
    rw [at_under i (by omega), Nat.add_zero, underM_succ m k (by omega)]
theorem under_pm {m : List En} {k : List UInt8} {c : Nat} (h : Pm 0 m) (hk : k.length = 32) (hc : c ≤ 256) : Pm c (underM m k c) where
  le := hc
  kl := fun e he => h.kl e (underM_mem.1 he).1
  dis := h.dis.filter _
  com := fun a ha b hb => by
    rw [(pre_com (h.kl a (underM_mem.1 ha).1) hk c hc).2 (underM_mem.1 ha).2, (pre_com (h.kl b (underM_mem.1 hb).1) hk c hc).2 (underM_mem.1 hb).2]
theorem underM_snoc (m : List En) (k : List UInt8) (c i : Nat) (h : i < m.length) : underM (m.take (i + 1)) k c = underM (m.take i) k c ++ (if c ≤ comN m[i].k k then [m[i]] else []) := by
  unfold underM
  rw [List.take_succ_eq_append_getElem h, List.filter_append]
  by_cases hb : c ≤ comN m[i].k k <;> simp [hb]
theorem underM_le (m : List En) (k : List UInt8) (c : Nat) : (underM m k c).length ≤ m.length := List.length_filter_le _ _
def Tr.und (T : Tr) (k : List UInt8) (c : Nat) : Tr := if c ≤ T.dp k 0 then T.atN k 0 c else if (T.fin k).er.kind = 1 ∧ comN (T.fin k).key k < c then .nil else T.fin k
theorem und_er {T : Tr} {m : List En} {k : List UInt8} {c : Nat} (hT : T.er = grow 0 m) (hp : Pm 0 m) (hc : c ≤ 256) : (T.und k c).er = grow c (underM m k c) := by
  unfold Tr.und
  by_cases h : c ≤ T.dp k 0
  · rw [if_pos h, (at_er hT hp c h).1, at_under c hc]; rfl
  · rw [if_neg h]
    have hl := at_end (k := k) hT hp
    have he := (at_er (k := k) hT hp _ (Nat.le_refl _)).1
    have hd : T.dp k 0 ≤ 256 := by omega
    rw [at_under _ hd] at hl he
    have hu : underM m k c = (underM m k (T.dp k 0)).filter fun e => decide (c ≤ comN e.k k) := by
      unfold underM
      rw [List.filter_filter]
      apply List.filter_congr
      intro e _
      by_cases h1 : c ≤ comN e.k k
      · simp [h1]; omega
      · simp [h1]
    have hf : (T.fin k).er = _ := he
    match hm : underM m k (T.dp k 0), hl with
    | [], _ =>
      rw [hm, grow_nil] at hf
      rw [hu, hm, Tr.nil_er hf, if_neg (by simp [Tr.er, Sh.kind])]
      exact (grow_nil c).symm
    | [e], _ =>
      rw [hm, grow_one] at hf
      obtain ⟨a, s, e2⟩ := Tr.leaf_of hf
      rw [hu, hm, e2]
      by_cases hcm : comN e.k k < c
      · rw [if_pos ⟨rfl, hcm⟩]
        have : ([e].filter fun e => decide (c ≤ comN e.k k)) = [] := by simp; omega
        rw [this, grow_nil]; rfl
      · rw [if_neg (by rintro ⟨_, h⟩; exact hcm h)]
        have : ([e].filter fun e => decide (c ≤ comN e.k k)) = [e] := by simp; omega
        rw [this, grow_one]; rfl
    | _ :: _ :: _, h => simp at h

end Go.Sp.Tryd

set_option maxRecDepth 100000
set_option maxHeartbeats 1000000
set_option linter.unusedVariables false
set_option linter.unusedSimpArgs false
namespace Go.Sp.Tryd
open Go.Proofs Go.RowKit Go.Sp

def len8 (n : Nat) : Nat := if n = 0 then 0 else Nat.log2 n + 1
theorem len8_tab : ∀ x : Fin 256, (⟨#[0, 1, 2, 2, 3, 3, 3, 3, 4, 4, 4, 4, 4, 4, 4, 4, 5, 5, 5, 5, 5, 5, 5, 5, 5, 5, 5, 5, 5, 5, 5, 5, 6, 6, 6, 6, 6, 6, 6, 6, 6, 6, 6, 6, 6, 6, 6, 6, 6, 6, 6, 6, 6, 6, 6, 6, 6, 6, 6, 6, 6, 6, 6, 6, 7, 7, 7, 7, 7, 7, 7, 7, 7, 7, 7, 7, 7, 7, 7, 7, 7, 7, 7, 7, 7, 7, 7, 7, 7, 7, 7, 7, 7, 7, 7, 7, 7, 7, 7, 7, 7, 7, 7, 7, 7, 7, 7, 7, 7, 7, 7, 7, 7, 7, 7, 7, 7, 7, 7, 7, 7, 7, 7, 7, 7, 7, 7, 7, 8, 8, 8, 8, 8, 8, 8, 8, 8, 8, 8, 8, 8, 8, 8, 8, 8, 8, 8, 8, 8, 8, 8, 8, 8, 8, 8, 8, 8, 8, 8, 8, 8, 8, 8, 8, 8, 8, 8, 8, 8, 8, 8, 8, 8, 8, 8, 8, 8, 8, 8, 8, 8, 8, 8, 8, 8, 8, 8, 8, 8, 8, 8, 8, 8, 8, 8, 8, 8, 8, 8, 8, 8, 8, 8, 8, 8, 8, 8, 8, 8, 8, 8, 8, 8, 8, 8, 8, 8, 8, 8, 8, 8, 8, 8, 8, 8, 8, 8, 8, 8, 8, 8, 8, 8, 8, 8, 8, 8, 8, 8, 8, 8, 8, 8, 8, 8, 8, 8, 8, 8, 8, 8, 8, 8, 8, 8, 8]⟩ : ByteArray)[x.val]? = some (UInt8.ofNat (len8 x.val)) := by decide +kernel
theorem len8_get (x : UInt8) : (⟨#[0, 1, 2, 2, 3, 3, 3, 3, 4, 4, 4, 4, 4, 4, 4, 4, 5, 5, 5, 5, 5, 5, 5, 5, 5, 5, 5, 5, 5, 5, 5, 5, 6, 6, 6, 6, 6, 6, 6, 6, 6, 6, 6, 6, 6, 6, 6, 6, 6, 6, 6, 6, 6, 6, 6, 6, 6, 6, 6, 6, 6, 6, 6, 6, 7, 7, 7, 7, 7, 7, 7, 7, 7, 7, 7, 7, 7, 7, 7, 7, 7, 7, 7, 7, 7, 7, 7, 7, 7, 7, 7, 7, 7, 7, 7, 7, 7, 7, 7, 7, 7, 7, 7, 7, 7, 7, 7, 7, 7, 7, 7, 7, 7, 7, 7, 7, 7, 7, 7, 7, 7, 7, 7, 7, 7, 7, 7, 7, 8, 8, 8, 8, 8, 8, 8, 8, 8, 8, 8, 8, 8, 8, 8, 8, 8, 8, 8, 8, 8, 8, 8, 8, 8, 8, 8, 8, 8, 8, 8, 8, 8, 8, 8, 8, 8, 8, 8, 8, 8, 8, 8, 8, 8, 8, 8, 8, 8, 8, 8, 8, 8, 8, 8, 8, 8, 8, 8, 8, 8, 8, 8, 8, 8, 8, 8, 8, 8, 8, 8, 8, 8, 8, 8, 8, 8, 8, 8, 8, 8, 8, 8, 8, 8, 8, 8, 8, 8, 8, 8, 8, 8, 8, 8, 8, 8, 8, 8, 8, 8, 8, 8, 8, 8, 8, 8, 8, 8, 8, 8, 8, 8, 8, 8, 8, 8, 8, 8, 8, 8, 8, 8, 8, 8, 8, 8, 8]⟩ : ByteArray)[x.toNat]? = some (UInt8.ofNat (len8 x.toNat)) := len8_tab ⟨x.toNat, x.toNat_lt⟩
theorem len8_spec : ∀ x : Fin 256, len8 x.val ≤ 8 ∧ (x.val ≠ 0 → 1 ≤ len8 x.val ∧ x.val.testBit (len8 x.val - 1) = true ∧ ∀ j : Fin 8, len8 x.val ≤ j.val → x.val.testBit j.val = false) := by decide +kernel
theorem len8_le (x : UInt8) : len8 x.toNat ≤ 8 := (len8_spec ⟨x.toNat, x.toNat_lt⟩).1
theorem bitN_test (k : List UInt8) (i : Nat) : bitN k i = ((k.getD (i / 8) 0).toNat.testBit (7 - i % 8)).toNat := by
  unfold bitN
  rw [Nat.toNat_testBit]
theorem com_byte {a b : List UInt8} (ha : a.length = 32) (hb : b.length = 32) {i : Nat} (hi : i < 32) (he : ∀ j (h : j < i), a.getD j 0 = b.getD j 0) (hx : (a.getD i 0 ^^^ b.getD i 0).toNat ≠ 0) :
    IsCom a b (8 * i + (8 - len8 (a.getD i 0 ^^^ b.getD i 0).toNat)) := by
  have h1 := (len8_spec ⟨(a.getD i 0 ^^^ b.getD i 0).toNat, UInt8.toNat_lt _⟩)
  have h2 := h1.2 hx
  dsimp only at h1 h2
  generalize hL : len8 (a.getD i 0 ^^^ b.getD i 0).toNat = L at *
  refine ⟨by omega, fun j hj => ?_, fun _ => ?_⟩
  · rw [bitN_test, bitN_test]
    rcases Nat.lt_or_ge j (8 * i) with h | h
    · rw [he (j / 8) (by omega)]
    · have e : j / 8 = i := by omega
      have h3 := h2.2.2 ⟨7 - j % 8, by omega⟩ (by dsimp only; omega)
      rw [UInt8.toNat_xor, Nat.testBit_xor] at h3
      rw [e]
      congr 1
      dsimp only at h3
      revert h3
      cases (a.getD i 0).toNat.testBit (7 - j % 8) <;> cases (b.getD i 0).toNat.testBit (7 - j % 8) <;> simp
  · rw [bitN_test, bitN_test, show (8 * i + (8 - L)) / 8 = i by omega, show 7 - (8 * i + (8 - L)) % 8 = L - 1 by omega]
    have h3 := h2.2.1
    rw [UInt8.toNat_xor, Nat.testBit_xor] at h3
    revert h3
    cases (a.getD i 0).toNat.testBit (L - 1) <;> cases (b.getD i 0).toNat.testBit (L - 1) <;> simp
theorem xor8 (a b : UInt8) : IntKind.u8.wrap ((BitVec.ofInt IntKind.u8.bits (a.toNat : Int) ^^^ BitVec.ofInt IntKind.u8.bits (b.toNat : Int)).toNat : Int) = ((a ^^^ b).toNat : Int) := by
  rw [wrap8]
  have e : (BitVec.ofInt IntKind.u8.bits (a.toNat : Int) ^^^ BitVec.ofInt IntKind.u8.bits (b.toNat : Int)).toNat = (a ^^^ b).toNat := by
    show (BitVec.ofInt 8 (a.toNat : Int) ^^^ BitVec.ofInt 8 (b.toNat : Int)).toNat = _
    rw [BitVec.ofInt_natCast, BitVec.ofInt_natCast, BitVec.toNat_xor, UInt8.toNat_xor]
    have h1 := a.toNat_lt
    have h2 := b.toNat_lt
    simp
  rw [e]
  have := (a ^^^ b).toNat_lt
  omega
theorem bytes_eq {a b : List UInt8} (ha : a.length = 32) (hb : b.length = 32) (he : ∀ j, j < 32 → a.getD j 0 = b.getD j 0) : a = b := by
  apply List.ext_getElem (by omega)
  intro i h1 h2
  have := he i (by omega)
  rwa [getD_at h1, getD_at h2] at this

theorem Len8_c {X : Nat → Prop} {w : World} {x : UInt8} (hX : ∀ b, X b → b < w.heap.size) :
    Ret Tryd.prog 115 [.int .u8 (x.toNat : Int)].toArray w fun v w' => v = .int .i64 (len8 x.toNat : Int) ∧ Out Nil w w' := by
  refine Ret.of_body (N := 6) Tryd.func115 rfl rfl (by simp) ?_
  have H := St.begin hX
  have hle := len8_le x
  refine WE.seq_reg ?_
  refine WL.as rfl rfl ?_
  refine WL.nil ?_
  refine WE.seq_reg ?_
  refine WL.mv rfl rfl ?_
  refine WL.pv (PV.indexStr (i := x.toNat) rfl (by kernel_rfl) rfl rfl (len8_get x)) rfl ?_
  refine WL.pv (PV.eq (v' := .int .i64 ((len8 x.toNat : Nat) : Int)) (PV.conv64 rfl TrydT.in5 TrydT.in3 rfl (by omega) (by have := (UInt8.ofNat (len8 x.toNat)).toNat_lt; omega)) (by congr 1; rw [UInt8.toNat_ofNat_of_lt' (by show _ < 256; omega)])) rfl ?_
  refine WL.as rfl rfl ?_
  refine WL.nil ?_
  refine WE.ret ?_
  refine ⟨[_], _, .nil _, ⟨rfl, trivial⟩, ?_⟩
  exact ⟨rfl, H.toOut0⟩

theorem LZ8_c {X : Nat → Prop} {w : World} {x : UInt8} (hX : ∀ b, X b → b < w.heap.size) :
    Ret Tryd.prog 112 [.int .u8 (x.toNat : Int)].toArray w fun v w' => v = .int .i64 ((8 - len8 x.toNat : Nat) : Int) ∧ Out Nil w w' := by
  refine Ret.of_body (N := 6) Tryd.func112 rfl rfl (by simp) ?_
  have H := St.begin hX
  have hle := len8_le x
  refine WE.seq_reg ?_
  refine WL.as rfl rfl ?_
  refine WL.nil ?_
  refine WE.seq_reg ?_
  refine WL.mv rfl rfl ?_
  refine WL.call TrydT.fb115 rfl (Len8_c (x := x) H.yylt  ) ?_
  rintro _ w1 ⟨rfl, hO⟩
  replace H := H.out hO
  refine WL.pv (PV.sub64 rfl rfl rfl (by omega) (by omega)) rfl ?_
  refine WL.as rfl rfl ?_
  refine WL.nil ?_
  refine WE.ret ?_
  refine ⟨[_], _, .nil _, ⟨rfl, trivial⟩, ?_⟩
  refine ⟨?_, H.toOut0⟩
  show Value.int .i64 _ = Value.int .i64 _
  congr 1; omega

theorem refCommon_c {X : Nat → Prop} {w : World} {a b : List UInt8} (hX : ∀ b, X b → b < w.heap.size) (ha : a.length = 32) (hb : b.length = 32) :
    Ret Tryd.prog 55 [.agg (kc a).toArray, .agg (kc b).toArray].toArray w fun v w' => v = .int .i64 (comN a b : Int) ∧ Out Nil w w' := by
  refine Ret.of_body (N := 20) Tryd.func55 rfl rfl (by simp) ?_
  have H := St.begin hX
  refine WE.seq_reg ?_
  refine WL.box (l := kc a) H rfl (by rfl) rfl ?_
  intro b2 w1 H
  refine WL.box (l := kc b) H rfl (by rfl) rfl ?_
  intro b3 w2 H
  refine WL.as rfl rfl ?_
  refine WL.nil ?_
  refine WE.seq_reg ?_
  refine WL.as rfl rfl ?_
  refine WL.nil ?_
  refine WE.seq ?_
  refine WE.block ?_
  refine WE.loop (α := Nat) [5, 6, 7, 8, 9, 10, 11, 12, 13, 14, 15, 16, 17, 18] (fun n => [(5, .int .i64 n)]) (fun n wl => n ≤ 256 ∧ (∀ j, j < n → bitN a j = bitN b j) ∧ St X w wl [] [Ent.blk b3 31 (kc b), Ent.blk b2 31 (kc a)] []) (fun n => 256 - n) 0 ⟨rfl, trivial⟩ ⟨Nat.zero_le _, fun _ h => by omega, H⟩ ?_
  intro n γ0 w3 hI
  try dsimp only at hI
  obtain ⟨hle, hall, H⟩ := hI
  refine WE.seq ?_
  refine WE.seq_draw (.take 0 (.take 1 (.take 2 (.take 3 (.take 4 (.take 6 (.take 7 (.pick1 5 (.pick1 8 (.take 9 (.take 10 .done))))))))))) TrydT.mixed (by kernel_rfl) ?_
  replace H := H.out (Out.drew _)
  refine WP.mv rfl rfl rfl ?_
  refine WP.take_pure rfl rfl (PV.lss rfl rfl rfl) ?_
  refine WP.mv rfl rfl rfl ?_
  refine WP.split (t := 8) rfl (fun hg8 => ?_) (fun hg8 => ?_)
  · skip
    refine WP.known (t := 7) (c := true) rfl hg8 ?_
    try simp only [decide_eq_true_eq, decide_eq_false_iff_not, ne_eq, Decidable.not_not, Bool.not_eq_true', Bool.not_eq_false', Bool.and_eq_true, Bool.or_eq_true, Bool.not_not, Bool.and_eq_false_iff, Bool.or_eq_false_iff, Int.not_lt, Int.not_le] at hg8
    have hn : n < 256 := by omega
    refine WP.readA rfl rfl rfl TrydT.ag31 rfl (by exact Blk.segAt (H.l 1 rfl) (Seg.all _) (by rfl)) (by (rw [TrydT.sz31]; refine congrArg some ?_; (simp only [kc_length, kw_length, List.length_replicate, List.length_append, List.length_cons, List.length_nil, cutI_length, shaOf_length, dig_length, valD_length, rootM_length]; omega))) ?_
    refine WP.mv rfl rfl rfl ?_
    refine WP.readA rfl rfl rfl TrydT.ag31 rfl (by exact Blk.segAt (H.l 0 rfl) (Seg.all _) (by rfl)) (by (rw [TrydT.sz31]; refine congrArg some ?_; (simp only [kc_length, kw_length, List.length_replicate, List.length_append, List.length_cons, List.length_nil, cutI_length, shaOf_length, dig_length, valD_length, rootM_length]; omega))) ?_
    refine WP.mv rfl rfl rfl ?_
    refine WP.pick1 rfl ?_
    refine WL.call TrydT.fb77 rfl (refBitN_c (k := a) (d := n) H.yylt  (by assumption) (by assumption)) ?_
    rintro _ w4 ⟨rfl, hO⟩
    replace H := H.out hO
    refine WL.nil ⟨(List.forall_mem_cons.2 ⟨(fun _ _ => (by exact Blk.segAt (H.l 0 rfl) (Seg.all _) (by rfl))), (List.forall_mem_cons.2 ⟨(by exact (fun h => absurd (show waits _ 5 3 = false from h) (by decide +kernel))), (fun _ h => by cases h)⟩)⟩), ?_⟩
    refine WP.pick1 rfl ?_
    refine WL.call TrydT.fb77 rfl (refBitN_c (k := b) (d := n) H.yylt  (by assumption) (by assumption)) ?_
    rintro _ w5 ⟨rfl, hO⟩
    replace H := H.out hO
    refine WL.nil ⟨(List.forall_mem_cons.2 ⟨(by exact (fun h => absurd (show waits _ 8 6 = false from h) (by decide +kernel))), (List.forall_mem_cons.2 ⟨(by exact (fun h => absurd (show waits _ 8 3 = false from h) (by decide +kernel))), (fun _ h => by cases h)⟩)⟩), ?_⟩
    refine WP.take_pure rfl rfl (PV.eql rfl rfl rfl) ?_
    refine WP.take_pure rfl rfl (PV.pick_t rfl rfl rfl) ?_
    refine WP.done ?_
    refine WE.cond rfl (fun hc16 => ?_) (fun hc16 => ?_)
    · skip
      try simp only [decide_eq_true_eq, decide_eq_false_iff_not, ne_eq, Decidable.not_not, Bool.not_eq_true', Bool.not_eq_false', Bool.and_eq_true, Bool.or_eq_true, Bool.not_not, Bool.and_eq_false_iff, Bool.or_eq_false_iff, Int.not_lt, Int.not_le] at hc16
      have hbit : bitN a n = bitN b n := by omega
      refine WE.skip ?_
      refine WE.block ?_
      refine WE.reg ?_
      refine WL.mv rfl rfl ?_
      refine WL.pv (PV.add64 rfl rfl rfl (by omega) (by omega)) rfl ?_
      refine WL.as rfl rfl ?_
      refine WL.nil ?_
      exact ⟨n + 1, (by repeat (first | with_reducible exact Off.refl _ _ | refine Off.upd rfl ?_ | refine Off.setAll rfl ?_ | refine Off.forget' rfl ?_)), ⟨rfl, trivial⟩, rfl, ⟨by omega, fun j hj => by (by_cases e : j = n; (subst e; exact hbit); exact hall j (by omega)), H⟩, (by omega)⟩
    · skip
      try simp only [decide_eq_true_eq, decide_eq_false_iff_not, ne_eq, Decidable.not_not, Bool.not_eq_true', Bool.not_eq_false', Bool.and_eq_true, Bool.or_eq_true, Bool.not_not, Bool.and_eq_false_iff, Bool.or_eq_false_iff, Int.not_lt, Int.not_le] at hc16
      have hbit : bitN a n ≠ bitN b n := by omega
      refine WE.exit ?_
      refine WE.seq_reg ?_
      refine WL.mv rfl rfl ?_
      refine WL.as rfl rfl ?_
      refine WL.nil ?_
      refine WE.ret ?_
      refine ⟨[_], _, .nil _, ⟨rfl, trivial⟩, ?_⟩
      refine ⟨?_, H.toOut0⟩
      show Value.int .i64 _ = Value.int .i64 _
      rw [(comN_is a b).uniq ⟨hle, hall, fun _ => hbit⟩]
  · skip
    refine WP.known (t := 7) (c := false) rfl hg8 ?_
    try simp only [decide_eq_true_eq, decide_eq_false_iff_not, ne_eq, Decidable.not_not, Bool.not_eq_true', Bool.not_eq_false', Bool.and_eq_true, Bool.or_eq_true, Bool.not_not, Bool.and_eq_false_iff, Bool.or_eq_false_iff, Int.not_lt, Int.not_le] at hg8
    have hn2 : n = 256 := by omega
    refine WP.take_off rfl rfl ?_
    refine WP.take_off rfl rfl ?_
    refine WP.take_off rfl rfl ?_
    refine WP.take_off rfl rfl ?_
    refine WP.pick1 rfl ?_
    refine WL.off rfl ?_
    refine WL.nil ⟨(fun _ h => by cases h), ?_⟩
    refine WP.pick1 rfl ?_
    refine WL.off rfl ?_
    refine WL.nil ⟨(fun _ h => by cases h), ?_⟩
    refine WP.take_off rfl rfl ?_
    refine WP.take_pure rfl rfl (PV.pick_f rfl rfl rfl) ?_
    refine WP.done ?_
    refine WE.cond_f rfl ?_
    refine WE.exit ?_
    refine WE.seq_reg ?_
    refine WL.mv rfl rfl ?_
    refine WL.as rfl rfl ?_
    refine WL.nil ?_
    refine WE.ret ?_
    refine ⟨[_], _, .nil _, ⟨rfl, trivial⟩, ?_⟩
    refine ⟨?_, H.toOut0⟩
    show Value.int .i64 _ = Value.int .i64 _
    rw [(comN_is a b).uniq ⟨hle, hall, fun h => by omega⟩]

theorem Common_c {X : Nat → Prop} {w : World} {a b : List UInt8} (hX : ∀ b, X b → b < w.heap.size) (ha : a.length = 32) (hb : b.length = 32) :
    Ret Tryd.prog 106 [.agg (kc a).toArray, .agg (kc b).toArray].toArray w fun v w' => v = .int .i64 (comN a b : Int) ∧ Out Nil w w' := by
  refine Ret.of_body (N := 28) Tryd.func106 rfl rfl (by simp) ?_
  have H := St.begin hX
  refine WE.seq_reg ?_
  refine WL.box (l := kc a) H rfl (by rfl) rfl ?_
  intro b2 w1 H
  refine WL.box (l := kc b) H rfl (by rfl) rfl ?_
  intro b3 w2 H
  refine WL.as rfl rfl ?_
  refine WL.nil ?_
  refine WE.seq ?_
  refine WE.seq_reg ?_
  refine WL.loadR rfl TrydT.ag31 rfl rfl (by exact Blk.segAt (H.l 1 rfl) (Seg.all _) (by rfl)) (by (rw [TrydT.sz31]; refine congrArg some ?_; (simp only [kc_length, kw_length, List.length_replicate, List.length_append, List.length_cons, List.length_nil, cutI_length, shaOf_length, dig_length, valD_length, rootM_length]; omega))) ?_
  refine WL.loadR rfl TrydT.ag31 rfl rfl (by exact Blk.segAt (H.l 0 rfl) (Seg.all _) (by rfl)) (by (rw [TrydT.sz31]; refine congrArg some ?_; (simp only [kc_length, kw_length, List.length_replicate, List.length_append, List.length_cons, List.length_nil, cutI_length, shaOf_length, dig_length, valD_length, rootM_length]; omega))) ?_
  refine WL.pv (PV.eqlB rfl TrydT.ar31 TrydT.in5 TrydT.sz5 (by kernel_rfl) rfl rfl (by assumption) (by assumption)) rfl ?_
  refine WL.nil ?_
  refine WE.cond rfl (fun hc9 => ?_) (fun hc9 => ?_)
  · skip
    try simp only [decide_eq_true_eq, decide_eq_false_iff_not, ne_eq, Decidable.not_not, Bool.not_eq_true', Bool.not_eq_false', Bool.and_eq_true, Bool.or_eq_true, Bool.not_not, Bool.and_eq_false_iff, Bool.or_eq_false_iff, Int.not_lt, Int.not_le] at hc9
    have hab : a = b := by exact hc9
    refine WE.seq_reg ?_
    refine WL.as rfl rfl ?_
    refine WL.nil ?_
    refine WE.ret ?_
    refine ⟨[_], _, .nil _, ⟨rfl, trivial⟩, ?_⟩
    refine ⟨?_, H.toOut0⟩
    show Value.int .i64 _ = Value.int .i64 _
    have := (comN_full ha hb).2 hab
    have := comN_le a b
    congr 1; omega
  · skip
    try simp only [decide_eq_true_eq, decide_eq_false_iff_not, ne_eq, Decidable.not_not, Bool.not_eq_true', Bool.not_eq_false', Bool.and_eq_true, Bool.or_eq_true, Bool.not_not, Bool.and_eq_false_iff, Bool.or_eq_false_iff, Int.not_lt, Int.not_le] at hc9
    have hab : a ≠ b := by exact hc9
    refine WE.skip ?_
    refine WE.seq ?_
    refine WE.seq_reg ?_
    refine WL.mv rfl rfl ?_
    refine WL.nil ?_
    refine WE.block ?_
    refine WE.loop (α := Nat) [4, 5, 6, 10, 11, 12, 13, 14, 15, 16, 17, 18, 19, 20, 21, 22, 23, 24, 25, 26, 27] (fun i => [(10, .int .i64 i)]) (fun i wl => i ≤ 32 ∧ (∀ j, j < i → a.getD j 0 = b.getD j 0) ∧ St X w wl [] [Ent.blk b3 31 (kc b), Ent.blk b2 31 (kc a)] []) (fun i => 32 - i) 0 ⟨rfl, trivial⟩ ⟨Nat.zero_le _, fun _ h => by omega, H⟩ ?_
    intro i γ0 w3 hI
    try dsimp only at hI
    obtain ⟨hle, hall, H⟩ := hI
    refine WE.seq_reg ?_
    refine WL.pv (PV.lss rfl rfl rfl) rfl ?_
    refine WL.nil ?_
    refine WE.seq ?_
    refine WE.cond rfl (fun hc11 => ?_) (fun hc11 => ?_)
    · skip
      try simp only [decide_eq_true_eq, decide_eq_false_iff_not, ne_eq, Decidable.not_not, Bool.not_eq_true', Bool.not_eq_false', Bool.and_eq_true, Bool.or_eq_true, Bool.not_not, Bool.and_eq_false_iff, Bool.or_eq_false_iff, Int.not_lt, Int.not_le] at hc11
      have hlt : i < 32 := by omega
      refine WE.skip ?_
      refine WE.seq ?_
      refine WE.block ?_
      refine WE.seq_reg ?_
      refine WL.mv rfl rfl ?_
      refine WL.as rfl rfl ?_
      refine WL.nil ?_
      refine WE.seq_draw (.take 0 (.take 1 (.take 2 (.take 3 (.take 4 (.take 5 (.take 6 (.take 7 .done)))))))) TrydT.mixed (by kernel_rfl) ?_
      replace H := H.out (Out.drew _)
      refine WP.mv rfl rfl rfl ?_
      refine WP.take_pure rfl rfl (PV.indexArr rfl TrydT.ar31 TrydT.sz5 rfl rfl (by omega) (by omega)) ?_
      refine WP.take_read rfl rfl (RV.loadOne rfl TrydT.ag5 rfl) (Blk.bytD (H.l 1 rfl) i (by omega) (by omega)) ?_
      refine WP.mv rfl rfl rfl ?_
      refine WP.take_pure rfl rfl (PV.indexArr rfl TrydT.ar31 TrydT.sz5 rfl rfl (by omega) (by omega)) ?_
      refine WP.take_read rfl rfl (RV.loadOne rfl TrydT.ag5 rfl) (Blk.bytD (H.l 0 rfl) i (by omega) (by omega)) ?_
      refine WP.take_pure rfl rfl (PV.eq (v' := .int .u8 ((a.getD i 0 ^^^ b.getD i 0).toNat : Int)) (PV.xorw rfl rfl rfl) (congrArg (Value.int .u8) (xor8 _ _))) ?_
      refine WP.as rfl rfl rfl ?_
      refine WP.done ?_
      refine WE.seq_reg ?_
      refine WL.mv rfl rfl ?_
      refine WL.pv (PV.neq rfl rfl rfl) rfl ?_
      refine WL.nil ?_
      refine WE.cond rfl (fun hc21 => ?_) (fun hc21 => ?_)
      · skip
        try simp only [decide_eq_true_eq, decide_eq_false_iff_not, ne_eq, Decidable.not_not, Bool.not_eq_true', Bool.not_eq_false', Bool.and_eq_true, Bool.or_eq_true, Bool.not_not, Bool.and_eq_false_iff, Bool.or_eq_false_iff, Int.not_lt, Int.not_le] at hc21
        have hx : (a.getD i 0 ^^^ b.getD i 0).toNat ≠ 0 := by omega
        have hle8 := len8_le (a.getD i 0 ^^^ b.getD i 0)
        refine WE.seq_reg ?_
        refine WL.mv rfl rfl ?_
        refine WL.pv (PV.mul64 rfl rfl rfl (by omega) (by omega)) rfl ?_
        refine WL.mv rfl rfl ?_
        refine WL.call TrydT.fb112 rfl (LZ8_c (x := a.getD i 0 ^^^ b.getD i 0) H.yylt  ) ?_
        rintro _ w4 ⟨rfl, hO⟩
        replace H := H.out hO
        refine WL.pv (PV.add64 rfl rfl rfl (by omega) (by omega)) rfl ?_
        refine WL.as rfl rfl ?_
        refine WL.nil ?_
        refine WE.ret ?_
        refine ⟨[_], _, .nil _, ⟨rfl, trivial⟩, ?_⟩
        refine ⟨?_, H.toOut0⟩
        show Value.int .i64 _ = Value.int .i64 _
        rw [(comN_is a b).uniq (com_byte ha hb hlt hall hx)]
        congr 1 <;> omega
      · skip
        try simp only [decide_eq_true_eq, decide_eq_false_iff_not, ne_eq, Decidable.not_not, Bool.not_eq_true', Bool.not_eq_false', Bool.and_eq_true, Bool.or_eq_true, Bool.not_not, Bool.and_eq_false_iff, Bool.or_eq_false_iff, Int.not_lt, Int.not_le] at hc21
        have hx : (a.getD i 0 ^^^ b.getD i 0).toNat = 0 := by omega
        have hxe : a.getD i 0 = b.getD i 0 := UInt8.xor_eq_zero_iff.1 (UInt8.toNat_inj.1 hx)
        refine WE.skip ?_
        refine WE.reg ?_
        refine WL.pv (PV.add64 rfl rfl rfl (by omega) (by omega)) rfl ?_
        refine WL.mv rfl rfl ?_
        refine WL.nil ?_
        exact ⟨i + 1, (by repeat (first | with_reducible exact Off.refl _ _ | refine Off.upd rfl ?_ | refine Off.setAll rfl ?_ | refine Off.forget' rfl ?_)), ⟨rfl, trivial⟩, rfl, ⟨by omega, fun j hj => by (by_cases e : j = i; (subst e; exact hxe); exact hall j (by omega)), H⟩, (by omega)⟩
    · skip
      try simp only [decide_eq_true_eq, decide_eq_false_iff_not, ne_eq, Decidable.not_not, Bool.not_eq_true', Bool.not_eq_false', Bool.and_eq_true, Bool.or_eq_true, Bool.not_not, Bool.and_eq_false_iff, Bool.or_eq_false_iff, Int.not_lt, Int.not_le] at hc11
      have hend : i = 32 := by omega
      refine WE.exit ?_
      refine WE.seq_reg ?_
      refine WL.as rfl rfl ?_
      refine WL.nil ?_
      refine WE.ret ?_
      refine ⟨[_], _, .nil _, ⟨rfl, trivial⟩, ?_⟩
      exact absurd (bytes_eq ha hb fun j hj => hall j (by omega)) hab

end Go.Sp.Tryd

set_option maxRecDepth 100000
set_option maxHeartbeats 1000000
set_option linter.unusedVariables false
set_option linter.unusedSimpArgs false
namespace Go.Sp.Tryd
open Go.Proofs Go.RowKit Go.Sp

def undP (T : Tr) (k : List UInt8) (c : Nat) : Nat → Value
  | 0 => .pointer none
  | i + 1 => if (T.atN k 0 i).er.kind = 1 ∧ comN (T.atN k 0 i).key k < c then .pointer none else (T.atN k 0 i).ptr
theorem undP_nil {T : Tr} {k : List UInt8} {c i : Nat} (h1 : (T.atN k 0 i).er.kind = 1) (h2 : comN (T.atN k 0 i).key k < c) : undP T k c (i + 1) = .pointer none := if_pos ⟨h1, h2⟩
theorem undP_not {T : Tr} {k : List UInt8} {c i : Nat} (h : ¬ ((T.atN k 0 i).er.kind = 1 ∧ comN (T.atN k 0 i).key k < c)) : undP T k c (i + 1) = (T.atN k 0 i).ptr := if_neg h
theorem und_done {T : Tr} {k : List UInt8} {c : Nat} (h : T.dp k 0 + 1 ≤ c) : undP T k c (T.dp k 0 + 1) = (T.und k c).ptr := by
  show (if (T.fin k).er.kind = 1 ∧ comN (T.fin k).key k < c then _ else _) = _
  have h2 : T.und k c = if (T.fin k).er.kind = 1 ∧ comN (T.fin k).key k < c then .nil else T.fin k := if_neg (by omega)
  rw [h2]
  by_cases hh : (T.fin k).er.kind = 1 ∧ comN (T.fin k).key k < c
  · rw [if_pos hh, if_pos hh]; rfl
  · rw [if_neg hh, if_neg hh]; rfl
theorem und_at {T : Tr} {k : List UInt8} {c : Nat} (h : c ≤ T.dp k 0) : T.und k c = T.atN k 0 c := if_pos h
theorem und_A {T : Tr} {k : List UInt8} {c : Nat} {bits : Int} {w : World} (h : TrA bits T w) : TrA bits (T.und k c) w := by
  unfold Tr.und
  split
  · exact h.atN _
  · split
    · trivial
    · exact h.fin

end Go.Sp.Tryd

