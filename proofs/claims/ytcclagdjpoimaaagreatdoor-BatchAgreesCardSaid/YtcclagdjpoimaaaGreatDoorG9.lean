/- Walks of functions, printed by a program of this session (gen.py) from notes on each function. -/
import Derived.Test.YtcclagdjpoimaaaGreatDoorG8
import Derived.Test.YtcclagdjpoimaaaGreatDoorNk
import Derived.Test.YtcclagdjpoimaaaGreatDoorMore
set_option maxRecDepth 100000
set_option maxHeartbeats 1000000
set_option linter.unusedVariables false
set_option linter.unusedSimpArgs false
namespace Go.Sp.Tryz
open Go.Proofs Go.RowKit Go.Sp

theorem pre_mono {a b : List UInt8} {d : Nat} (h : num a ≤ num b) : pre d a ≤ pre d b := Nat.div_le_div_right h
theorem lt_of_pre {a b : List UInt8} {d : Nat} (h : pre d a < pre d b) : num a < num b := by
  rcases Nat.lt_or_ge (num a) (num b) with hl | hl
  · exact hl
  · exact absurd (pre_mono (d := d) hl) (by omega)
theorem lt_of_bit {a b : List UInt8} {d : Nat} (ha : a.length = 32) (hb : b.length = 32) (hd : d < 256) (hp : pre d a = pre d b) (h0 : bitN a d = 0) (h1 : bitN b d = 1) : num a < num b := by
  apply lt_of_pre (d := d + 1)
  rw [pre_succ a ha d hd, pre_succ b hb d hd, hp, h0, h1]
  omega
theorem filter_split {α : Type} {p q : α → Bool} : ∀ {l : List α}, (∀ x ∈ l, q x = !p x) → l.Pairwise (fun a b => p b = true → p a = true) → l = l.filter p ++ l.filter q := by
  intro l
  induction l with
  | nil => intro _ _; rfl
  | cons x l ih =>
    intro hq hp
    have h := List.pairwise_cons.1 hp
    have hqx := hq x (by simp)
    cases hx : p x
    · have hall : ∀ y ∈ x :: l, p y = false := fun y hy => by
        rcases List.mem_cons.1 hy with rfl | hy
        · exact hx
        · cases hy' : p y
          · rfl
          · have := h.1 y hy hy'; rw [hx] at this; cases this
      rw [List.filter_eq_nil_iff.2 (by intro y hy; rw [hall y hy]; simp), List.nil_append, List.filter_eq_self.2 (by intro y hy; rw [hq y hy, hall y hy]; rfl)]
    · rw [hx] at hqx
      rw [List.filter_cons_of_pos hx, List.filter_cons_of_neg (by rw [hqx]; simp), List.cons_append]
      exact congrArg (x :: ·) (ih (fun y hy => hq y (List.mem_cons_of_mem _ hy)) h.2)
theorem part_split {m : List En} {d : Nat} (h : Pm d m) (hs : Srt m) (hd : d < 256) : m = partM m d 0 ++ partM m d 1 := by
  refine filter_split (fun x _ => ?_) ?_
  · have := bitN_lt x.k d
    by_cases h0 : bitN x.k d = 0
    · simp [h0]
    · have : bitN x.k d = 1 := by omega
      simp [this]
  · have hp := h.com
    have hk := h.kl
    unfold Srt at hs
    refine List.Pairwise.imp_of_mem (fun {a b} ha hb hlt hb0 => ?_) hs
    have h0 : bitN b.k d = 0 := by simpa using hb0
    by_cases ha0 : bitN a.k d = 0
    · simp [ha0]
    · have ha1 := bitN_lt a.k d
      have := lt_of_bit (hk b hb) (hk a ha) hd (hp b hb a ha) h0 (by omega)
      omega

end Go.Sp.Tryz

set_option maxRecDepth 100000
set_option maxHeartbeats 1000000
set_option linter.unusedVariables false
set_option linter.unusedSimpArgs false
namespace Go.Sp.Tryz
open Go.Proofs Go.RowKit Go.Sp

def Tr.lvs : Nat → Tr → List (Tr × Nat)
  | _, .nil => []
  | d, .leaf a k v s => [(.leaf a k v s, d)]
  | d, .inner _ l r => Tr.lvs (d + 1) l ++ Tr.lvs (d + 1) r
theorem lvs_len : ∀ (T : Tr) (d : Nat), (T.lvs d).length = T.er.cnt
  | .nil, _ => rfl
  | .leaf _ _ _ _, _ => rfl
  | .inner _ l r, d => by unfold Tr.lvs; rw [List.length_append, lvs_len l, lvs_len r]; rfl
theorem lvs_A {bits : Int} {w : World} : ∀ (T : Tr) (d : Nat), TrA bits T w → ∀ p ∈ T.lvs d, TrA bits p.1 w
  | .nil, _, _, _, h => by cases h
  | .leaf _ _ _ _, _, hA, p, h => by
    have e : p = _ := List.mem_singleton.1 h
    rw [e]; exact hA
  | .inner _ l r, d, hA, p, h => by
    rcases List.mem_append.1 h with h | h
    · exact lvs_A l _ hA.left p h
    · exact lvs_A r _ hA.right p h
def depM : Nat → Nat → List En → List (En × Nat)
  | _, _, [] => []
  | _, d, [e] => [(e, d)]
  | 0, d, e :: _ => [(e, d)]
  | n + 1, d, m => depM n (d + 1) (partM m d 0) ++ depM n (d + 1) (partM m d 1)
theorem depM_fst : ∀ (n d : Nat) (m : List En), 256 - d = n → Pm d m → Srt m → (depM n d m).map (·.1) = m := by
  intro n
  induction n with
  | zero =>
    intro d m hn hp hs
    match m, hp with
    | [], _ => rfl
    | [e], _ => rfl
    | a :: b :: m, hp => have := hp.lt (by simp); omega
  | succ n ih =>
    intro d m hn hp hs
    match m, hp, hs with
    | [], _, _ => rfl
    | [e], _, _ => rfl
    | a :: b :: m, hp, hs =>
      have hd := hp.lt (by simp)
      show (depM n (d + 1) _ ++ depM n (d + 1) _).map _ = _
      rw [List.map_append, ih (d + 1) _ (by omega) (hp.part hd 0) (hs.filter _), ih (d + 1) _ (by omega) (hp.part hd 1) (hs.filter _)]
      exact (part_split hp hs hd).symm
theorem lvs_dep : ∀ (n d : Nat) (m : List En) (T : Tr), 256 - d = n → Pm d m → T.er = grow d m → (T.lvs d).map (fun p => (p.1.key, p.1.val, p.2)) = (depM n d m).map fun p => (p.1.k, p.1.v, p.2) := by
  intro n
  induction n with
  | zero =>
    intro d m T hn hp hT
    match m, hp with
    | [], _ => rw [grow_nil] at hT; rw [Tr.nil_er hT]; rfl
    | [e], _ => rw [grow_one] at hT; obtain ⟨a, s, rfl⟩ := Tr.leaf_of hT; rfl
    | a :: b :: m, hp => have := hp.lt (by simp); omega
  | succ n ih =>
    intro d m T hn hp hT
    match m, hp with
    | [], _ => rw [grow_nil] at hT; rw [Tr.nil_er hT]; rfl
    | [e], _ => rw [grow_one] at hT; obtain ⟨a, s, rfl⟩ := Tr.leaf_of hT; rfl
    | a :: b :: m, hp =>
      have hd := hp.lt (by simp)
      rw [grow_many d _ hd (by simp)] at hT
      obtain ⟨x, l, r, rfl, h1, h2⟩ := Tr.inner_of hT
      show (Tr.lvs (d + 1) l ++ Tr.lvs (d + 1) r).map _ = (depM n (d + 1) _ ++ depM n (d + 1) _).map _
      rw [List.map_append, List.map_append, ih _ _ l (by omega) (hp.part hd 0) h1, ih _ _ r (by omega) (hp.part hd 1) h2]
theorem lvs_map {T : Tr} {d : Nat} {m : List En} (hT : T.er = grow d m) (hp : Pm d m) (hs : Srt m) : (T.lvs d).map (fun p => (p.1.key, p.1.val)) = m.map fun e => (e.k, e.v) := by
  have h1 := lvs_dep _ d m T rfl hp hT
  have h2 := depM_fst _ d m rfl hp hs
  have h3 := congrArg (List.map fun p : List UInt8 × List UInt8 × Nat => (p.1, p.2.1)) h1
  simp only [List.map_map] at h3
  have h4 : (depM (256 - d) d m).map (fun p => (p.1.k, p.1.v)) = m.map fun e => (e.k, e.v) := by
    conv => rhs; rw [← h2]
    rw [List.map_map]; rfl
  exact h3.trans h4
def rankM (m : List En) (k : List UInt8) : Nat := (m.filter fun e => decide (num e.k < num k)).length
end Go.Sp.Tryz

set_option maxRecDepth 100000
set_option maxHeartbeats 1000000
set_option linter.unusedVariables false
set_option linter.unusedSimpArgs false
namespace Go.Sp.Tryz
open Go.Proofs Go.RowKit Go.Sp
theorem NewLeafW_c {X : Nat → Prop} {w : World} {bh bc : Nat} {bits n : Int} {k lv : List UInt8} {s : Value} (hX : ∀ b, X b → b < w.heap.size) (ho0 : Blk w bc 108 ([.int .i64 n])) (hf0 : Rob (fun c_ => X c_ ∨ c_ = bc) (HAt bh bc bits) w) (hf1 : Rob (fun c_ => X c_ ∨ c_ = bc) (Rounds) w) (hbits : 0 ≤ bits ∧ bits ≤ 256) (hla : lv.length ≤ 1000000) (hk : k.length = 32) (hw : Rob (fun c => c = bc) (SlB s lv) w) :
    Ret Tryz.prog 58 [.pointer (some ⟨bh, 0, none⟩), .agg (kc k ++ [s]).toArray].toArray w fun v w' => ∃ (T : Tr) (m : Int), v = T.ptr ∧ T.er = .leaf k lv ∧ Out (· = bc) w w' ∧ Blk w' bc 108 [.int .i64 m] ∧ Rob (fun c => X c ∨ c = bc) (TrA bits T) w' := by
  refine Ret.of_body (N := 18) Tryz.func58 rfl rfl (by simp) ?_
  have H := St.begin1 (b := bc) (t := 108) (l := [.int .i64 n]) hX ho0
  replace H := H.add (rob1 hf1)
  replace H := H.add (rob1 hf0)
  have hvl := valD_length bits lv
  have hs1 : s.oneCell' = true := SlC.one1 hw.here
  refine WE.seq_reg ?_
  refine WL.box (l := kc k ++ [s]) H rfl (rfl) rfl ?_
  intro b3 w1 H
  refine WL.as rfl rfl ?_
  refine WL.nil ?_
  refine WE.seq_draw (.take 0 (.take 1 (.take 2 (.take 3 (.take 4 (.take 5 (.take 7 (.take 8 (.pick1 6 (.pick1 9 (.take 10 (.take 11 (.pick1 12 (.take 13 .done)))))))))))))) TryzT.mixed (by kernel_rfl) ?_
  replace H := H.out (Out.drew _)
  refine WP.mv rfl rfl rfl ?_
  refine WP.mv rfl rfl rfl ?_
  refine WP.take_pure rfl rfl (PV.fieldAddr rfl TryzT.fd34_0 rfl) ?_
  refine WP.readA rfl rfl rfl TryzT.ag31 rfl (by exact Blk.segAt (H.l 0 rfl) (Seg.l (Seg.all _)) (by rfl)) (by (rw [TryzT.sz31]; refine congrArg some ?_; (simp only [kc_length, kw_length, List.length_replicate, List.length_append, List.length_cons, List.length_nil, cutI_length, shaOf_length, dig_length, valD_length, rootM_length]; omega))) ?_
  refine WP.take_pure rfl rfl (PV.fieldAddr rfl TryzT.fd34_1 rfl) ?_
  refine WP.take_read rfl rfl (RV.loadOne rfl TryzT.ag32 rfl) (by exact Blk.segAt (H.l 0 rfl) (Seg.r (Seg.all _) (by with_reducible rfl)) (by (simp [kc_length, kw_length, *]; done))) ?_
  refine WP.take_pure rfl rfl (PV.fieldAddr rfl TryzT.fd34_1 rfl) ?_
  refine WP.take_read rfl rfl (RV.loadOne rfl TryzT.ag32 rfl) (by exact Blk.segAt (H.l 0 rfl) (Seg.r (Seg.all _) (by with_reducible rfl)) (by (simp [kc_length, kw_length, *]; done))) ?_
  refine WP.pick1 rfl ?_
  refine WL.call TryzT.fb93 rfl (LeafOf_c (X := Nil) (k := k) (la := lv) (nilX _) (H.o 0 rfl) (by exact (H.robOld 0 rfl 0 rfl).wk) ((H.weak H.toOut hw rfl).wk2) (by exact (H.robOld 0 rfl 1 rfl).wk) hbits hla hk) ?_
  rintro _ w2 ⟨m1, rfl, hO, hB⟩
  replace H := H.calledO 0 rfl hO hB
  refine WL.nil ⟨(List.forall_mem_cons.2 ⟨(fun _ _ => (by exact Blk.segAt (H.l 0 rfl) (Seg.r (Seg.all _) (by with_reducible rfl)) (by (simp [kc_length, kw_length, *]; done)))), (List.forall_mem_cons.2 ⟨(by exact (fun h => absurd (show waits _ 6 5 = false from h) (by decide +kernel))), (List.forall_mem_cons.2 ⟨(by exact (fun h => absurd (show waits _ 6 3 = false from h) (by decide +kernel))), (fun _ h => by cases h)⟩)⟩)⟩), ?_⟩
  refine WP.pick1 rfl ?_
  refine WL.call TryzT.fb94 rfl (CloneO_c (X := Nil) (la := lv) (nilX _) ((H.weak H.toOut hw rfl).wk0) (by omega)) ?_
  rintro s2 w3 ⟨hO, hOwn⟩
  have hr_ := (rob_own H.yylt hOwn).imp fun _ h => SlB.of_own h
  replace H := (H.out hO).add hr_
  refine WL.nil ⟨(List.forall_mem_cons.2 ⟨(by exact (fun h => absurd (show waits _ 9 8 = false from h) (by decide +kernel))), (List.forall_mem_cons.2 ⟨(by exact (fun h => absurd (show waits _ 9 5 = false from h) (by decide +kernel))), (List.forall_mem_cons.2 ⟨(by exact (fun h => absurd (show waits _ 9 3 = false from h) (by decide +kernel))), (fun _ h => by cases h)⟩)⟩)⟩), ?_⟩
  refine WP.take_pure rfl rfl (PV.buildS rfl TryzT.pl142 TryzT.ze142 (Fl.cons rfl (by rfl) (by (simp only [kc_length, kw_length, List.length_replicate, List.length_append, List.length_cons, List.length_nil, cutI_length, shaOf_length, dig_length, valD_length, rootM_length]; omega)) (Laid.left (Laid.all (by (simp only [kc_length, kw_length, List.length_replicate, List.length_append, List.length_cons, List.length_nil, cutI_length, shaOf_length, dig_length, valD_length, rootM_length]; omega)))) (Fl.cons rfl (SlC.cells (H.p 0 rfl)) (by (simp only [kc_length, kw_length, List.length_replicate, List.length_append, List.length_cons, List.length_nil, cutI_length, shaOf_length, dig_length, valD_length, rootM_length]; done)) (Laid.right (Laid.all (by (simp only [kc_length, kw_length, List.length_replicate, List.length_append, List.length_cons, List.length_nil, cutI_length, shaOf_length, dig_length, valD_length, rootM_length]; done))) (by (simp only [kc_length, kw_length, List.length_replicate, List.length_append, List.length_cons, List.length_nil, cutI_length, shaOf_length, dig_length, valD_length, rootM_length]; omega))) Fl.nil))) ?_
  refine WP.take_pure rfl rfl (PV.mkIface rfl TryzT.cn142) ?_
  refine WP.pick1 rfl ?_
  refine WL.call TryzT.fb92 rfl (withLeaf_c (k := k) (d := valD bits lv) (s := s2) H.yylt (H.o 0 rfl) (by exact H.robOld 0 rfl 1 rfl) (by exact H.robOld 0 rfl 2 rfl) hbits hk hvl) ?_
  rintro _ w4 ⟨a2, m2, rfl, hO, hB, hR⟩
  replace H := H.calledOR 0 rfl hO hB hR
  refine WL.nil ⟨(List.forall_mem_cons.2 ⟨(by exact (fun h => absurd (show waits _ 12 8 = false from h) (by decide +kernel))), (List.forall_mem_cons.2 ⟨(by exact (fun h => absurd (show waits _ 12 5 = false from h) (by decide +kernel))), (List.forall_mem_cons.2 ⟨(by exact (fun h => absurd (show waits _ 12 3 = false from h) (by decide +kernel))), (fun _ h => by cases h)⟩)⟩)⟩), ?_⟩
  refine WP.as rfl rfl rfl ?_
  refine WP.done ?_
  refine WE.ret ?_
  refine ⟨[_], _, .nil _, ⟨rfl, trivial⟩, ?_⟩
  exact ⟨.leaf a2 k lv s2, m2, rfl, rfl, H.toOut1, H.o 0 rfl, (H.giveO ((H.rob 0 rfl).and (H.rob 1 rfl))).imp fun _ h => ⟨hk, h.2, hla, h.1⟩⟩

end Go.Sp.Tryz

