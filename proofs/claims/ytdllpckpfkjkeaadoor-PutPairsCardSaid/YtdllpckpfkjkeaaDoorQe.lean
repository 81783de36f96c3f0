/- Walks of functions, printed by a program of this session (gen.py) from notes on each function. -/
import Derived.Test.YtdllpckpfkjkeaaDoorQd
set_option maxRecDepth 100000
set_option maxHeartbeats 1000000
set_option linter.unusedVariables false
set_option linter.unusedSimpArgs false
namespace Go.Sp.Tryd
open Go.Proofs Go.RowKit Go.Sp

/-! trees do not tell where values lie -/
def kv (e : En) : List UInt8 × List UInt8 := (e.k, e.v)
theorem part_kv {m m' : List En} {d b : Nat} (h : m.map kv = m'.map kv) : (partM m d b).map kv = (partM m' d b).map kv := by
  have e : ∀ l : List En, (partM l d b).map kv = (l.map kv).filter fun p => bitN p.1 d == b := fun l => by
    unfold partM
    rw [List.filter_map]; rfl
  rw [e, e, h]
theorem growS_kv : ∀ (n d : Nat) (m m' : List En), m.map kv = m'.map kv → growS n d m = growS n d m' := by
  intro n
  induction n with
  | zero =>
    intro d m m' h
    match m, m', h with
    | [], [], _ => rfl
    | [a], [b], h => simp [kv] at h; show Sh.leaf _ _ = Sh.leaf _ _; rw [h.1, h.2]
    | [_], _ :: _ :: _, h => simp at h
    | _ :: _ :: _, [_], h => simp at h
    | a :: x :: m, b :: y :: m', h => simp [kv] at h; show Sh.leaf _ _ = Sh.leaf _ _; rw [h.1.1, h.1.2]
  | succ n ih =>
    intro d m m' h
    match m, m', h with
    | [], [], _ => rfl
    | [a], [b], h => simp [kv] at h; show Sh.leaf _ _ = Sh.leaf _ _; rw [h.1, h.2]
    | [_], _ :: _ :: _, h => simp at h
    | _ :: _ :: _, [_], h => simp at h
    | a :: x :: m, b :: y :: m', h =>
      show Sh.inner _ _ = Sh.inner _ _
      rw [ih _ _ _ (part_kv h), ih _ _ _ (part_kv h)]
theorem grow_kv {d : Nat} {m m' : List En} (h : m.map kv = m'.map kv) : grow d m = grow d m' := growS_kv _ d m m' h
theorem ins_kv {e e' : En} (he : kv e = kv e') : ∀ l : List En, (ins e l).map kv = (ins e' l).map kv
  | [] => by simp [ins, he]
  | x :: l => by
    have hk : e.k = e'.k := congrArg Prod.fst he
    unfold ins
    rw [hk]
    split
    · simp [he]
    · simp [ins_kv he l]
theorem putM_kv {m : List En} {e e' : En} (he : kv e = kv e') : (putM m e).map kv = (putM m e').map kv := by
  have hk : e.k = e'.k := congrArg Prod.fst he
  unfold putM
  rw [hk]
  exact ins_kv he _
theorem put_s (m : List En) (k v : List UInt8) (s s' : Value) (d : Nat) : grow d (putM m ⟨k, s, v⟩) = grow d (putM m ⟨k, s', v⟩) := grow_kv (putM_kv rfl)
theorem Vals.put {m : List En} {e : En} {w : World} (h : Vals m w) (he : SlB e.s e.v w) : Vals (putM m e) w := fun x hx => by
  rcases mem_putM.1 hx with rfl | hx
  · exact he
  · exact h x hx.1
theorem ShortV.put {m : List En} {e : En} (h : ShortV m) (he : e.v.length ≤ 1000000) : ShortV (putM m e) := fun x hx => by
  rcases mem_putM.1 hx with rfl | hx
  · exact he
  · exact h x hx.1
theorem grow09 (s1 s2 : Value) : grow 0 (putM (putM [] (En.mk (List.replicate 32 0) s1 [1])) (En.mk ((List.replicate 32 0).set 0 64) s2 [2])) = .inner (.inner (.leaf (List.replicate 32 0) [1]) (.leaf ((List.replicate 32 0).set 0 64) [2])) .nil := by kernel_rfl
def T09 (a b a1 a2 : Nat) (s1 s2 : Value) : Tr := .inner a (.inner b (.leaf a1 (List.replicate 32 0) [1] s1) (.leaf a2 ((List.replicate 32 0).set 0 64) [2] s2)) .nil
theorem T09_of {T : Tr} {s1 s2 : Value} (h : T.er = grow 0 (putM (putM [] (En.mk (List.replicate 32 0) s1 [1])) (En.mk ((List.replicate 32 0).set 0 64) s2 [2]))) : ∃ a b a1 a2 t1 t2, T = T09 a b a1 a2 t1 t2 := by
  rw [grow09] at h
  obtain ⟨a, l, r, rfl, h1, h2⟩ := Tr.inner_of h
  obtain ⟨b, l2, r2, rfl, h3, h4⟩ := Tr.inner_of h1
  obtain ⟨a1, t1, rfl⟩ := Tr.leaf_of h3
  obtain ⟨a2, t2, rfl⟩ := Tr.leaf_of h4
  obtain rfl := Tr.nil_er h2
  exact ⟨a, b, a1, a2, t1, t2, rfl⟩
theorem fit09 (a b a1 a2 : Nat) (s1 s2 : Value) : (T09 a b a1 a2 s1 s2).er.fit 0 := ⟨by decide, ⟨by decide, trivial, trivial⟩, trivial⟩
theorem get09 (a b a1 a2 : Nat) (s1 s2 : Value) : (T09 a b a1 a2 s1 s2).getV ((List.replicate 32 0).set 0 64) = some [2] := by
  have h : (T09 a b a1 a2 s1 s2).fin ((List.replicate 32 0).set 0 64) = .leaf a2 ((List.replicate 32 0).set 0 64) [2] s2 := by kernel_rfl
  unfold Tr.getV; rw [h]; rfl

theorem alive09_c {X : Nat → Prop} {w : World}  (hX : ∀ b, X b → b < w.heap.size) (hf0 : Rob X (Rounds) w) :
    Ret Tryd.prog 17 [].toArray w fun v w' => v = .bool true ∧ Out Nil w w' := by
  refine Ret.of_body (N := 59) Tryd.func17 rfl rfl (by decide +revert) ?_
  have H := St.begin hX
  replace H := H.add (rob0 hf0)
  refine WE.seq_reg ?_
  refine WL.as rfl rfl ?_
  refine WL.nil ?_
  refine WE.seq_reg ?_
  refine WL.call TrydT.fb16 rfl (Hash_c (i := 256) H.yylt  (by omega)) ?_
  rintro _ w1 ⟨bhv5, bcv5, rfl, hO, hge, hB, hR⟩
  replace H := H.pushR hO (Ent.blk bcv5 127 [.int .i64 0]) hB (fun c hc => by cases hc; exact hge) hR
  refine WL.as rfl rfl ?_
  refine WL.nil ?_
  refine WE.seq ?_
  refine WE.seq_reg ?_
  refine WL.mv rfl rfl ?_
  refine WL.pv (PV.eqlPn rfl TrydT.pt32 rfl rfl) rfl ?_
  refine WL.nil ?_
  refine WE.cond_f' rfl rfl ?_
  refine WE.skip ?_
  refine WE.seq_reg ?_
  refine WL.mv rfl rfl ?_
  refine WL.mv rfl rfl ?_
  refine WL.buildSliceF (l0 := [.int .u8 (0)]) H rfl TrydT.st25 (by decide) (zrow_one _ _) (Fl.cons rfl (by rfl) (by (simp only [kc_length, kw_length, List.length_replicate, List.length_append, List.length_cons, List.length_nil, cutI_length, shaOf_length, dig_length, valD_length, rootM_length]; done)) Laid.head Fl.nil) rfl ?_
  intro b10 w2 H
  replace H := H.freeze (i := 0) rfl
  replace H := H.add ((H.rob 0 rfl).imp fun _ h => SlB.of_blk (l := [1]) h rfl)
  refine WL.pv (PV.buildS rfl TrydT.pl27 TrydT.ze27 (Fl.cons rfl (by rfl) (by (simp only [kc_length, kw_length, List.length_replicate, List.length_append, List.length_cons, List.length_nil, cutI_length, shaOf_length, dig_length, valD_length, rootM_length]; done)) (Laid.right (Laid.all (by (simp only [kc_length, kw_length, List.length_replicate, List.length_append, List.length_cons, List.length_nil, cutI_length, shaOf_length, dig_length, valD_length, rootM_length]; done))) (by (simp only [kc_length, kw_length, List.length_replicate, List.length_append, List.length_cons, List.length_nil, cutI_length, shaOf_length, dig_length, valD_length, rootM_length]; done))) Fl.nil)) rfl ?_
  refine WL.call TrydT.fb18 rfl (Put2_c (T := .nil) (M := []) (k := (List.replicate 32 0)) (lv := [1]) (s := .slice (some ⟨b10, 0, none⟩) 1 1) (bits := 256) H.yylt (H.l 0 rfl) (by exact H.robL 0 rfl 2 rfl) (fun _ _ => trivial) (by exact H.robL 0 rfl 3 rfl) (by decide) (by decide) (by decide) (by exact (H.robL 0 rfl 0 rfl : Rob _ (SlB (.slice (some ⟨b10, 0, none⟩) 1 1) [1]) _).wk1) (grow_nil 0).symm (fun _ h => by cases h) List.Pairwise.nil (by decide)) ?_
  rintro _ w3 ⟨Tv12, mv12, rfl, hTv12, hO, hB, hR⟩
  replace H := H.calledR 0 rfl hO hB hR
  refine WL.pv (PV.buildA rfl TrydT.ar24 TrydT.sz5 TrydT.ze24 (Fl.cons rfl rfl rfl (Laid.byteA (x := 64) 0 (by simp)) Fl.nil)) rfl ?_
  refine WL.buildSliceF (l0 := [.int .u8 (0)]) H rfl TrydT.st25 (by decide) (zrow_one _ _) (Fl.cons rfl (by rfl) (by (simp only [kc_length, kw_length, List.length_replicate, List.length_append, List.length_cons, List.length_nil, cutI_length, shaOf_length, dig_length, valD_length, rootM_length]; done)) Laid.head Fl.nil) rfl ?_
  intro b14 w4 H
  replace H := H.freeze (i := 0) rfl
  replace H := H.add ((H.rob 0 rfl).imp fun _ h => SlB.of_blk (l := [2]) h rfl)
  refine WL.pv (PV.buildS rfl TrydT.pl27 TrydT.ze27 (Fl.cons rfl (by rfl) (by (simp [kc_length, kw_length, *]; done)) (Laid.left (Laid.all (by (simp [kc_length, kw_length, *]; done)))) (Fl.cons rfl (by rfl) (by (simp only [kc_length, kw_length, List.length_replicate, List.length_append, List.length_cons, List.length_nil, cutI_length, shaOf_length, dig_length, valD_length, rootM_length]; done)) (Laid.right (Laid.all (by (simp only [kc_length, kw_length, List.length_replicate, List.length_append, List.length_cons, List.length_nil, cutI_length, shaOf_length, dig_length, valD_length, rootM_length]; done))) (by (simp [kc_length, kw_length, *]; done))) Fl.nil))) rfl ?_
  refine WL.call TrydT.fb18 rfl (Put2_c (T := Tv12) (M := putM [] (En.mk (List.replicate 32 0) (.slice (some ⟨b10, 0, none⟩) 1 1) [1])) (k := ((List.replicate 32 0).set 0 64)) (lv := [2]) (s := .slice (some ⟨b14, 0, none⟩) 1 1) (bits := 256) H.yylt (H.l 0 rfl) (by exact H.robL 0 rfl 5 rfl) (by exact H.robL 0 rfl 2 rfl) (by exact H.robL 0 rfl 6 rfl) (by decide) (by decide) (by decide) (by exact (H.robL 0 rfl 0 rfl : Rob _ (SlB (.slice (some ⟨b14, 0, none⟩) 1 1) [2]) _).wk1) hTv12 (putM_kl (fun _ h => by cases h) (by rfl)) (putM_srt List.Pairwise.nil (fun _ h => by cases h) (by rfl)) (by show (1 : Nat) ≤ _; decide)) ?_
  rintro _ w5 ⟨Tv16, mv16, rfl, hTv16, hO, hB, hR⟩
  replace H := H.calledR 0 rfl hO hB hR
  obtain ⟨a16, b16, a1, a2, t1, t2, rfl⟩ := T09_of hTv16
  refine WL.as rfl rfl ?_
  refine WL.nil ?_
  refine WE.seq ?_
  refine WE.seq_reg ?_
  refine WL.mv rfl rfl ?_
  refine WL.pv (PV.eqlPn rfl TrydT.pt29 rfl rfl) rfl ?_
  refine WL.nil ?_
  refine WE.cond_f' rfl rfl ?_
  refine WE.skip ?_
  refine WE.seq_reg ?_
  refine WL.mv rfl rfl ?_
  refine WL.pv (PV.buildA rfl TrydT.ar24 TrydT.sz5 TrydT.ze24 (Fl.cons rfl rfl rfl (Laid.byteA (x := 64) 0 (by simp)) Fl.nil)) rfl ?_
  refine WL.call TrydT.fb50 rfl (GetYes_c (T := (T09 a16 b16 a1 a2 t1 t2)) (k := ((List.replicate 32 0).set 0 64)) (v0 := [2]) (bits := 256) H.yylt (by exact H.rob 0 rfl) (by decide) (fit09 _ _ _ _ _ _) (get09 _ _ _ _ _ _)) ?_
  rintro _ w6 ⟨s22, rfl, hO, hOwn⟩
  have hr_ := (rob_own H.yylt hOwn).imp fun _ h => SlB.of_own h
  replace H := (H.out hO).add hr_
  refine WL.mv rfl rfl ?_
  refine WL.pv (PV.extract rfl rfl rfl) rfl ?_
  refine WL.pv (PV.extract rfl rfl rfl) rfl ?_
  refine WL.as rfl rfl ?_
  refine WL.as rfl rfl ?_
  refine WL.nil ?_
  refine WE.seq_reg ?_
  refine WL.mv rfl rfl ?_
  refine WL.call TrydT.fb51 rfl (NKind_c (T := (T09 a16 b16 a1 a2 t1 t2)) (bits := 256) H.yylt (by exact H.rob 1 rfl) ) ?_
  rintro _ w7 ⟨rfl, hO⟩
  replace H := H.out hO
  refine WL.pv (PV.eql rfl rfl rfl) rfl ?_
  refine WL.mv rfl rfl ?_
  refine WL.known (t := 28) (c := true) rfl (by rfl) ?_
  refine WL.mv rfl rfl ?_
  refine WL.call TrydT.fb52 rfl (Left_c (T := (T09 a16 b16 a1 a2 t1 t2)) (bits := 256) H.yylt (by exact H.rob 1 rfl) ) ?_
  rintro _ w8 ⟨rfl, hO⟩
  replace H := H.out hO
  refine WL.call TrydT.fb51 rfl (NKind_c (T := (T09 a16 b16 a1 a2 t1 t2).left) (bits := 256) H.yylt (by exact (H.rob 1 rfl).imp fun _ h => TrA.left h)) ?_
  rintro _ w9 ⟨rfl, hO⟩
  replace H := H.out hO
  refine WL.pv (PV.eql rfl rfl rfl) rfl ?_
  refine WL.pv (PV.pick_t rfl rfl rfl) rfl ?_
  refine WL.mv rfl rfl ?_
  refine WL.known (t := 34) (c := true) rfl (by rfl) ?_
  refine WL.mv rfl rfl ?_
  refine WL.call TrydT.fb52 rfl (Left_c (T := (T09 a16 b16 a1 a2 t1 t2)) (bits := 256) H.yylt (by exact H.rob 1 rfl) ) ?_
  rintro _ w10 ⟨rfl, hO⟩
  replace H := H.out hO
  refine WL.call TrydT.fb20 rfl (Len_c (T := (T09 a16 b16 a1 a2 t1 t2).left) (bits := 256) H.yylt (by exact (H.rob 1 rfl).imp fun _ h => TrA.left h)) ?_
  rintro _ w11 ⟨rfl, hO⟩
  replace H := H.out hO
  refine WL.pv (PV.eql rfl rfl rfl) rfl ?_
  refine WL.pv (PV.pick_t rfl rfl rfl) rfl ?_
  refine WL.mv rfl rfl ?_
  refine WL.known (t := 40) (c := true) rfl (by rfl) ?_
  refine WL.mv rfl rfl ?_
  refine WL.call TrydT.fb53 rfl (Right2_c (T := (T09 a16 b16 a1 a2 t1 t2)) (bits := 256) H.yylt (by exact H.rob 1 rfl) ) ?_
  rintro _ w12 ⟨rfl, hO⟩
  replace H := H.out hO
  refine WL.pv (PV.eqlPn rfl TrydT.pt29 rfl rfl) rfl ?_
  refine WL.pv (PV.pick_t rfl rfl rfl) rfl ?_
  refine WL.mv rfl rfl ?_
  refine WL.known (t := 45) (c := true) rfl (by rfl) ?_
  refine WL.mv rfl rfl ?_
  refine WL.pv (PV.lenS (H.p 0 rfl : SlB s22 [2] _) TrydT.sl25 rfl) rfl ?_
  refine WL.pv (PV.eql rfl rfl rfl) rfl ?_
  refine WL.pv (PV.pick_t rfl rfl rfl) rfl ?_
  refine WL.mv rfl rfl ?_
  refine WL.known (t := 50) (c := true) rfl (by rfl) ?_
  refine WL.mv rfl rfl ?_
  refine WL.pv (PV.idxS rfl (H.p 0 rfl : SlB s22 [2] _) TrydT.sl25 TrydT.sz5 rfl rfl (by decide) (by decide)) rfl ?_
  refine WL.load1 rfl TrydT.ag5 rfl rfl (SlB.rd (H.p 0 rfl : SlB s22 [2] _) 0 (by decide)) ?_
  refine WL.pv (PV.eql rfl rfl rfl) rfl ?_
  refine WL.pv (PV.pick_t rfl rfl rfl) rfl ?_
  refine WL.mv rfl rfl ?_
  refine WL.known (t := 56) (c := true) rfl (by rfl) ?_
  refine WL.mv rfl rfl ?_
  refine WL.pv (PV.pick_t rfl rfl rfl) rfl ?_
  refine WL.as rfl rfl ?_
  refine WL.nil ?_
  refine WE.ret ?_
  refine ⟨[_], _, .nil _, ⟨rfl, trivial⟩, ?_⟩
  refine ⟨?_, H.toOut0⟩
  rfl

end Go.Sp.Tryd
