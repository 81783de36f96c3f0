/- Walks of functions, printed by a program of this session (gen.py) from notes on each function. -/
import Derived.Test.YtcfkkhljekopgaaDoorNi
set_option maxRecDepth 100000
set_option maxHeartbeats 1000000
set_option linter.unusedVariables false
set_option linter.unusedSimpArgs false
namespace Go.Sp.Tryd
open Go.Proofs Go.RowKit Go.Sp

theorem Tr.leaf_of {T : Tr} {k v : List UInt8} (h : T.er = .leaf k v) : ∃ a s, T = .leaf a k v s := by
  cases T with
  | nil => cases h
  | inner => cases h
  | leaf a k' v' s => injection h with h1 h2; subst h1; subst h2; exact ⟨a, s, rfl⟩
theorem Tr.inner_of {T : Tr} {x y : Sh} (h : T.er = .inner x y) : ∃ a l r, T = .inner a l r ∧ l.er = x ∧ r.er = y := by
  cases T with
  | nil => cases h
  | leaf => cases h
  | inner a l r => injection h with h1 h2; exact ⟨a, l, r, rfl, h1, h2⟩
theorem Tr.nil_er {T : Tr} (h : T.er = .nil) : T = .nil := by cases T <;> first | rfl | cases h
theorem FewB_c {X : Nat → Prop} {w : World} {s : Value} {m : List En} (hX : ∀ b, X b → b < w.heap.size) (h0 : Rob X (SlE s m) w) (h1 : Rob X (Vals m) w) (hkl : KL m) (hlen : m.length ≤ 9223372036854775807) (hvl : ∀ e ∈ m, e.v.length ≤ 9223372036854775807) :
    Ret Tryd.prog 28 [s].toArray w fun v w' => ∃ b, v = .bool b ∧ (b = true → m.length ≤ 12 ∧ ∀ e ∈ m, e.v.length ≤ 200) ∧ Out Nil w w' :=
  (Few_c hX h0 h1 hkl hlen hvl).mono fun v w' ⟨h, h2, hO⟩ => by
    rcases h with rfl | rfl
    · exact ⟨true, rfl, fun _ => h2 rfl, hO⟩
    · exact ⟨false, rfl, fun h => (by cases h), hO⟩

theorem Entry_c {X : Nat → Prop} {w : World} {bits : Int} {T : Tr} (hX : ∀ b, X b → b < w.heap.size) (hf0 : Rob X (TrA bits T) w) :
    Ret Tryd.prog 37 [T.ptr].toArray w fun v w' => ∃ s2, v = .agg (kc T.key ++ [s2]).toArray ∧ Out Nil w w' ∧ w'.ownsRow w.heap.size 5 1 s2 T.val.length (kc T.val) := by
  refine Ret.of_body (N := 13) Tryd.func37 rfl rfl (by simp) ?_
  have H := St.begin hX
  replace H := H.add (rob0 hf0)
  have hk := TrA.key_length (hf0.here)
  have hd := Tr.vd_length bits T
  have hvl := TrA.vlen (hf0.here)
  have hvs := SlC.one1 (TrA.vsl (hf0.here))
  refine WE.seq_reg ?_
  refine WL.alloc H rfl TrydT.ze52 rfl ?_
  intro b2 w1 H
  refine WL.nil ?_
  refine WE.seq_reg ?_
  refine WL.mv rfl rfl ?_
  refine WL.call TrydT.fb77 rfl (leafM_c (T := T) H.yylt (H.rob 0 rfl)) ?_
  rintro _ w2 ⟨rfl, hO⟩
  replace H := H.out hO
  rw [Tr.lfC_eq]
  refine WL.alloc H rfl TrydT.ze111 rfl ?_
  intro b3 w3 H
  refine WL.storeL H 0 rfl rfl rfl (new := _) rfl (by (rw [TrydT.sz111]; refine congrArg some ?_; (simp only [kc_length, kw_length, List.length_replicate, List.length_append, List.length_cons, List.length_nil, cutI_length, shaOf_length, dig_length, valD_length, rootM_length]; omega))) (one_append (one_append (kc_one _) (kc_one _)) (one_lit _ (by simp [hvs]))) (Laid.at (Laid.all (by (simp only [kc_length, kw_length, List.length_replicate, List.length_append, List.length_cons, List.length_nil, cutI_length, shaOf_length, dig_length, valD_length, rootM_length]; omega))) (by rfl)) rfl ?_
  intro w4 H
  refine WL.nil ?_
  refine WE.seq_draw (.take 0 (.take 1 (.take 2 (.take 3 (.take 4 (.pick1 5 (.take 6 (.pick1 7 .done)))))))) TrydT.mixed (by kernel_rfl) ?_
  replace H := H.out (Out.drew _)
  refine WP.take_pure rfl rfl (PV.fieldAddr rfl TrydT.fd111_0 rfl) ?_
  refine WP.take_pure rfl rfl (PV.fieldAddr rfl TrydT.fd38_0 rfl) ?_
  refine WP.readA rfl rfl rfl TrydT.ag36 rfl (by exact Blk.segAt (H.l 0 rfl) (Seg.l (Seg.l (Seg.all _))) (by rfl)) (by (rw [TrydT.sz36]; refine congrArg some ?_; (simp only [kc_length, kw_length, List.length_replicate, List.length_append, List.length_cons, List.length_nil, cutI_length, shaOf_length, dig_length, valD_length, rootM_length]; omega))) ?_
  refine WP.take_pure rfl rfl (PV.fieldAddr rfl TrydT.fd111_1 rfl) ?_
  refine WP.take_read rfl rfl (RV.loadOne rfl TrydT.ag33 rfl) (by exact Blk.segAt (H.l 0 rfl) (Seg.r (Seg.all _) (by with_reducible rfl)) (by (simp [kc_length, kw_length, *]; done))) ?_
  refine WP.pick1 rfl ?_
  refine WL.call TrydT.fb75 rfl (CloneO_c (la := T.val) H.yylt ((H.rob 0 rfl).imp fun _ h => h.vsl) (by omega)) ?_
  rintro s2 w5 ⟨hO, hOwn⟩
  have hs2 := SlC.one1 (SlB.of_own hOwn)
  replace H := H.push hO (Ent.osl w.heap.size s2 5 1 _ _) (ownsRow_base hOwn H.size) (fun b hb => (hOwn.lt b hb).1)
  refine WL.nil ⟨(List.forall_mem_cons.2 ⟨(by exact (fun h => absurd (show waits _ 5 4 = false from h) (by decide +kernel))), (List.forall_mem_cons.2 ⟨(fun _ _ => (by exact Blk.segAt (H.l 1 rfl) (Seg.l (Seg.l (Seg.all _))) (by rfl))), (fun _ h => by cases h)⟩)⟩), ?_⟩
  refine WP.take_pure rfl rfl (PV.buildS rfl TrydT.pl52 TrydT.ze52 (Fl.cons rfl (by rfl) (by (simp only [kc_length, kw_length, List.length_replicate, List.length_append, List.length_cons, List.length_nil, cutI_length, shaOf_length, dig_length, valD_length, rootM_length]; omega)) (Laid.left (Laid.all (by (simp only [kc_length, kw_length, List.length_replicate, List.length_append, List.length_cons, List.length_nil, cutI_length, shaOf_length, dig_length, valD_length, rootM_length]; omega)))) (Fl.cons rfl (cells_one hs2) (by (simp only [kc_length, kw_length, List.length_replicate, List.length_append, List.length_cons, List.length_nil, cutI_length, shaOf_length, dig_length, valD_length, rootM_length]; done)) (Laid.right (Laid.all (by (simp only [kc_length, kw_length, List.length_replicate, List.length_append, List.length_cons, List.length_nil, cutI_length, shaOf_length, dig_length, valD_length, rootM_length]; done))) (by (simp only [kc_length, kw_length, List.length_replicate, List.length_append, List.length_cons, List.length_nil, cutI_length, shaOf_length, dig_length, valD_length, rootM_length]; omega))) Fl.nil))) ?_
  refine WP.pick1 rfl ?_
  refine WL.storeL H 2 rfl rfl rfl (new := kc T.key ++ [s2]) rfl (by (rw [TrydT.sz52]; refine congrArg some ?_; (simp only [kc_length, kw_length, List.length_replicate, List.length_append, List.length_cons, List.length_nil, cutI_length, shaOf_length, dig_length, valD_length, rootM_length]; omega))) (one_append (kc_one _) (one_lit _ (by simp [hs2]))) (Laid.at (Laid.all (by (simp only [kc_length, kw_length, List.length_replicate, List.length_append, List.length_cons, List.length_nil, cutI_length, shaOf_length, dig_length, valD_length, rootM_length]; omega))) (by rfl)) rfl ?_
  intro w6 H
  refine WL.nil ⟨(List.forall_mem_cons.2 ⟨(by exact (fun h => absurd (show waits _ 7 4 = false from h) (by decide +kernel))), (List.forall_mem_cons.2 ⟨(by exact (fun h => absurd (show waits _ 7 2 = false from h) (by decide +kernel))), (fun _ h => by cases h)⟩)⟩), ?_⟩
  refine WP.done ?_
  refine WE.ret ?_
  refine ⟨[_], _, .nil _, ⟨⟨_, rfl, run_loadVar_aggR TrydT.ag52 (by exact Blk.segAt (H.l 2 rfl) (Seg.all _) rfl) (by (rw [TrydT.sz52]; refine congrArg some ?_; (simp only [kc_length, kw_length, List.length_replicate, List.length_append, List.length_cons, List.length_nil, cutI_length, shaOf_length, dig_length, valD_length, rootM_length]; omega)))⟩, trivial⟩, ?_⟩
  exact ⟨s2, rfl, H.toOut0, H.l 0 rfl⟩

theorem alive07_c {X : Nat → Prop} {w : World}  (hX : ∀ b, X b → b < w.heap.size) (hf0 : Rob X (Rounds) w) :
    Ret Tryd.prog 29 [].toArray w fun v w' => v = .bool true ∧ Out Nil w w' := by
  refine Ret.of_body (N := 79) Tryd.func29 rfl rfl (by decide +revert) ?_
  have H := St.begin hX
  replace H := H.add (rob0 hf0)
  refine WE.seq_reg ?_
  refine WL.as rfl rfl ?_
  refine WL.nil ?_
  refine WE.seq_reg ?_
  refine WL.call TrydT.fb27 rfl (Hash_c (i := 256) H.yylt  (by omega)) ?_
  rintro _ w1 ⟨bhv6, bcv6, rfl, hO, hge, hB, hR⟩
  replace H := H.pushR hO (Ent.blk bcv6 86 [.int .i64 0]) hB (fun c hc => by cases hc; exact hge) hR
  refine WL.as rfl rfl ?_
  refine WL.nil ?_
  refine WE.seq ?_
  refine WE.seq_reg ?_
  refine WL.mv rfl rfl ?_
  refine WL.pv (PV.eqlPn rfl TrydT.pt24 rfl rfl) rfl ?_
  refine WL.nil ?_
  refine WE.cond_f' rfl rfl ?_
  refine WE.skip ?_
  refine WE.seq_reg ?_
  refine WL.mv rfl rfl ?_
  refine WL.buildSliceF (l0 := [.int .u8 (0)]) H rfl TrydT.st33 (by decide) (zrow_one _ _) (Fl.cons rfl (by rfl) (by (simp only [kc_length, kw_length, List.length_replicate, List.length_append, List.length_cons, List.length_nil, cutI_length, shaOf_length, dig_length, valD_length, rootM_length]; done)) Laid.head Fl.nil) rfl ?_
  intro b10 w2 H
  replace H := H.freeze (i := 0) rfl
  replace H := H.add ((H.rob 0 rfl).imp fun _ h => SlB.of_blk (l := [7]) h rfl)
  refine WL.pv (PV.buildS rfl TrydT.pl52 TrydT.ze52 (Fl.cons rfl (by rfl) (by (simp only [kc_length, kw_length, List.length_replicate, List.length_append, List.length_cons, List.length_nil, cutI_length, shaOf_length, dig_length, valD_length, rootM_length]; done)) (Laid.right (Laid.all (by (simp only [kc_length, kw_length, List.length_replicate, List.length_append, List.length_cons, List.length_nil, cutI_length, shaOf_length, dig_length, valD_length, rootM_length]; done))) (by (simp only [kc_length, kw_length, List.length_replicate, List.length_append, List.length_cons, List.length_nil, cutI_length, shaOf_length, dig_length, valD_length, rootM_length]; done))) Fl.nil)) rfl ?_
  refine WL.call TrydT.fb35 rfl (NewLeaf_c (k := (List.replicate 32 0)) (lv := [7]) (bits := 256) H.yylt (H.l 0 rfl) (by exact H.robL 0 rfl 2 rfl) (by exact H.robL 0 rfl 0 rfl) (by exact H.robL 0 rfl 3 rfl) (by omega) (by simp) (by simp)) ?_
  rintro _ w3 ⟨Tv12, mv12, rfl, hTv12, hO, hB, hR⟩
  replace H := H.calledR 0 rfl hO hB hR
  obtain ⟨a12, s12, rfl⟩ := Tr.leaf_of hTv12
  refine WL.mv rfl rfl ?_
  refine WL.pv (PV.buildA rfl TrydT.ar36 TrydT.sz5 TrydT.ze36 (Fl.cons rfl rfl rfl (Laid.byteA (x := 128) 0 (by simp)) Fl.nil)) rfl ?_
  refine WL.pv (PV.buildS rfl TrydT.pl52 TrydT.ze52 (Fl.cons rfl (by rfl) (by (simp [kc_length, kw_length, *]; done)) (Laid.left (Laid.all (by (simp [kc_length, kw_length, *]; done)))) Fl.nil)) rfl ?_
  refine WL.call TrydT.fb35 rfl (NewLeaf_c (k := (List.replicate 32 0).set 0 128) (lv := []) (bits := 256) H.yylt (H.l 0 rfl) (by exact H.robL 0 rfl 3 rfl) (by exact fun _ _ => SlB.nil _) (by exact H.robL 0 rfl 4 rfl) (by omega) (by simp) (by simp)) ?_
  rintro _ w4 ⟨Tv16, mv16, rfl, hTv16, hO, hB, hR⟩
  replace H := H.calledR 0 rfl hO hB hR
  obtain ⟨a16, s16, rfl⟩ := Tr.leaf_of hTv16
  refine WL.as rfl rfl ?_
  refine WL.as rfl rfl ?_
  refine WL.nil ?_
  refine WE.seq ?_
  refine WE.seq_reg ?_
  refine WL.mv rfl rfl ?_
  refine WL.pv (PV.eqlPn rfl TrydT.pt47 rfl rfl) rfl ?_
  refine WL.mv rfl rfl ?_
  refine WL.known (t := 19) (c := false) rfl (by rfl) ?_
  refine WL.mv rfl rfl ?_
  refine WL.pv (PV.eqlPn rfl TrydT.pt47 rfl rfl) rfl ?_
  refine WL.pv (PV.pick_f rfl rfl rfl) rfl ?_
  refine WL.nil ?_
  refine WE.cond_f' rfl rfl ?_
  refine WE.skip ?_
  refine WE.seq_reg ?_
  refine WL.mv rfl rfl ?_
  refine WL.mv rfl rfl ?_
  refine WL.mv rfl rfl ?_
  refine WL.call TrydT.fb34 rfl (Join_c (l := .leaf a12 _ _ s12) (r := .leaf a16 _ _ s16) (bits := 256) H.yylt (H.l 0 rfl) (by exact H.robL 0 rfl 4 rfl) (by exact H.robL 0 rfl 1 rfl) (by exact H.robL 0 rfl 0 rfl) (by exact H.robL 0 rfl 5 rfl) (by omega) (by simp [Tr.er, Sh.cnt])) ?_
  rintro _ w5 ⟨Tv26, mv26, rfl, hTv26, hO, hB, hR⟩
  replace H := H.calledR 0 rfl hO hB hR
  obtain ⟨a26, l26, r26, rfl, hl26, hr26⟩ := Tr.inner_of hTv26
  refine WL.as rfl rfl ?_
  refine WL.nil ?_
  refine WE.seq_reg ?_
  refine WL.mv rfl rfl ?_
  refine WL.mv rfl rfl ?_
  refine WL.call TrydT.fb34 rfl (Join_c (l := .nil) (r := .inner a26 l26 r26) (bits := 256) H.yylt (H.l 0 rfl) (by exact H.robL 0 rfl 5 rfl) (by exact fun _ _ => trivial) (by exact H.robL 0 rfl 0 rfl) (by exact H.robL 0 rfl 6 rfl) (by omega) (by simp [Tr.er, Sh.cnt, hl26, hr26])) ?_
  rintro _ w6 ⟨Tv29, mv29, rfl, hTv29, hO, hB, hR⟩
  replace H := H.calledR 0 rfl hO hB hR
  obtain ⟨a29, l29, r29, rfl, hl29, hr29⟩ := Tr.inner_of hTv29
  have hc29 : (Tr.inner a29 l29 r29).er.cnt = 2 := by rw [hTv29]; simp [Tr.er, joinS, Sh.cnt, hl26, hr26]
  refine WL.as rfl rfl ?_
  refine WL.nil ?_
  refine WE.seq ?_
  refine WE.seq_reg ?_
  refine WL.mv rfl rfl ?_
  refine WL.pv (PV.eqlPn rfl TrydT.pt47 rfl rfl) rfl ?_
  refine WL.mv rfl rfl ?_
  refine WL.known (t := 32) (c := false) rfl (by rfl) ?_
  refine WL.mv rfl rfl ?_
  refine WL.pv (PV.eqlPn rfl TrydT.pt47 rfl rfl) rfl ?_
  refine WL.pv (PV.pick_f rfl rfl rfl) rfl ?_
  refine WL.nil ?_
  refine WE.cond_f' rfl rfl ?_
  refine WE.skip ?_
  refine WE.seq_reg ?_
  refine WL.mv rfl rfl ?_
  refine WL.mv rfl rfl ?_
  refine WL.call TrydT.fb34 rfl (Join_c (l := .leaf a12 _ _ s12) (r := .nil) (bits := 256) H.yylt (H.l 0 rfl) (by exact H.robL 0 rfl 6 rfl) (by exact H.robL 0 rfl 3 rfl) (by exact fun _ _ => trivial) (by exact H.robL 0 rfl 7 rfl) (by omega) (by simp [Tr.er, Sh.cnt])) ?_
  rintro _ w7 ⟨Tv38, mv38, rfl, hTv38, hO, hB, hR⟩
  replace H := H.calledR 0 rfl hO hB hR
  obtain ⟨a38, s38, rfl⟩ := Tr.leaf_of hTv38
  refine WL.call TrydT.fb40 rfl (NKind_c (T := .leaf a38 _ _ s38) (bits := 256) H.yylt (by exact H.rob 0 rfl) ) ?_
  rintro _ w8 ⟨rfl, hO⟩
  replace H := H.out hO
  refine WL.pv (PV.eql rfl rfl rfl) rfl ?_
  refine WL.mv rfl rfl ?_
  refine WL.known (t := 41) (c := true) rfl (by rfl) ?_
  refine WL.mv rfl rfl ?_
  refine WL.call TrydT.fb40 rfl (NKind_c (T := .inner a26 l26 r26) (bits := 256) H.yylt (by exact H.rob 2 rfl) ) ?_
  rintro _ w9 ⟨rfl, hO⟩
  replace H := H.out hO
  refine WL.pv (PV.eql rfl rfl rfl) rfl ?_
  refine WL.pv (PV.pick_t rfl rfl rfl) rfl ?_
  refine WL.mv rfl rfl ?_
  refine WL.known (t := 46) (c := true) rfl (by rfl) ?_
  refine WL.mv rfl rfl ?_
  refine WL.call TrydT.fb40 rfl (NKind_c (T := .inner a29 l29 r29) (bits := 256) H.yylt (by exact H.rob 1 rfl) ) ?_
  rintro _ w10 ⟨rfl, hO⟩
  replace H := H.out hO
  refine WL.pv (PV.eql rfl rfl rfl) rfl ?_
  refine WL.pv (PV.pick_t rfl rfl rfl) rfl ?_
  refine WL.mv rfl rfl ?_
  refine WL.known (t := 51) (c := true) rfl (by rfl) ?_
  refine WL.mv rfl rfl ?_
  refine WL.call TrydT.fb36 rfl (Len_c (T := .inner a29 l29 r29) (bits := 256) H.yylt (by exact H.rob 1 rfl) ) ?_
  rintro _ w11 ⟨rfl, hO⟩
  replace H := H.out hO
  refine WL.pv (PV.eql rfl rfl rfl) rfl ?_
  refine WL.pv (PV.pick_t rfl rfl rfl) rfl ?_
  refine WL.mv rfl rfl ?_
  refine WL.known (t := 56) (c := true) rfl (by (rw [hc29]; rfl)) ?_
  refine WL.mv rfl rfl ?_
  refine WL.call TrydT.fb34 rfl (Join_c (l := .nil) (r := .nil) (bits := 256) H.yylt (H.l 0 rfl) (by exact H.robL 0 rfl 7 rfl) (by exact fun _ _ => trivial) (by exact fun _ _ => trivial) (by exact H.robL 0 rfl 8 rfl) (by omega) (by simp [Tr.er, Sh.cnt])) ?_
  rintro _ w12 ⟨Tv58, mv58, rfl, hTv58, hO, hB, hR⟩
  replace H := H.calledR 0 rfl hO hB hR
  obtain rfl := Tr.nil_er hTv58
  refine WL.pv (PV.eqlPn rfl TrydT.pt47 rfl rfl) rfl ?_
  refine WL.pv (PV.pick_t rfl rfl rfl) rfl ?_
  refine WL.mv rfl rfl ?_
  refine WL.known (t := 61) (c := true) rfl (by rfl) ?_
  refine WL.mv rfl rfl ?_
  refine WL.mv rfl rfl ?_
  refine WL.mv rfl rfl ?_
  refine WL.call TrydT.fb34 rfl (Join_c (l := .nil) (r := .leaf a12 _ _ s12) (bits := 256) H.yylt (H.l 0 rfl) (by exact H.robL 0 rfl 8 rfl) (by exact H.robL 0 rfl 0 rfl) (by exact H.robL 0 rfl 5 rfl) (by exact H.robL 0 rfl 9 rfl) (by omega) (by simp [Tr.er, Sh.cnt])) ?_
  rintro _ w13 ⟨Tv65, mv65, rfl, hTv65, hO, hB, hR⟩
  replace H := H.calledR 0 rfl hO hB hR
  obtain ⟨a65, s65, rfl⟩ := Tr.leaf_of hTv65
  refine WL.call TrydT.fb31 rfl (Digest_c (T := .leaf a65 _ _ s65) (bits := 256) H.yylt (H.l 0 rfl) (by exact H.robL 0 rfl 9 rfl) (by exact H.robL 0 rfl 0 rfl) (by exact H.robL 0 rfl 10 rfl) (by omega)) ?_
  rintro _ w14 ⟨mv66, rfl, hO, hB⟩
  replace H := H.called 0 rfl hO hB
  refine WL.mv rfl rfl ?_
  refine WL.mv rfl rfl ?_
  refine WL.call TrydT.fb31 rfl (Digest_c (T := .leaf a12 _ _ s12) (bits := 256) H.yylt (H.l 0 rfl) (by exact H.robL 0 rfl 9 rfl) (by exact H.robL 0 rfl 6 rfl) (by exact H.robL 0 rfl 10 rfl) (by omega)) ?_
  rintro _ w15 ⟨mv69, rfl, hO, hB⟩
  replace H := H.called 0 rfl hO hB
  refine WL.pv (PV.eqlB rfl TrydT.ar29 TrydT.in5 TrydT.sz5 (by kernel_rfl) rfl rfl (by exact dig_length _ _) (by exact dig_length _ _)) rfl ?_
  refine WL.pv (PV.pick_t rfl rfl rfl) rfl ?_
  refine WL.mv rfl rfl ?_
  refine WL.known (t := 72) (c := true) rfl (by rfl) ?_
  refine WL.mv rfl rfl ?_
  refine WL.call TrydT.fb37 rfl (Entry_c (T := .leaf a12 _ _ s12) (bits := 256) H.yylt (by exact H.rob 6 rfl) ) ?_
  rintro _ w16 ⟨sv74, rfl, hO, hOwn⟩
  have hs1v74 := SlC.one1 (SlB.of_own hOwn)
  have hr_ := (rob_own H.yylt hOwn).imp fun _ h => SlB.of_own h
  replace H := (H.out hO).add hr_
  refine WL.pv (PV.fieldV rfl TrydT.fd52_1 rfl (PartAt.one TrydT.ag33 (Seg.r (Seg.all _) (by rfl)))) rfl ?_
  refine WL.pv (PV.eq (v' := .int .i64 1) (PV.lenS (H.p 0 rfl : SlB _ [7] _) TrydT.sl33 rfl) rfl) rfl ?_
  refine WL.pv (PV.eql rfl rfl rfl) rfl ?_
  refine WL.pv (PV.pick_t rfl rfl rfl) rfl ?_
  refine WL.as rfl rfl ?_
  refine WL.nil ?_
  refine WE.ret ?_
  refine ⟨[_], _, .nil _, ⟨rfl, trivial⟩, ?_⟩
  refine ⟨?_, H.toOut0⟩
  rfl

end Go.Sp.Tryd
