/- The walks of functions of the program: printed. -/
import Derived.Test.YtmmghpbncejfiaaDoorKB
import Derived.Test.YtmmghpbncejfiaaDoorG3
import Derived.Test.YtmmghpbncejfiaaDoorG4
import Derived.Test.YtmmghpbncejfiaaDoorG6
import Derived.Test.YtmmghpbncejfiaaDoorF0
set_option maxRecDepth 100000
namespace Go.Proofs.YtmmghpbncejfiaaDoor
open Go Go.RowKit Sk Sd
theorem linkOf_ (r o : Dg) (w0 : World) (hL : Laid w0) :
    Gives Tryd.prog 10 #[Value.agg #[w32 (r).a, w32 (r).b, w32 (r).c, w32 (r).d, w32 (o).a, w32 (o).b, w32 (o).c, w32 (o).d]] w0 (Pr.ex (Dg.val (linkOf r o))) := by
 refine enter (N := 15) Tryd.func10 rfl rfl ?_
 intro a0 N0 D0 hA
 have s0_0 : get a0 0 = Value.agg #[w32 (r).a, w32 (r).b, w32 (r).c, w32 (r).d, w32 (o).a, w32 (o).b, w32 (o).c, w32 (o).d] := hA 0 _ rfl
 clear hA
 have E0 : Ext w0 w0 := Ext.refl w0
 refine wp_seq ?_
 refine Rl [1, 2] [(1, Pr.box' w0.heap.size 26 [w32 (r).a, w32 (r).b, w32 (r).c, w32 (r).d, w32 (o).a, w32 (o).b, w32 (o).c, w32 (o).d]), (2, Pr.box' w0.heap.size 24 [w32 (Dg.zero).a, w32 (Dg.zero).b, w32 (Dg.zero).c, w32 (Dg.zero).d])] 2 N0 D0 ?_ ?_
 refine Ac ?_ (Ac ?_ (Az _))
 refine Ask.fresh rfl rfl ?_
 intro aq wq hNq hO hR hT
 exact does_box (V := Value.agg #[w32 (r).a, w32 (r).b, w32 (r).c, w32 (r).d, w32 (o).a, w32 (o).b, w32 (o).c, w32 (o).d]) (oT hO s0_0 rfl) (fun b w2 he hlo hb => ⟨he, ⟨b, rfl, Nat.le_trans hR.size' hlo, hb⟩, ⟨b, rfl, hlo, hb.lt⟩⟩)
 refine Ask.fresh rfl rfl ?_
 intro aq wq hNq hO hR hT
 exact does_alloc zero_24 (fun b w2 he hlo hb => ⟨he, ⟨b, rfl, Nat.le_trans hR.size' hlo, hb⟩, ⟨b, rfl, hlo, hb.lt⟩⟩)
 intro a1 wd1 N1 D1 hO hR hA hU
 obtain ⟨t1, t2, _⟩ := hA
 have E1 := E0.trans hR
 obtain ⟨b1, s1_1, lo_b1, B1_1⟩ := t1
 have fr_b1 : w0.heap.size ≤ b1 := Nat.le_trans E0.size' lo_b1
 obtain ⟨b2, s2_1, lo_b2, B2_1⟩ := t2
 have fr_b2 : w0.heap.size ≤ b2 := Nat.le_trans E0.size' lo_b2
 obtain ⟨u0, ⟨u1, _⟩⟩ := hU
 have ne_b1_b2 : b1 ≠ b2 := fun e => u0 2 (by decide) (by rw [s1_1, s2_1, e])
 clear E0 N0 D0 s0_0
 refine tail_nil ?_
 refine wp_seq ?_
 refine Ra [] [(4, Pr.ex (Value.pointer (some ⟨b1, 0, none⟩))), (5, Pr.ex (Value.slice (some ⟨b1, 0, none⟩) 4 4)), (6, Pr.ex (str (wbytes [(r).a, (r).b, (r).c, (r).d]))), (7, Pr.ex (Value.pointer (some ⟨b1, 4, none⟩))), (8, Pr.ex (Value.slice (some ⟨b1, 4, none⟩) 4 4)), (9, Pr.ex (str (wbytes [(o).a, (o).b, (o).c, (o).d]))), (10, Pr.ex (str ((wbytes [(r).a, (r).b, (r).c, (r).d]) ++ (wbytes [(o).a, (o).b, (o).c, (o).d])))), (3, Pr.ex (str ((wbytes [(r).a, (r).b, (r).c, (r).d]) ++ (wbytes [(o).a, (o).b, (o).c, (o).d]))))] 8 mixed N1 D1 ?_ ?_
 refine Ac ?_ (Ac ?_ (Ac ?_ (Ac ?_ (Ac ?_ (Ac ?_ (Ac ?_ (Ac ?_ (Az _))))))))
 exact Ad fun aq wq _ hO hR hT => does_field (o' := 0) fld_26_0 (oT hO s1_1 rfl) rfl eR
 exact Ad fun aq wq _ hO hR hT => does_arrAll arr_24 (hT 4 rfl rfl) eR
 exact Ad fun aq wq _ hO hR hT => does_ret (vs := #[Value.slice (some ⟨b1, 0, none⟩) 4 4]) call_20 (args1 (hT 5 rfl rfl)) rfl ((bytes_ ([(r).a, (r).b, (r).c, (r).d]) (Value.slice (some ⟨b1, 0, none⟩) 4 4) wq ((SlT.ofHas (T := W32) (xs := [(r).a, (r).b, (r).c, (r).d]) (B1_1.ext' hR) rfl rfl (nB rfl) (nB rfl)).wide (Nat.zero_le _) (.inl rfl)) (by simp)).mono fun v w2 h => ⟨h.2, h.1⟩)
 exact Ad fun aq wq _ hO hR hT => does_field (o' := 4) fld_26_1 (oT hO s1_1 rfl) rfl eR
 exact Ad fun aq wq _ hO hR hT => does_arrAll arr_24 (hT 7 rfl rfl) eR
 exact Ad fun aq wq _ hO hR hT => does_ret (vs := #[Value.slice (some ⟨b1, 4, none⟩) 4 4]) call_20 (args1 (hT 8 rfl rfl)) rfl ((bytes_ ([(o).a, (o).b, (o).c, (o).d]) (Value.slice (some ⟨b1, 4, none⟩) 4 4) wq ((SlT.ofHas (T := W32) (xs := [(o).a, (o).b, (o).c, (o).d]) (B1_1.ext' hR) rfl rfl (nB rfl) (nB rfl)).wide (Nat.zero_le _) (.inl rfl)) (by simp)).mono fun v w2 h => ⟨h.2, h.1⟩)
 exact Ad fun aq wq _ hO hR hT => does_cat (a := wbytes [(r).a, (r).b, (r).c, (r).d]) (b := wbytes [(o).a, (o).b, (o).c, (o).d]) (hT 6 rfl rfl) (hT 9 rfl rfl) (by simp only [List.length_append, List.length_cons, List.length_nil, List.length_replicate, bytes_length]; omega) eR
 exact Ad fun aq wq _ hO hR hT => does_assign (V := str ((wbytes [(r).a, (r).b, (r).c, (r).d]) ++ (wbytes [(o).a, (o).b, (o).c, (o).d]))) (hT 10 rfl rfl) eR
 intro a2 wd2 N2 D2 hO hR hA hU
 obtain ⟨_, _, _, _, _, _, _, t3, _⟩ := hA
 have E2 := E1.trans hR
 have s2_2 := oT hO s2_1 rfl
 have B1_2 := B1_1.ext' hR
 have B2_2 := B2_1.ext' hR
 have s3_2 : get a2 3 = str ((wbytes [(r).a, (r).b, (r).c, (r).d]) ++ (wbytes [(o).a, (o).b, (o).c, (o).d])) := t3
 clear E1 N1 D1 s1_1 s2_1 B1_1 B2_1
 refine tail_nil ?_
 refine wp_seq ?_
 refine Rl [] [(11, Pr.ex (str ((wbytes [(r).a, (r).b, (r).c, (r).d]) ++ (wbytes [(o).a, (o).b, (o).c, (o).d])))), (12, Pr.ex (Dg.val (of ((wbytes [(r).a, (r).b, (r).c, (r).d]) ++ (wbytes [(o).a, (o).b, (o).c, (o).d]))))), (13, Pr.ex (Dg.val (of (([108, 105, 110, 107] : List UInt8))))), (14, Pr.ex (Dg.val (pair (of ((wbytes [(r).a, (r).b, (r).c, (r).d]) ++ (wbytes [(o).a, (o).b, (o).c, (o).d]))) (of (([108, 105, 110, 107] : List UInt8))))))] 4 N2 D2 ?_ ?_
 refine Ac ?_ (Ac ?_ (Ac ?_ (Ac ?_ (Az _))))
 exact Am s3_2 rfl fun _ => rfl
 exact Ap fun aq wq _ hO hR hT => does_ret (vs := #[str ((wbytes [(r).a, (r).b, (r).c, (r).d]) ++ (wbytes [(o).a, (o).b, (o).c, (o).d]))]) call_22 (args1 (hT 11 rfl rfl)) rfl ((of_ ((wbytes [(r).a, (r).b, (r).c, (r).d]) ++ (wbytes [(o).a, (o).b, (o).c, (o).d])) wq (hL.ext (E2.trans hR)) (by simp [bytes_length])).mono fun v w2 h => ⟨h.2, h.1⟩)
 exact Ap fun aq wq _ hO hR hT => does_ret (vs := #[str (([108, 105, 110, 107] : List UInt8))]) call_22 (args1 rfl) rfl ((of_ (([108, 105, 110, 107] : List UInt8)) wq (hL.ext (E2.trans hR)) (by simp [bytes_length])).mono fun v w2 h => ⟨h.2, h.1⟩)
 exact Ap fun aq wq _ hO hR hT => does_ret (vs := #[Dg.val (of ((wbytes [(r).a, (r).b, (r).c, (r).d]) ++ (wbytes [(o).a, (o).b, (o).c, (o).d]))), Dg.val (of (([108, 105, 110, 107] : List UInt8)))]) call_21 (args2 (hT 12 rfl rfl) (hT 13 rfl rfl)) rfl ((pair_ (of ((wbytes [(r).a, (r).b, (r).c, (r).d]) ++ (wbytes [(o).a, (o).b, (o).c, (o).d]))) (of (([108, 105, 110, 107] : List UInt8))) wq (hL.ext (E2.trans hR))).mono fun v w2 h => ⟨h.2, h.1⟩)
 intro a3 wd3 N3 D3 hO hR hA hU
 obtain ⟨_, _, _, t14, _⟩ := hA
 have E3 := E2.trans hR
 have s2_3 := oT hO s2_2 rfl
 have B1_3 := B1_2.ext' hR
 have B2_3 := B2_2.ext' hR
 have s14_3 : get a3 14 = Dg.val (pair (of ((wbytes [(r).a, (r).b, (r).c, (r).d]) ++ (wbytes [(o).a, (o).b, (o).c, (o).d]))) (of (([108, 105, 110, 107] : List UInt8)))) := t14
 clear E2 N2 D2 s2_2 s3_2 B1_2 B2_2
 refine tail_none rfl rfl (does_storeD (o := 0) (n := 4) (cs' := [w32 (pair (of ((wbytes [(r).a, (r).b, (r).c, (r).d]) ++ (wbytes [(o).a, (o).b, (o).c, (o).d]))) (of (([108, 105, 110, 107] : List UInt8)))).a, w32 (pair (of ((wbytes [(r).a, (r).b, (r).c, (r).d]) ++ (wbytes [(o).a, (o).b, (o).c, (o).d]))) (of (([108, 105, 110, 107] : List UInt8)))).b, w32 (pair (of ((wbytes [(r).a, (r).b, (r).c, (r).d]) ++ (wbytes [(o).a, (o).b, (o).c, (o).d]))) (of (([108, 105, 110, 107] : List UInt8)))).c, w32 (pair (of ((wbytes [(r).a, (r).b, (r).c, (r).d]) ++ (wbytes [(o).a, (o).b, (o).c, (o).d]))) (of (([108, 105, 110, 107] : List UInt8)))).d]) (V := Dg.val (pair (of ((wbytes [(r).a, (r).b, (r).c, (r).d]) ++ (wbytes [(o).a, (o).b, (o).c, (o).d]))) (of (([108, 105, 110, 107] : List UInt8))))) s2_3 s14_3 B2_3 (nB rfl) rfl siz_24 rfl rfl (fun wd4 hX hz B2_4 => ?_))
 have E4 := E3.since hX (fun k e => e ▸ fr_b2)
 have B1_4 := B1_3.ext hX ne_b1_b2
 clear hX hz E3 B1_3 B2_3
 refine tail_nil ?_
 refine wp_ret ?_
 refine res_one (V := Dg.val (pair (of ((wbytes [(r).a, (r).b, (r).c, (r).d]) ++ (wbytes [(o).a, (o).b, (o).c, (o).d]))) (of (([108, 105, 110, 107] : List UInt8))))) rfl D3 (ResIs.cell s2_3 B2_4 row_24 rfl rfl) ?_
 exact ⟨by show Dg.val _ = Dg.val _; rw [linkOf_eq], E4⟩

theorem linkB (r o : Dg) (w0 : World) :
    Gives Tryd.prog 25 #[Value.agg #[w32 (r).a, w32 (r).b, w32 (r).c, w32 (r).d, w32 (o).a, w32 (o).b, w32 (o).c, w32 (o).d]] w0 (Pr.ex (str (wbytes [r.a, r.b, r.c, r.d, o.a, o.b, o.c, o.d]))) := by
 refine enter (N := 27) Tryd.func25 rfl rfl ?_
 intro a0 N0 D0 hA
 have s0_0 : get a0 0 = Value.agg #[w32 (r).a, w32 (r).b, w32 (r).c, w32 (r).d, w32 (o).a, w32 (o).b, w32 (o).c, w32 (o).d] := hA 0 _ rfl
 clear hA
 have E0 : Ext w0 w0 := Ext.refl w0
 refine wp_seq ?_
 refine Rl [1] [(1, Pr.box' w0.heap.size 26 [w32 (r).a, w32 (r).b, w32 (r).c, w32 (r).d, w32 (o).a, w32 (o).b, w32 (o).c, w32 (o).d]), (2, Pr.ex (str (([] : List UInt8))))] 2 N0 D0 ?_ ?_
 refine Ac ?_ (Ac ?_ (Az _))
 refine Ask.fresh rfl rfl ?_
 intro aq wq hNq hO hR hT
 exact does_box (V := Value.agg #[w32 (r).a, w32 (r).b, w32 (r).c, w32 (r).d, w32 (o).a, w32 (o).b, w32 (o).c, w32 (o).d]) (oT hO s0_0 rfl) (fun b w2 he hlo hb => ⟨he, ⟨b, rfl, Nat.le_trans hR.size' hlo, hb⟩, ⟨b, rfl, hlo, hb.lt⟩⟩)
 exact Ap fun aq wq _ hO hR hT => does_assign (V := str (([] : List UInt8))) rfl eR
 intro a1 wd1 N1 D1 hO hR hA hU
 obtain ⟨t1, _, _⟩ := hA
 have E1 := E0.trans hR
 obtain ⟨b1, s1_1, lo_b1, B1_1⟩ := t1
 have fr_b1 : w0.heap.size ≤ b1 := Nat.le_trans E0.size' lo_b1
 clear E0 N0 D0 s0_0
 refine tail_nil ?_
 refine wp_seq ?_
 refine Rl [3] [(5, Pr.ex (Value.pointer (some ⟨b1, 0, none⟩))), (6, Pr.ex (Dg.val (r))), (3, Pr.box' wd1.heap.size 24 [w32 (Dg.zero).a, w32 (Dg.zero).b, w32 (Dg.zero).c, w32 (Dg.zero).d])] 3 N1 D1 ?_ ?_
 refine Ac ?_ (Ac ?_ (Ac ?_ (Az _)))
 exact Ap fun aq wq _ hO hR hT => does_field (o' := 0) fld_26_0 (oT hO s1_1 rfl) rfl eR
 exact Ap fun aq wq _ hO hR hT => does_loadD (o := 0) (n := 4) (mid := [w32 (r).a, w32 (r).b, w32 (r).c, w32 (r).d]) (hT 5 rfl rfl) (B1_1.ext' hR) rfl rfl (nB rfl) row_24 rfl eR
 refine Ask.fresh rfl rfl ?_
 intro aq wq hNq hO hR hT
 exact does_alloc zero_24 (fun b w2 he hlo hb => ⟨he, ⟨b, rfl, Nat.le_trans hR.size' hlo, hb⟩, ⟨b, rfl, hlo, hb.lt⟩⟩)
 intro a2 wd2 N2 D2 hO hR hA hU
 obtain ⟨_, t6, t3, _⟩ := hA
 have E2 := E1.trans hR
 have s1_2 := oT hO s1_1 rfl
 have B1_2 := B1_1.ext' hR
 have s6_2 : get a2 6 = Dg.val (r) := t6
 obtain ⟨b3, s3_2, lo_b3, B3_2⟩ := t3
 have ne_b1_b3 := Hl B1_1 lo_b3
 have fr_b3 : w0.heap.size ≤ b3 := Nat.le_trans E1.size' lo_b3
 clear E1 N1 D1 s1_1 B1_1
 refine tail_none rfl rfl (does_storeD (o := 0) (n := 4) (cs' := [w32 (r).a, w32 (r).b, w32 (r).c, w32 (r).d]) (V := Dg.val (r)) s3_2 s6_2 B3_2 (nB rfl) rfl siz_24 rfl rfl (fun wd3 hX hz B3_3 => ?_))
 have E3 := E2.since hX (fun k e => e ▸ fr_b3)
 have B1_3 := B1_2.ext hX ne_b1_b3
 clear hX hz E2 B1_2 B3_2
 refine tail_nil ?_
 refine wp_seq ?_
 refine Rl [4] [(7, Pr.ex (Value.pointer (some ⟨b1, 4, none⟩))), (8, Pr.ex (Dg.val (o))), (4, Pr.box' wd3.heap.size 24 [w32 (Dg.zero).a, w32 (Dg.zero).b, w32 (Dg.zero).c, w32 (Dg.zero).d])] 3 N2 D2 ?_ ?_
 refine Ac ?_ (Ac ?_ (Ac ?_ (Az _)))
 exact Ap fun aq wq _ hO hR hT => does_field (o' := 4) fld_26_1 (oT hO s1_2 rfl) rfl eR
 exact Ap fun aq wq _ hO hR hT => does_loadD (o := 4) (n := 4) (mid := [w32 (o).a, w32 (o).b, w32 (o).c, w32 (o).d]) (hT 7 rfl rfl) (B1_3.ext' hR) rfl rfl (nB rfl) row_24 rfl eR
 refine Ask.fresh rfl rfl ?_
 intro aq wq hNq hO hR hT
 exact does_alloc zero_24 (fun b w2 he hlo hb => ⟨he, ⟨b, rfl, Nat.le_trans hR.size' hlo, hb⟩, ⟨b, rfl, hlo, hb.lt⟩⟩)
 intro a4 wd4 N4 D4 hO hR hA hU
 obtain ⟨_, t8, t4, _⟩ := hA
 have E4 := E3.trans hR
 have s3_4 := oT hO s3_2 rfl
 have B1_4 := B1_3.ext' hR
 have B3_4 := B3_3.ext' hR
 have s8_4 : get a4 8 = Dg.val (o) := t8
 obtain ⟨b4, s4_4, lo_b4, B4_4⟩ := t4
 have ne_b1_b4 := Hl B1_3 lo_b4
 have ne_b3_b4 := Hl B3_3 lo_b4
 have fr_b4 : w0.heap.size ≤ b4 := Nat.le_trans E3.size' lo_b4
 clear E3 N2 D2 s1_2 s3_2 s6_2 B1_3 B3_3
 refine tail_none rfl rfl (does_storeD (o := 0) (n := 4) (cs' := [w32 (o).a, w32 (o).b, w32 (o).c, w32 (o).d]) (V := Dg.val (o)) s4_4 s8_4 B4_4 (nB rfl) rfl siz_24 rfl rfl (fun wd5 hX hz B4_5 => ?_))
 have E5 := E4.since hX (fun k e => e ▸ fr_b4)
 have B1_5 := B1_4.ext hX ne_b1_b4
 have B3_5 := B3_4.ext hX ne_b3_b4
 clear hX hz E4 B1_4 B3_4 B4_4
 refine tail_nil ?_
 refine wp_seq ?_
 refine Rl [] [(9, Pr.ex (Value.pointer (some ⟨b3, 0, none⟩))), (10, Pr.ex (w32 ((r).a))), (11, Pr.ex (Value.pointer (some ⟨b3, 1, none⟩))), (12, Pr.ex (w32 ((r).b))), (13, Pr.ex (Value.pointer (some ⟨b3, 2, none⟩))), (14, Pr.ex (w32 ((r).c))), (15, Pr.ex (Value.pointer (some ⟨b3, 3, none⟩))), (16, Pr.ex (w32 ((r).d))), (17, Pr.ex (Value.pointer (some ⟨b4, 0, none⟩))), (18, Pr.ex (w32 ((o).a))), (19, Pr.ex (Value.pointer (some ⟨b4, 1, none⟩))), (20, Pr.ex (w32 ((o).b))), (21, Pr.ex (Value.pointer (some ⟨b4, 2, none⟩))), (22, Pr.ex (w32 ((o).c))), (23, Pr.ex (Value.pointer (some ⟨b4, 3, none⟩))), (24, Pr.ex (w32 ((o).d))), (25, Pr.own' W32 wd5.heap.size 22 ([(r).a, (r).b, (r).c, (r).d, (o).a, (o).b, (o).c, (o).d])), (26, Pr.ex (str (wbytes [(r).a, (r).b, (r).c, (r).d, (o).a, (o).b, (o).c, (o).d]))), (2, Pr.ex (str (wbytes [(r).a, (r).b, (r).c, (r).d, (o).a, (o).b, (o).c, (o).d])))] 19 N4 D4 ?_ ?_
 refine Ac ?_ (Ac ?_ (Ac ?_ (Ac ?_ (Ac ?_ (Ac ?_ (Ac ?_ (Ac ?_ (Ac ?_ (Ac ?_ (Ac ?_ (Ac ?_ (Ac ?_ (Ac ?_ (Ac ?_ (Ac ?_ (Ac ?_ (Ac ?_ (Ac ?_ (Az _)))))))))))))))))))
 exact Ap fun aq wq _ hO hR hT => does_indexArr (k := .i64) (i := 0) (o' := 0) arr_24 (oT hO s3_4 rfl) rfl (by decide) (by decide) rfl eR
 exact Ap fun aq wq _ hO hR hT => does_loadD1 (o := 0) (V := w32 ((r).a)) (hT 9 rfl rfl) (B3_5.ext' hR) rfl one_22 eR
 exact Ap fun aq wq _ hO hR hT => does_indexArr (k := .i64) (i := 1) (o' := 1) arr_24 (oT hO s3_4 rfl) rfl (by decide) (by decide) rfl eR
 exact Ap fun aq wq _ hO hR hT => does_loadD1 (o := 1) (V := w32 ((r).b)) (hT 11 rfl rfl) (B3_5.ext' hR) rfl one_22 eR
 exact Ap fun aq wq _ hO hR hT => does_indexArr (k := .i64) (i := 2) (o' := 2) arr_24 (oT hO s3_4 rfl) rfl (by decide) (by decide) rfl eR
 exact Ap fun aq wq _ hO hR hT => does_loadD1 (o := 2) (V := w32 ((r).c)) (hT 13 rfl rfl) (B3_5.ext' hR) rfl one_22 eR
 exact Ap fun aq wq _ hO hR hT => does_indexArr (k := .i64) (i := 3) (o' := 3) arr_24 (oT hO s3_4 rfl) rfl (by decide) (by decide) rfl eR
 exact Ap fun aq wq _ hO hR hT => does_loadD1 (o := 3) (V := w32 ((r).d)) (hT 15 rfl rfl) (B3_5.ext' hR) rfl one_22 eR
 exact Ap fun aq wq _ hO hR hT => does_indexArr (k := .i64) (i := 0) (o' := 0) arr_24 (oT hO s4_4 rfl) rfl (by decide) (by decide) rfl eR
 exact Ap fun aq wq _ hO hR hT => does_loadD1 (o := 0) (V := w32 ((o).a)) (hT 17 rfl rfl) (B4_5.ext' hR) rfl one_22 eR
 exact Ap fun aq wq _ hO hR hT => does_indexArr (k := .i64) (i := 1) (o' := 1) arr_24 (oT hO s4_4 rfl) rfl (by decide) (by decide) rfl eR
 exact Ap fun aq wq _ hO hR hT => does_loadD1 (o := 1) (V := w32 ((o).b)) (hT 19 rfl rfl) (B4_5.ext' hR) rfl one_22 eR
 exact Ap fun aq wq _ hO hR hT => does_indexArr (k := .i64) (i := 2) (o' := 2) arr_24 (oT hO s4_4 rfl) rfl (by decide) (by decide) rfl eR
 exact Ap fun aq wq _ hO hR hT => does_loadD1 (o := 2) (V := w32 ((o).c)) (hT 21 rfl rfl) (B4_5.ext' hR) rfl one_22 eR
 exact Ap fun aq wq _ hO hR hT => does_indexArr (k := .i64) (i := 3) (o' := 3) arr_24 (oT hO s4_4 rfl) rfl (by decide) (by decide) rfl eR
 exact Ap fun aq wq _ hO hR hT => does_loadD1 (o := 3) (V := w32 ((o).d)) (hT 23 rfl rfl) (B4_5.ext' hR) rfl one_22 eR
 exact Ap fun aq wq _ hO hR hT => does_sliceN (T := W32) (xs := [(r).a, (r).b, (r).c, (r).d, (o).a, (o).b, (o).c, (o).d]) (vs := [w32 ((r).a), w32 ((r).b), w32 ((r).c), w32 ((r).d), w32 ((o).a), w32 ((o).b), w32 ((o).c), w32 ((o).d)]) app_58 rfl (parts8 (hT 10 rfl rfl) (hT 12 rfl rfl) (hT 14 rfl rfl) (hT 16 rfl rfl) (hT 18 rfl rfl) (hT 20 rfl rfl) (hT 22 rfl rfl) (hT 24 rfl rfl)) rfl (by decide) (by decide) rfl (fun v w2 he _ ho => ⟨he, OwnT.base ho hR.size'⟩)
 exact Ap fun aq wq _ hO hR hT => does_ret (vs := #[get aq 25]) call_39 (args1 rfl) rfl ((bytesR ([(r).a, (r).b, (r).c, (r).d, (o).a, (o).b, (o).c, (o).d]) (get aq 25) wq (((OwnT.sl (hT 25 rfl rfl)).wide (Nat.zero_le _) (.inl rfl)).wide (Nat.zero_le _) (.inl rfl)) (by simp)).mono fun v w2 h => ⟨h.2, h.1⟩)
 exact Ap fun aq wq _ hO hR hT => does_assign (V := str (wbytes [(r).a, (r).b, (r).c, (r).d, (o).a, (o).b, (o).c, (o).d])) (hT 26 rfl rfl) eR
 intro a6 wd6 N6 D6 hO hR hA hU
 obtain ⟨_, _, _, _, _, _, _, _, _, _, _, _, _, _, _, _, _, _, t2, _⟩ := hA
 have E6 := E5.trans hR
 have B1_6 := B1_5.ext' hR
 have B3_6 := B3_5.ext' hR
 have B4_6 := B4_5.ext' hR
 have s2_6 : get a6 2 = str (wbytes [(r).a, (r).b, (r).c, (r).d, (o).a, (o).b, (o).c, (o).d]) := t2
 clear E5 N4 D4 s3_4 s4_4 s8_4 B1_5 B3_5 B4_5
 refine tail_nil ?_
 refine wp_ret ?_
 refine res_one (V := str (wbytes [(r).a, (r).b, (r).c, (r).d, (o).a, (o).b, (o).c, (o).d])) rfl D6 s2_6 ?_
 exact ⟨rfl, E6⟩

theorem linkOfR (r o : Dg) (w0 : World) :
    Gives Tryd.prog 11 #[Value.agg #[w32 (r).a, w32 (r).b, w32 (r).c, w32 (r).d, w32 (o).a, w32 (o).b, w32 (o).c, w32 (o).d]] w0 (Pr.ex (Dg.val (linkOf r o))) := by
 refine enter (N := 8) Tryd.func11 rfl rfl ?_
 intro a0 N0 D0 hA
 have s0_0 : get a0 0 = Value.agg #[w32 (r).a, w32 (r).b, w32 (r).c, w32 (r).d, w32 (o).a, w32 (o).b, w32 (o).c, w32 (o).d] := hA 0 _ rfl
 clear hA
 have E0 : Ext w0 w0 := Ext.refl w0
 refine wp_seq ?_
 refine Rl [1, 2] [(1, Pr.box' w0.heap.size 26 [w32 (r).a, w32 (r).b, w32 (r).c, w32 (r).d, w32 (o).a, w32 (o).b, w32 (o).c, w32 (o).d]), (2, Pr.box' w0.heap.size 24 [w32 (Dg.zero).a, w32 (Dg.zero).b, w32 (Dg.zero).c, w32 (Dg.zero).d])] 2 N0 D0 ?_ ?_
 refine Ac ?_ (Ac ?_ (Az _))
 refine Ask.fresh rfl rfl ?_
 intro aq wq hNq hO hR hT
 exact does_box (V := Value.agg #[w32 (r).a, w32 (r).b, w32 (r).c, w32 (r).d, w32 (o).a, w32 (o).b, w32 (o).c, w32 (o).d]) (oT hO s0_0 rfl) (fun b w2 he hlo hb => ⟨he, ⟨b, rfl, Nat.le_trans hR.size' hlo, hb⟩, ⟨b, rfl, hlo, hb.lt⟩⟩)
 refine Ask.fresh rfl rfl ?_
 intro aq wq hNq hO hR hT
 exact does_alloc zero_24 (fun b w2 he hlo hb => ⟨he, ⟨b, rfl, Nat.le_trans hR.size' hlo, hb⟩, ⟨b, rfl, hlo, hb.lt⟩⟩)
 intro a1 wd1 N1 D1 hO hR hA hU
 obtain ⟨t1, t2, _⟩ := hA
 have E1 := E0.trans hR
 obtain ⟨b1, s1_1, lo_b1, B1_1⟩ := t1
 have fr_b1 : w0.heap.size ≤ b1 := Nat.le_trans E0.size' lo_b1
 obtain ⟨b2, s2_1, lo_b2, B2_1⟩ := t2
 have fr_b2 : w0.heap.size ≤ b2 := Nat.le_trans E0.size' lo_b2
 obtain ⟨u0, ⟨u1, _⟩⟩ := hU
 have ne_b1_b2 : b1 ≠ b2 := fun e => u0 2 (by decide) (by rw [s1_1, s2_1, e])
 clear E0 N0 D0 s0_0
 refine tail_nil ?_
 refine wp_seq ?_
 refine Rl [] [(3, Pr.ex (Value.agg #[w32 (r).a, w32 (r).b, w32 (r).c, w32 (r).d, w32 (o).a, w32 (o).b, w32 (o).c, w32 (o).d])), (4, Pr.ex (str (wbytes [r.a, r.b, r.c, r.d, o.a, o.b, o.c, o.d]))), (5, Pr.ex (Dg.val (of (wbytes [r.a, r.b, r.c, r.d, o.a, o.b, o.c, o.d])))), (6, Pr.ex (Dg.val (of (([108, 105, 110, 107] : List UInt8))))), (7, Pr.ex (Dg.val (pair (of (wbytes [r.a, r.b, r.c, r.d, o.a, o.b, o.c, o.d])) (of (([108, 105, 110, 107] : List UInt8))))))] 5 N1 D1 ?_ ?_
 refine Ac ?_ (Ac ?_ (Ac ?_ (Ac ?_ (Ac ?_ (Az _)))))
 exact Ap fun aq wq _ hO hR hT => does_loadD (o := 0) (n := 8) (mid := [w32 (r).a, w32 (r).b, w32 (r).c, w32 (r).d, w32 (o).a, w32 (o).b, w32 (o).c, w32 (o).d]) (oT hO s1_1 rfl) (B1_1.ext' hR) rfl rfl (nB rfl) row_26 rfl eR
 exact Ap fun aq wq _ hO hR hT => does_ret (vs := #[Value.agg #[w32 (r).a, w32 (r).b, w32 (r).c, w32 (r).d, w32 (o).a, w32 (o).b, w32 (o).c, w32 (o).d]]) call_25 (args1 (hT 3 rfl rfl)) rfl ((linkB r o wq).mono fun v w2 h => ⟨h.2, h.1⟩)
 exact Ap fun aq wq _ hO hR hT => does_ret (vs := #[str (wbytes [r.a, r.b, r.c, r.d, o.a, o.b, o.c, o.d])]) call_24 (args1 (hT 4 rfl rfl)) rfl ((ofR (wbytes [r.a, r.b, r.c, r.d, o.a, o.b, o.c, o.d]) wq (by simp [bytes_length])).mono fun v w2 h => ⟨h.2, h.1⟩)
 exact Ap fun aq wq _ hO hR hT => does_ret (vs := #[str (([108, 105, 110, 107] : List UInt8))]) call_24 (args1 rfl) rfl ((ofR (([108, 105, 110, 107] : List UInt8)) wq (by simp [bytes_length])).mono fun v w2 h => ⟨h.2, h.1⟩)
 exact Ap fun aq wq _ hO hR hT => does_ret (vs := #[Dg.val (of (wbytes [r.a, r.b, r.c, r.d, o.a, o.b, o.c, o.d])), Dg.val (of (([108, 105, 110, 107] : List UInt8)))]) call_23 (args2 (hT 5 rfl rfl) (hT 6 rfl rfl)) rfl ((pairR (of (wbytes [r.a, r.b, r.c, r.d, o.a, o.b, o.c, o.d])) (of (([108, 105, 110, 107] : List UInt8))) wq).mono fun v w2 h => ⟨h.2, h.1⟩)
 intro a2 wd2 N2 D2 hO hR hA hU
 obtain ⟨_, _, _, _, t7, _⟩ := hA
 have E2 := E1.trans hR
 have s2_2 := oT hO s2_1 rfl
 have B1_2 := B1_1.ext' hR
 have B2_2 := B2_1.ext' hR
 have s7_2 : get a2 7 = Dg.val (pair (of (wbytes [r.a, r.b, r.c, r.d, o.a, o.b, o.c, o.d])) (of (([108, 105, 110, 107] : List UInt8)))) := t7
 clear E1 N1 D1 s1_1 s2_1 B1_1 B2_1
 refine tail_none rfl rfl (does_storeD (o := 0) (n := 4) (cs' := [w32 (pair (of (wbytes [r.a, r.b, r.c, r.d, o.a, o.b, o.c, o.d])) (of (([108, 105, 110, 107] : List UInt8)))).a, w32 (pair (of (wbytes [r.a, r.b, r.c, r.d, o.a, o.b, o.c, o.d])) (of (([108, 105, 110, 107] : List UInt8)))).b, w32 (pair (of (wbytes [r.a, r.b, r.c, r.d, o.a, o.b, o.c, o.d])) (of (([108, 105, 110, 107] : List UInt8)))).c, w32 (pair (of (wbytes [r.a, r.b, r.c, r.d, o.a, o.b, o.c, o.d])) (of (([108, 105, 110, 107] : List UInt8)))).d]) (V := Dg.val (pair (of (wbytes [r.a, r.b, r.c, r.d, o.a, o.b, o.c, o.d])) (of (([108, 105, 110, 107] : List UInt8))))) s2_2 s7_2 B2_2 (nB rfl) rfl siz_24 rfl rfl (fun wd3 hX hz B2_3 => ?_))
 have E3 := E2.since hX (fun k e => e ▸ fr_b2)
 have B1_3 := B1_2.ext hX ne_b1_b2
 clear hX hz E2 B1_2 B2_2
 refine tail_nil ?_
 refine wp_ret ?_
 refine res_one (V := Dg.val (pair (of (wbytes [r.a, r.b, r.c, r.d, o.a, o.b, o.c, o.d])) (of (([108, 105, 110, 107] : List UInt8))))) rfl D2 (ResIs.cell s2_2 B2_3 row_24 rfl rfl) ?_
 exact ⟨rfl, E3⟩

end Go.Proofs.YtmmghpbncejfiaaDoor
