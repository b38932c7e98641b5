/- The walks of functions of the program: printed. -/
import Derived.Test.YtmmghpbncejfiaaDoorKB
import Derived.Test.YtmmghpbncejfiaaDoorG94
import Derived.Test.YtmmghpbncejfiaaDoorG96
import Derived.Test.YtmmghpbncejfiaaDoorG110
import Derived.Test.YtmmghpbncejfiaaDoorG111
import Derived.Test.YtmmghpbncejfiaaDoorG112
import Derived.Test.YtmmghpbncejfiaaDoorG113
import Derived.Test.YtmmghpbncejfiaaDoorF0
set_option maxRecDepth 100000
namespace Go.Proofs.YtmmghpbncejfiaaDoor
open Go Go.RowKit Sk Sd
theorem call_8 : Callable Tryd.prog 8 := ⟨_, Tryd.func8, by kernel_rfl, rfl⟩
theorem call_17 : Callable Tryd.prog 17 := ⟨_, Tryd.func17, by kernel_rfl, rfl⟩
theorem call_18 : Callable Tryd.prog 18 := ⟨_, Tryd.func18, by kernel_rfl, rfl⟩
theorem call_19 : Callable Tryd.prog 19 := ⟨_, Tryd.func19, by kernel_rfl, rfl⟩
theorem linkShown (seed ra oa rb ob : Dg) (w0 : World) (hL : Laid w0) :
    Gives Tryd.prog 6 #[Dg.val (seed), Value.agg #[w32 (ra).a, w32 (ra).b, w32 (ra).c, w32 (ra).d, w32 (oa).a, w32 (oa).b, w32 (oa).c, w32 (oa).d], Value.agg #[w32 (rb).a, w32 (rb).b, w32 (rb).c, w32 (rb).d, w32 (ob).a, w32 (ob).b, w32 (ob).c, w32 (ob).d]] w0 (Pr.ex (Value.bool true)) := by
 refine enter (N := 94) Tryd.func6 rfl rfl ?_
 intro a0 N0 D0 hA
 have s0_0 : get a0 0 = Dg.val (seed) := hA 0 _ rfl
 have s1_0 : get a0 1 = Value.agg #[w32 (ra).a, w32 (ra).b, w32 (ra).c, w32 (ra).d, w32 (oa).a, w32 (oa).b, w32 (oa).c, w32 (oa).d] := hA 1 _ rfl
 have s2_0 : get a0 2 = Value.agg #[w32 (rb).a, w32 (rb).b, w32 (rb).c, w32 (rb).d, w32 (ob).a, w32 (ob).b, w32 (ob).c, w32 (ob).d] := hA 2 _ rfl
 clear hA
 have E0 : Ext w0 w0 := Ext.refl w0
 refine wp_seq ?_
 refine Rl [3, 4, 5] [(3, Pr.box' w0.heap.size 24 [w32 (seed).a, w32 (seed).b, w32 (seed).c, w32 (seed).d]), (4, Pr.box' w0.heap.size 26 [w32 (ra).a, w32 (ra).b, w32 (ra).c, w32 (ra).d, w32 (oa).a, w32 (oa).b, w32 (oa).c, w32 (oa).d]), (5, Pr.box' w0.heap.size 26 [w32 (rb).a, w32 (rb).b, w32 (rb).c, w32 (rb).d, w32 (ob).a, w32 (ob).b, w32 (ob).c, w32 (ob).d]), (6, Pr.ex (Value.bool (false)))] 4 N0 D0 ?_ ?_
 refine Ac ?_ (Ac ?_ (Ac ?_ (Ac ?_ (Az _))))
 refine Ask.fresh rfl rfl ?_
 intro aq wq hNq hO hR hT
 exact does_box (V := Dg.val (seed)) (oT hO s0_0 rfl) (fun b w2 he hlo hb => ⟨he, ⟨b, rfl, Nat.le_trans hR.size' hlo, hb⟩, ⟨b, rfl, hlo, hb.lt⟩⟩)
 refine Ask.fresh rfl rfl ?_
 intro aq wq hNq hO hR hT
 exact does_box (V := Value.agg #[w32 (ra).a, w32 (ra).b, w32 (ra).c, w32 (ra).d, w32 (oa).a, w32 (oa).b, w32 (oa).c, w32 (oa).d]) (oT hO s1_0 rfl) (fun b w2 he hlo hb => ⟨he, ⟨b, rfl, Nat.le_trans hR.size' hlo, hb⟩, ⟨b, rfl, hlo, hb.lt⟩⟩)
 refine Ask.fresh rfl rfl ?_
 intro aq wq hNq hO hR hT
 exact does_box (V := Value.agg #[w32 (rb).a, w32 (rb).b, w32 (rb).c, w32 (rb).d, w32 (ob).a, w32 (ob).b, w32 (ob).c, w32 (ob).d]) (oT hO s2_0 rfl) (fun b w2 he hlo hb => ⟨he, ⟨b, rfl, Nat.le_trans hR.size' hlo, hb⟩, ⟨b, rfl, hlo, hb.lt⟩⟩)
 exact Ap fun aq wq _ hO hR hT => does_assign (V := Value.bool (false)) rfl eR
 intro a1 wd1 N1 D1 hO hR hA hU
 obtain ⟨t3, t4, t5, _, _⟩ := hA
 have E1 := E0.trans hR
 obtain ⟨b3, s3_1, lo_b3, B3_1⟩ := t3
 have fr_b3 : w0.heap.size ≤ b3 := Nat.le_trans E0.size' lo_b3
 obtain ⟨b4, s4_1, lo_b4, B4_1⟩ := t4
 have fr_b4 : w0.heap.size ≤ b4 := Nat.le_trans E0.size' lo_b4
 obtain ⟨b5, s5_1, lo_b5, B5_1⟩ := t5
 have fr_b5 : w0.heap.size ≤ b5 := Nat.le_trans E0.size' lo_b5
 obtain ⟨u0, ⟨u1, ⟨u2, _⟩⟩⟩ := hU
 have ne_b3_b4 : b3 ≠ b4 := fun e => u0 4 (by decide) (by rw [s3_1, s4_1, e])
 have ne_b3_b5 : b3 ≠ b5 := fun e => u0 5 (by decide) (by rw [s3_1, s5_1, e])
 have ne_b4_b5 : b4 ≠ b5 := fun e => u1 5 (by decide) (by rw [s4_1, s5_1, e])
 clear E0 N0 D0 s0_0 s1_0 s2_0
 refine tail_nil ?_
 refine wp_seq ?_
 refine wp_seq ?_
 refine Rl [] [(18, Pr.ex (Value.bool (true))), (19, Pr.ex (Value.bool (false)))] 2 N1 D1 ?_ ?_
 refine Ac ?_ (Ac ?_ (Az _))
 exact Ap fun aq wq _ hO hR hT => does_ret (vs := #[]) call_8 args0 rfl ((awake44 wq (hL.ext (E1.trans hR))).mono fun v w2 h => ⟨h.2, h.1⟩)
 exact Ap fun aq wq _ hO hR hT => does_not (B := true) (hT 18 rfl rfl) eR
 intro a2 wd2 N2 D2 hO hR hA hU
 obtain ⟨_, t19, _⟩ := hA
 have E2 := E1.trans hR
 have s3_2 := oT hO s3_1 rfl
 have s4_2 := oT hO s4_1 rfl
 have s5_2 := oT hO s5_1 rfl
 have B3_2 := B3_1.ext' hR
 have B4_2 := B4_1.ext' hR
 have B5_2 := B5_1.ext' hR
 have s19_2 : get a2 19 = Value.bool (false) := t19
 clear E1 N1 D1 s3_1 s4_1 s5_1 B3_1 B4_1 B5_1
 refine tail_nil ?_
 refine wp_ifF s19_2 ?_
 refine wp_skip ?_
 refine wp_seq ?_
 refine Rl [7] [(21, Pr.ex (Dg.val (seed))), (22, Pr.ex (Value.tuple #[Value.agg #[w32 (seed).a, w32 (seed).b, w32 (seed).c, w32 (seed).d, i64 ((1 : Nat) : Int), i64 ((0 : Nat) : Int)], i64 ((0 : Nat) : Int)])), (20, Pr.ex (Value.tuple #[Value.agg #[w32 (seed).a, w32 (seed).b, w32 (seed).c, w32 (seed).d, i64 ((1 : Nat) : Int), i64 ((0 : Nat) : Int)], i64 ((0 : Nat) : Int)])), (23, Pr.ex (Value.agg #[w32 (seed).a, w32 (seed).b, w32 (seed).c, w32 (seed).d, i64 ((1 : Nat) : Int), i64 ((0 : Nat) : Int)])), (24, Pr.ex (i64 ((0 : Nat) : Int))), (7, Pr.box' wd2.heap.size 45 [w32 (Dg.zero).a, w32 (Dg.zero).b, w32 (Dg.zero).c, w32 (Dg.zero).d, i64 ((0 : Nat) : Int), i64 ((0 : Nat) : Int)])] 6 N2 D2 ?_ ?_
 refine Ac ?_ (Ac ?_ (Ac ?_ (Ac ?_ (Ac ?_ (Ac ?_ (Az _))))))
 exact Ap fun aq wq _ hO hR hT => does_loadD (o := 0) (n := 4) (mid := [w32 (seed).a, w32 (seed).b, w32 (seed).c, w32 (seed).d]) (oT hO s3_2 rfl) (B3_2.ext' hR) rfl rfl (nB rfl) row_24 rfl eR
 exact Ap fun aq wq _ hO hR hT => does_ret (vs := #[Dg.val (seed), i64 ((1 : Nat) : Int)]) call_17 (args2 (hT 21 rfl rfl) rfl) rfl ((keyNew_k seed 1 wq (by decide)).mono fun v w2 h => ⟨h.2, h.1⟩)
 exact Ap fun aq wq _ hO hR hT => does_move (V := Value.tuple #[Value.agg #[w32 (seed).a, w32 (seed).b, w32 (seed).c, w32 (seed).d, i64 ((1 : Nat) : Int), i64 ((0 : Nat) : Int)], i64 ((0 : Nat) : Int)]) (hT 22 rfl rfl) eR
 exact Ap fun aq wq _ hO hR hT => does_extract (V := Value.agg #[w32 (seed).a, w32 (seed).b, w32 (seed).c, w32 (seed).d, i64 ((1 : Nat) : Int), i64 ((0 : Nat) : Int)]) (hT 20 rfl rfl) rfl eR
 exact Ap fun aq wq _ hO hR hT => does_extract (V := i64 ((0 : Nat) : Int)) (hT 20 rfl rfl) rfl eR
 refine Ask.fresh rfl rfl ?_
 intro aq wq hNq hO hR hT
 exact does_alloc zero_45 (fun b w2 he hlo hb => ⟨he, ⟨b, rfl, Nat.le_trans hR.size' hlo, hb⟩, ⟨b, rfl, hlo, hb.lt⟩⟩)
 intro a3 wd3 N3 D3 hO hR hA hU
 obtain ⟨_, _, _, t23, t24, t7, _⟩ := hA
 have E3 := E2.trans hR
 have s3_3 := oT hO s3_2 rfl
 have s4_3 := oT hO s4_2 rfl
 have s5_3 := oT hO s5_2 rfl
 have B3_3 := B3_2.ext' hR
 have B4_3 := B4_2.ext' hR
 have B5_3 := B5_2.ext' hR
 have s23_3 : get a3 23 = Value.agg #[w32 (seed).a, w32 (seed).b, w32 (seed).c, w32 (seed).d, i64 ((1 : Nat) : Int), i64 ((0 : Nat) : Int)] := t23
 have s24_3 : get a3 24 = i64 ((0 : Nat) : Int) := t24
 obtain ⟨b7, s7_3, lo_b7, B7_3⟩ := t7
 have ne_b3_b7 := Hl B3_2 lo_b7
 have ne_b4_b7 := Hl B4_2 lo_b7
 have ne_b5_b7 := Hl B5_2 lo_b7
 have fr_b7 : w0.heap.size ≤ b7 := Nat.le_trans E2.size' lo_b7
 clear E2 N2 D2 s3_2 s4_2 s5_2 s19_2 B3_2 B4_2 B5_2
 refine tail_none rfl rfl (does_storeD (o := 0) (n := 6) (cs' := [w32 (seed).a, w32 (seed).b, w32 (seed).c, w32 (seed).d, i64 ((1 : Nat) : Int), i64 ((0 : Nat) : Int)]) (V := Value.agg #[w32 (seed).a, w32 (seed).b, w32 (seed).c, w32 (seed).d, i64 ((1 : Nat) : Int), i64 ((0 : Nat) : Int)]) s7_3 s23_3 B7_3 (nB rfl) rfl siz_45 rfl rfl (fun wd4 hX hz B7_4 => ?_))
 have E4 := E3.since hX (fun k e => e ▸ fr_b7)
 have B3_4 := B3_3.ext hX ne_b3_b7
 have B4_4 := B4_3.ext hX ne_b4_b7
 have B5_4 := B5_3.ext hX ne_b5_b7
 clear hX hz E3 B3_3 B4_3 B5_3 B7_3
 refine tail_put rfl rfl N3 D3 (by decide) (does_assign (V := i64 ((0 : Nat) : Int)) s24_3 (fun a5 N5 D5 hv hO => ?_))
 have s8_5 := hv
 have s3_5 := oT hO s3_3 rfl
 have s4_5 := oT hO s4_3 rfl
 have s5_5 := oT hO s5_3 rfl
 have s7_5 := oT hO s7_3 rfl
 clear hO hv N3 D3 s3_3 s4_3 s5_3 s7_3 s23_3 s24_3
 refine tail_nil ?_
 refine wp_seq ?_
 refine Rl [9] [(26, Pr.ex (Dg.val (seed))), (27, Pr.ex (Value.tuple #[Dg.val (root (publics seed (pw 1))), i64 ((0 : Nat) : Int)])), (25, Pr.ex (Value.tuple #[Dg.val (root (publics seed (pw 1))), i64 ((0 : Nat) : Int)])), (28, Pr.ex (Dg.val (root (publics seed (pw 1))))), (29, Pr.ex (i64 ((0 : Nat) : Int))), (9, Pr.box' wd4.heap.size 24 [w32 (Dg.zero).a, w32 (Dg.zero).b, w32 (Dg.zero).c, w32 (Dg.zero).d])] 6 N5 D5 ?_ ?_
 refine Ac ?_ (Ac ?_ (Ac ?_ (Ac ?_ (Ac ?_ (Ac ?_ (Az _))))))
 exact Ap fun aq wq _ hO hR hT => does_loadD (o := 0) (n := 4) (mid := [w32 (seed).a, w32 (seed).b, w32 (seed).c, w32 (seed).d]) (oT hO s3_5 rfl) (B3_4.ext' hR) rfl rfl (nB rfl) row_24 rfl eR
 exact Ap fun aq wq _ hO hR hT => does_ret (vs := #[Dg.val (seed), i64 ((1 : Nat) : Int)]) call_18 (args2 (hT 26 rfl rfl) rfl) rfl ((keyPub_k seed 1 wq (hL.ext (E4.trans hR)) (by decide)).mono fun v w2 h => ⟨h.2, h.1⟩)
 exact Ap fun aq wq _ hO hR hT => does_move (V := Value.tuple #[Dg.val (root (publics seed (pw 1))), i64 ((0 : Nat) : Int)]) (hT 27 rfl rfl) eR
 exact Ap fun aq wq _ hO hR hT => does_extract (V := Dg.val (root (publics seed (pw 1)))) (hT 25 rfl rfl) rfl eR
 exact Ap fun aq wq _ hO hR hT => does_extract (V := i64 ((0 : Nat) : Int)) (hT 25 rfl rfl) rfl eR
 refine Ask.fresh rfl rfl ?_
 intro aq wq hNq hO hR hT
 exact does_alloc zero_24 (fun b w2 he hlo hb => ⟨he, ⟨b, rfl, Nat.le_trans hR.size' hlo, hb⟩, ⟨b, rfl, hlo, hb.lt⟩⟩)
 intro a6 wd6 N6 D6 hO hR hA hU
 obtain ⟨_, _, _, t28, t29, t9, _⟩ := hA
 have E6 := E4.trans hR
 have s4_6 := oT hO s4_5 rfl
 have s5_6 := oT hO s5_5 rfl
 have s7_6 := oT hO s7_5 rfl
 have s8_6 := oT hO s8_5 rfl
 have B3_6 := B3_4.ext' hR
 have B4_6 := B4_4.ext' hR
 have B5_6 := B5_4.ext' hR
 have B7_6 := B7_4.ext' hR
 have s28_6 : get a6 28 = Dg.val (root (publics seed (pw 1))) := t28
 have s29_6 : get a6 29 = i64 ((0 : Nat) : Int) := t29
 obtain ⟨b9, s9_6, lo_b9, B9_6⟩ := t9
 have ne_b3_b9 := Hl B3_4 lo_b9
 have ne_b4_b9 := Hl B4_4 lo_b9
 have ne_b5_b9 := Hl B5_4 lo_b9
 have ne_b7_b9 := Hl B7_4 lo_b9
 have fr_b9 : w0.heap.size ≤ b9 := Nat.le_trans E4.size' lo_b9
 clear E4 N5 D5 s3_5 s4_5 s5_5 s7_5 s8_5 B3_4 B4_4 B5_4 B7_4
 refine tail_none rfl rfl (does_storeD (o := 0) (n := 4) (cs' := [w32 (root (publics seed (pw 1))).a, w32 (root (publics seed (pw 1))).b, w32 (root (publics seed (pw 1))).c, w32 (root (publics seed (pw 1))).d]) (V := Dg.val (root (publics seed (pw 1)))) s9_6 s28_6 B9_6 (nB rfl) rfl siz_24 rfl rfl (fun wd7 hX hz B9_7 => ?_))
 have E7 := E6.since hX (fun k e => e ▸ fr_b9)
 have B3_7 := B3_6.ext hX ne_b3_b9
 have B4_7 := B4_6.ext hX ne_b4_b9
 have B5_7 := B5_6.ext hX ne_b5_b9
 have B7_7 := B7_6.ext hX ne_b7_b9
 clear hX hz E6 B3_6 B4_6 B5_6 B7_6 B9_6
 refine tail_put rfl rfl N6 D6 (by decide) (does_assign (V := i64 ((0 : Nat) : Int)) s29_6 (fun a8 N8 D8 hv hO => ?_))
 have s10_8 := hv
 have s4_8 := oT hO s4_6 rfl
 have s5_8 := oT hO s5_6 rfl
 have s7_8 := oT hO s7_6 rfl
 have s8_8 := oT hO s8_6 rfl
 have s9_8 := oT hO s9_6 rfl
 clear hO hv N6 D6 s4_6 s5_6 s7_6 s8_6 s9_6 s28_6 s29_6
 refine tail_nil ?_
 refine wp_seq ?_
 refine region_late [11] [(31, Pr.ex (Value.agg #[w32 (seed).a, w32 (seed).b, w32 (seed).c, w32 (seed).d, i64 ((1 : Nat) : Int), i64 ((0 : Nat) : Int)])), (32, Pr.ex (Value.agg #[w32 (ra).a, w32 (ra).b, w32 (ra).c, w32 (ra).d, w32 (oa).a, w32 (oa).b, w32 (oa).c, w32 (oa).d])), (33, Pr.ex (Dg.val (linkOf ra oa))), (34, Pr.t3 (Pr.ex (Value.agg #[w32 (seed).a, w32 (seed).b, w32 (seed).c, w32 (seed).d, i64 ((1 : Nat) : Int), i64 ((1 : Nat) : Int)])) (Pr.ag2 (fun x y => Value.agg #[i64 ((0 : Nat) : Int), x, y]) (Pr.own' DG wd7.heap.size 24 (signed (seedAt seed 0) (linkOf ra oa))) (Pr.own' DG wd7.heap.size 24 (way (publics seed (pw 1)) 0))) (Pr.ex (i64 ((0 : Nat) : Int)))), (30, Pr.t3 (Pr.ex (Value.agg #[w32 (seed).a, w32 (seed).b, w32 (seed).c, w32 (seed).d, i64 ((1 : Nat) : Int), i64 ((1 : Nat) : Int)])) (Pr.ag2 (fun x y => Value.agg #[i64 ((0 : Nat) : Int), x, y]) (Pr.own' DG wd7.heap.size 24 (signed (seedAt seed 0) (linkOf ra oa))) (Pr.own' DG wd7.heap.size 24 (way (publics seed (pw 1)) 0))) (Pr.ex (i64 ((0 : Nat) : Int)))), (35, Pr.ex (Value.agg #[w32 (seed).a, w32 (seed).b, w32 (seed).c, w32 (seed).d, i64 ((1 : Nat) : Int), i64 ((1 : Nat) : Int)])), (36, Pr.ag2 (fun x y => Value.agg #[i64 ((0 : Nat) : Int), x, y]) (Pr.own' DG wd7.heap.size 24 (signed (seedAt seed 0) (linkOf ra oa))) (Pr.own' DG wd7.heap.size 24 (way (publics seed (pw 1)) 0))), (37, Pr.ex (i64 ((0 : Nat) : Int))), (11, Pr.box' wd7.heap.size 30 [i64 ((0 : Nat) : Int), Value.slice none 0 0, Value.slice none 0 0])] 9 [6, 7] (fun k => k = b7 ∨ wd7.heap.size ≤ k) mixed N8 D8 (by kernel_rfl) (by kernel_rfl) (by kernel_rfl) (by kernel_rfl) (fun d v c a w h => by cases d <;> exact h) ?_ ?_ ?_
 refine Ac ?_ (Ac ?_ (Ac ?_ (Ac ?_ (Ac ?_ (Ac ?_ (Ac ?_ (Ac ?_ (Ac ?_ (Az _)))))))))
 exact Ad fun aq wq _ hO hR hT => does_loadD (o := 0) (n := 6) (mid := [w32 (seed).a, w32 (seed).b, w32 (seed).c, w32 (seed).d, i64 ((1 : Nat) : Int), i64 ((0 : Nat) : Int)]) (oT hO s7_8 rfl) (B7_7.ext' hR) rfl rfl (nB rfl) row_45 rfl eR
 exact Ad fun aq wq _ hO hR hT => does_loadD (o := 0) (n := 8) (mid := [w32 (ra).a, w32 (ra).b, w32 (ra).c, w32 (ra).d, w32 (oa).a, w32 (oa).b, w32 (oa).c, w32 (oa).d]) (oT hO s4_8 rfl) (B4_7.ext' hR) rfl rfl (nB rfl) row_26 rfl eR
 exact Ad fun aq wq _ hO hR hT => does_ret (vs := #[Value.agg #[w32 (ra).a, w32 (ra).b, w32 (ra).c, w32 (ra).d, w32 (oa).a, w32 (oa).b, w32 (oa).c, w32 (oa).d]]) call_10 (args1 (hT 32 rfl rfl)) rfl ((linkOf_ ra oa wq (hL.ext (E7.trans hR))).mono fun v w2 h => ⟨h.2, h.1⟩)
 exact Ad fun aq wq _ hO hR hT => does_ret (vs := #[Value.agg #[w32 (seed).a, w32 (seed).b, w32 (seed).c, w32 (seed).d, i64 ((1 : Nat) : Int), i64 ((0 : Nat) : Int)], Dg.val (linkOf ra oa)]) call_19 (args2 (hT 31 rfl rfl) (hT 33 rfl rfl)) rfl ((keyUse_k seed 1 0 (linkOf ra oa) wq (hL.ext (E7.trans hR)) (by decide) (by decide)).mono fun v w2 h => ⟨h.2, by obtain ⟨x0, x1, x2, hv, k0, k1, k2⟩ := h.1; exact ⟨x0, x1, x2, hv, k0, (by obtain ⟨z0, z1, hz, kz0, kz1⟩ := k1; exact ⟨z0, z1, hz, OwnT.base kz0 hR.size', OwnT.base kz1 hR.size'⟩), k2⟩⟩)
 exact Ad fun aq wq _ hO hR hT => does_move rfl ⟨Ext.refl _, (hT 34 rfl rfl)⟩
 exact Ad fun aq wq _ hO hR hT => by
  obtain ⟨x0, x1, x2, hv, k0, k1, k2⟩ := (hT 30 rfl rfl)
  exact does_extract (V := Value.agg #[w32 (seed).a, w32 (seed).b, w32 (seed).c, w32 (seed).d, i64 ((1 : Nat) : Int), i64 ((1 : Nat) : Int)]) hv (by rw [show x0 = Value.agg #[w32 (seed).a, w32 (seed).b, w32 (seed).c, w32 (seed).d, i64 ((1 : Nat) : Int), i64 ((1 : Nat) : Int)] from k0]; rfl) ⟨Ext.refl _, rfl⟩
 exact Ad fun aq wq _ hO hR hT => by
  obtain ⟨x0, x1, x2, hv, k0, k1, k2⟩ := (hT 30 rfl rfl)
  exact does_extract hv rfl ⟨Ext.refl _, k1⟩
 exact Ad fun aq wq _ hO hR hT => by
  obtain ⟨x0, x1, x2, hv, k0, k1, k2⟩ := (hT 30 rfl rfl)
  exact does_extract (V := i64 ((0 : Nat) : Int)) hv (by rw [show x2 = i64 ((0 : Nat) : Int) from k2]; rfl) ⟨Ext.refl _, rfl⟩
 refine Ask.fresh rfl rfl ?_
 intro aq wq hNq hO hR hT
 replace hR := (Ext.drew _).trans hR
 exact does_alloc zero_30 (fun b w2 he hlo hb => ⟨he, ⟨b, rfl, Nat.le_trans hR.size' hlo, hb⟩, ⟨b, rfl, hlo, hb.lt⟩⟩)
 refine LateAsks.cons rfl rfl rfl ?_ (LateAsks.cons rfl rfl rfl ?_ LateAsks.nil)
 intro aq wq hO hR hT
 have hR0 := hR
 replace hR := (Ext.drew _).trans hR
 obtain ⟨x0, x1, x2, hv, k0, k1, k2⟩ := (hT 30 rfl rfl)
 exact ⟨_, yl_extract hv rfl, k1⟩
 intro aq wq hO hR hT
 have hR0 := hR
 replace hR := (Ext.drew _).trans hR
 obtain ⟨x0, x1, x2, hv, k0, k1, k2⟩ := (hT 30 rfl rfl)
 exact ⟨_, yl_extract (V := i64 ((0 : Nat) : Int)) hv (by rw [show x2 = i64 ((0 : Nat) : Int) from k2]; rfl), rfl⟩
 intro wl hwl hwh a9 wd9 N9 D9 hO hR hA hU
 have hS_9 : ExtE (fun k => k = b7 ∨ wd7.heap.size ≤ k) wl wd9 := hR.toE
 replace hR := hwl.trans hR
 obtain ⟨_, _, _, _, _, t35, t36, t37, t11, _⟩ := hA
 have E9 := E7.trans hR
 have s4_9 := oT hO s4_8 rfl
 have s5_9 := oT hO s5_8 rfl
 have s7_9 := oT hO s7_8 rfl
 have s8_9 := oT hO s8_8 rfl
 have s9_9 := oT hO s9_8 rfl
 have s10_9 := oT hO s10_8 rfl
 have B3_9 := B3_7.ext' hR
 have B4_9 := B4_7.ext' hR
 have B5_9 := B5_7.ext' hR
 have B7_9 := B7_7.ext' hR
 have B9_9 := B9_7.ext' hR
 have s35_9 : get a9 35 = Value.agg #[w32 (seed).a, w32 (seed).b, w32 (seed).c, w32 (seed).d, i64 ((1 : Nat) : Int), i64 ((1 : Nat) : Int)] := t35
 obtain ⟨x36_0_9, x36_1_9, s36_9, ky36_0_9, ky36_1_9⟩ := t36
 replace ky36_0_9 : OwnT DG wd7.heap.size 24 (signed (seedAt seed 0) (linkOf ra oa)) x36_0_9 wd9 := ky36_0_9
 have nbo_x36_0_9_b3 := Ob1 ky36_0_9 B3_7
 have nbo_x36_0_9_b4 := Ob1 ky36_0_9 B4_7
 have nbo_x36_0_9_b5 := Ob1 ky36_0_9 B5_7
 have nbo_x36_0_9_b7 := Ob1 ky36_0_9 B7_7
 have nbo_x36_0_9_b9 := Ob1 ky36_0_9 B9_7
 have X36_0_9_9 := ky36_0_9.sl.wide (Nat.zero_le _) (.inl rfl)
 have O36_0_9_9 := OwnT.base ky36_0_9 E7.size'
 replace ky36_1_9 : OwnT DG wd7.heap.size 24 (way (publics seed (pw 1)) 0) x36_1_9 wd9 := ky36_1_9
 have nbo_x36_1_9_b3 := Ob1 ky36_1_9 B3_7
 have nbo_x36_1_9_b4 := Ob1 ky36_1_9 B4_7
 have nbo_x36_1_9_b5 := Ob1 ky36_1_9 B5_7
 have nbo_x36_1_9_b7 := Ob1 ky36_1_9 B7_7
 have nbo_x36_1_9_b9 := Ob1 ky36_1_9 B9_7
 have X36_1_9_9 := ky36_1_9.sl.wide (Nat.zero_le _) (.inl rfl)
 have O36_1_9_9 := OwnT.base ky36_1_9 E7.size'
 have s37_9 : get a9 37 = i64 ((0 : Nat) : Int) := t37
 obtain ⟨b11, s11_9, lo_b11, B11_9⟩ := t11
 have ne_b3_b11 := Hl B3_7 lo_b11
 have ne_b4_b11 := Hl B4_7 lo_b11
 have ne_b5_b11 := Hl B5_7 lo_b11
 have ne_b7_b11 := Hl B7_7 lo_b11
 have ne_b9_b11 := Hl B9_7 lo_b11
 have fr_b11 : w0.heap.size ≤ b11 := Nat.le_trans E7.size' lo_b11
 have nbo_x36_0_9_b11 := OwnT.typed O36_0_9_9 B11_9 (by decide)
 have nbo_x36_1_9_b11 := OwnT.typed O36_1_9_9 B11_9 (by decide)
 clear E7 N8 D8 s4_8 s5_8 s7_8 s8_8 s9_8 s10_8 B3_7 B4_7 B5_7 B7_7 B9_7
 refine tailS_none rfl rfl (does_storeD (o := 0) (n := 6) (cs' := [w32 (seed).a, w32 (seed).b, w32 (seed).c, w32 (seed).d, i64 ((1 : Nat) : Int), i64 ((1 : Nat) : Int)]) (V := Value.agg #[w32 (seed).a, w32 (seed).b, w32 (seed).c, w32 (seed).d, i64 ((1 : Nat) : Int), i64 ((1 : Nat) : Int)]) s7_9 s35_9 B7_9 (nB rfl) rfl siz_45 rfl rfl (fun wd10 hX hz B7_10 => ⟨hS_9.trans (hX.mono fun k _ e => (.inl e)), ?_⟩))
 have hS_10 := hS_9.trans (hX.mono (E' := (fun k => k = b7 ∨ wd7.heap.size ≤ k)) fun k _ e => (.inl e))
 have E10 := E9.since hX (fun k e => e ▸ fr_b7)
 have B3_10 := B3_9.ext hX ne_b3_b7
 have B4_10 := B4_9.ext hX ne_b4_b7
 have B5_10 := B5_9.ext hX ne_b5_b7
 have B9_10 := B9_9.ext hX ne_b7_b9.symm
 have B11_10 := B11_9.ext hX ne_b7_b11.symm
 have X36_0_9_10 := SlT.over X36_0_9_9 hX (fun _ => nbo_x36_0_9_b7)
 have X36_1_9_10 := SlT.over X36_1_9_9 hX (fun _ => nbo_x36_1_9_b7)
 have O36_0_9_10 := OwnT.ext O36_0_9_9 hX (fun k hk e => nbo_x36_0_9_b7 (e ▸ hk))
 have O36_1_9_10 := OwnT.ext O36_1_9_9 hX (fun k hk e => nbo_x36_1_9_b7 (e ▸ hk))
 clear hX hz E9 B3_9 B4_9 B5_9 B7_9 B9_9 B11_9 X36_0_9_9 X36_1_9_9 O36_0_9_9 O36_1_9_9
 refine tailS_none rfl rfl (does_storeD (o := 0) (n := 3) (cs' := [i64 ((0 : Nat) : Int), x36_0_9, x36_1_9]) (V := Value.agg #[i64 ((0 : Nat) : Int), x36_0_9, x36_1_9]) s11_9 s36_9 B11_10 (nB rfl) rfl siz_30 (one_cons rfl (one_cons (SlT.one X36_0_9_10) (one_cons (SlT.one X36_1_9_10) one_nil))) rfl (fun wd11 hX hz B11_11 => ⟨hS_10.trans (hX.mono fun k _ e => (.inr (e ▸ (Nat.le_trans (Nat.le_refl _) lo_b11)))), ?_⟩))
 have hS_11 := hS_10.trans (hX.mono (E' := (fun k => k = b7 ∨ wd7.heap.size ≤ k)) fun k _ e => (.inr (e ▸ (Nat.le_trans (Nat.le_refl _) lo_b11))))
 have E11 := E10.since hX (fun k e => e ▸ fr_b11)
 have B3_11 := B3_10.ext hX ne_b3_b11
 have B4_11 := B4_10.ext hX ne_b4_b11
 have B5_11 := B5_10.ext hX ne_b5_b11
 have B7_11 := B7_10.ext hX ne_b7_b11
 have B9_11 := B9_10.ext hX ne_b9_b11
 have X36_0_9_11 := SlT.over X36_0_9_10 hX (fun _ => nbo_x36_0_9_b11)
 have X36_1_9_11 := SlT.over X36_1_9_10 hX (fun _ => nbo_x36_1_9_b11)
 have O36_0_9_11 := OwnT.ext O36_0_9_10 hX (fun k hk e => nbo_x36_0_9_b11 (e ▸ hk))
 have O36_1_9_11 := OwnT.ext O36_1_9_10 hX (fun k hk e => nbo_x36_1_9_b11 (e ▸ hk))
 clear hX hz E10 B3_10 B4_10 B5_10 B7_10 B9_10 B11_10 X36_0_9_10 X36_1_9_10 O36_0_9_10 O36_1_9_10
 refine tailS_put rfl rfl N9 D9 (by decide) (does_assign (V := i64 ((0 : Nat) : Int)) s37_9 (⟨hS_11, fun a12 N12 D12 hv hO => ?_⟩))
 have s12_12 := hv
 have s4_12 := oT hO s4_9 rfl
 have s5_12 := oT hO s5_9 rfl
 have s7_12 := oT hO s7_9 rfl
 have s8_12 := oT hO s8_9 rfl
 have s9_12 := oT hO s9_9 rfl
 have s10_12 := oT hO s10_9 rfl
 have s11_12 := oT hO s11_9 rfl
 clear hO hv N9 D9 s4_9 s5_9 s7_9 s8_9 s9_9 s10_9 s11_9 s35_9 s36_9 s37_9
 refine tailS_nil ?_
 refine wp_seq ?_
 refine region_late [13, 14] [(39, Pr.ex (Value.agg #[w32 (seed).a, w32 (seed).b, w32 (seed).c, w32 (seed).d, i64 ((1 : Nat) : Int), i64 ((1 : Nat) : Int)])), (40, Pr.ex (Value.agg #[w32 (rb).a, w32 (rb).b, w32 (rb).c, w32 (rb).d, w32 (ob).a, w32 (ob).b, w32 (ob).c, w32 (ob).d])), (41, Pr.ex (Dg.val (linkOf rb ob))), (42, Pr.t3 (Pr.ex (Value.agg #[w32 (seed).a, w32 (seed).b, w32 (seed).c, w32 (seed).d, i64 ((1 : Nat) : Int), i64 ((2 : Nat) : Int)])) (Pr.ag2 (fun x y => Value.agg #[i64 ((1 : Nat) : Int), x, y]) (Pr.own' DG wd11.heap.size 24 (signed (seedAt seed 1) (linkOf rb ob))) (Pr.own' DG wd11.heap.size 24 (way (publics seed (pw 1)) 1))) (Pr.ex (i64 ((0 : Nat) : Int)))), (38, Pr.t3 (Pr.ex (Value.agg #[w32 (seed).a, w32 (seed).b, w32 (seed).c, w32 (seed).d, i64 ((1 : Nat) : Int), i64 ((2 : Nat) : Int)])) (Pr.ag2 (fun x y => Value.agg #[i64 ((1 : Nat) : Int), x, y]) (Pr.own' DG wd11.heap.size 24 (signed (seedAt seed 1) (linkOf rb ob))) (Pr.own' DG wd11.heap.size 24 (way (publics seed (pw 1)) 1))) (Pr.ex (i64 ((0 : Nat) : Int)))), (43, Pr.ex (Value.agg #[w32 (seed).a, w32 (seed).b, w32 (seed).c, w32 (seed).d, i64 ((1 : Nat) : Int), i64 ((2 : Nat) : Int)])), (44, Pr.ag2 (fun x y => Value.agg #[i64 ((1 : Nat) : Int), x, y]) (Pr.own' DG wd11.heap.size 24 (signed (seedAt seed 1) (linkOf rb ob))) (Pr.own' DG wd11.heap.size 24 (way (publics seed (pw 1)) 1))), (45, Pr.ex (i64 ((0 : Nat) : Int))), (13, Pr.box' wd11.heap.size 45 [w32 (Dg.zero).a, w32 (Dg.zero).b, w32 (Dg.zero).c, w32 (Dg.zero).d, i64 ((0 : Nat) : Int), i64 ((0 : Nat) : Int)]), (14, Pr.box' wd11.heap.size 30 [i64 ((0 : Nat) : Int), Value.slice none 0 0, Value.slice none 0 0])] 10 [6, 7] (fun k => wd11.heap.size ≤ k) mixed N12 D12 (by kernel_rfl) (by kernel_rfl) (by kernel_rfl) (by kernel_rfl) (fun d v c a w h => by cases d <;> exact h) ?_ ?_ ?_
 refine Ac ?_ (Ac ?_ (Ac ?_ (Ac ?_ (Ac ?_ (Ac ?_ (Ac ?_ (Ac ?_ (Ac ?_ (Ac ?_ (Az _))))))))))
 exact Ad fun aq wq _ hO hR hT => does_loadD (o := 0) (n := 6) (mid := [w32 (seed).a, w32 (seed).b, w32 (seed).c, w32 (seed).d, i64 ((1 : Nat) : Int), i64 ((1 : Nat) : Int)]) (oT hO s7_12 rfl) (B7_11.ext' hR) rfl rfl (nB rfl) row_45 rfl eR
 exact Ad fun aq wq _ hO hR hT => does_loadD (o := 0) (n := 8) (mid := [w32 (rb).a, w32 (rb).b, w32 (rb).c, w32 (rb).d, w32 (ob).a, w32 (ob).b, w32 (ob).c, w32 (ob).d]) (oT hO s5_12 rfl) (B5_11.ext' hR) rfl rfl (nB rfl) row_26 rfl eR
 exact Ad fun aq wq _ hO hR hT => does_ret (vs := #[Value.agg #[w32 (rb).a, w32 (rb).b, w32 (rb).c, w32 (rb).d, w32 (ob).a, w32 (ob).b, w32 (ob).c, w32 (ob).d]]) call_10 (args1 (hT 40 rfl rfl)) rfl ((linkOf_ rb ob wq (hL.ext (E11.trans hR))).mono fun v w2 h => ⟨h.2, h.1⟩)
 exact Ad fun aq wq _ hO hR hT => does_ret (vs := #[Value.agg #[w32 (seed).a, w32 (seed).b, w32 (seed).c, w32 (seed).d, i64 ((1 : Nat) : Int), i64 ((1 : Nat) : Int)], Dg.val (linkOf rb ob)]) call_19 (args2 (hT 39 rfl rfl) (hT 41 rfl rfl)) rfl ((keyUse_k seed 1 1 (linkOf rb ob) wq (hL.ext (E11.trans hR)) (by decide) (by decide)).mono fun v w2 h => ⟨h.2, by obtain ⟨x0, x1, x2, hv, k0, k1, k2⟩ := h.1; exact ⟨x0, x1, x2, hv, k0, (by obtain ⟨z0, z1, hz, kz0, kz1⟩ := k1; exact ⟨z0, z1, hz, OwnT.base kz0 hR.size', OwnT.base kz1 hR.size'⟩), k2⟩⟩)
 exact Ad fun aq wq _ hO hR hT => does_move rfl ⟨Ext.refl _, (hT 42 rfl rfl)⟩
 exact Ad fun aq wq _ hO hR hT => by
  obtain ⟨x0, x1, x2, hv, k0, k1, k2⟩ := (hT 38 rfl rfl)
  exact does_extract (V := Value.agg #[w32 (seed).a, w32 (seed).b, w32 (seed).c, w32 (seed).d, i64 ((1 : Nat) : Int), i64 ((2 : Nat) : Int)]) hv (by rw [show x0 = Value.agg #[w32 (seed).a, w32 (seed).b, w32 (seed).c, w32 (seed).d, i64 ((1 : Nat) : Int), i64 ((2 : Nat) : Int)] from k0]; rfl) ⟨Ext.refl _, rfl⟩
 exact Ad fun aq wq _ hO hR hT => by
  obtain ⟨x0, x1, x2, hv, k0, k1, k2⟩ := (hT 38 rfl rfl)
  exact does_extract hv rfl ⟨Ext.refl _, k1⟩
 exact Ad fun aq wq _ hO hR hT => by
  obtain ⟨x0, x1, x2, hv, k0, k1, k2⟩ := (hT 38 rfl rfl)
  exact does_extract (V := i64 ((0 : Nat) : Int)) hv (by rw [show x2 = i64 ((0 : Nat) : Int) from k2]; rfl) ⟨Ext.refl _, rfl⟩
 refine Ask.fresh rfl rfl ?_
 intro aq wq hNq hO hR hT
 replace hR := (Ext.drew _).trans hR
 exact does_alloc zero_45 (fun b w2 he hlo hb => ⟨he, ⟨b, rfl, Nat.le_trans hR.size' hlo, hb⟩, ⟨b, rfl, hlo, hb.lt⟩⟩)
 refine Ask.fresh rfl rfl ?_
 intro aq wq hNq hO hR hT
 replace hR := (Ext.drew _).trans hR
 exact does_alloc zero_30 (fun b w2 he hlo hb => ⟨he, ⟨b, rfl, Nat.le_trans hR.size' hlo, hb⟩, ⟨b, rfl, hlo, hb.lt⟩⟩)
 refine LateAsks.cons rfl rfl rfl ?_ (LateAsks.cons rfl rfl rfl ?_ LateAsks.nil)
 intro aq wq hO hR hT
 have hR0 := hR
 replace hR := (Ext.drew _).trans hR
 obtain ⟨x0, x1, x2, hv, k0, k1, k2⟩ := (hT 38 rfl rfl)
 exact ⟨_, yl_extract hv rfl, k1⟩
 intro aq wq hO hR hT
 have hR0 := hR
 replace hR := (Ext.drew _).trans hR
 obtain ⟨x0, x1, x2, hv, k0, k1, k2⟩ := (hT 38 rfl rfl)
 exact ⟨_, yl_extract (V := i64 ((0 : Nat) : Int)) hv (by rw [show x2 = i64 ((0 : Nat) : Int) from k2]; rfl), rfl⟩
 intro wl hwl hwh a13 wd13 N13 D13 hO hR hA hU
 have hS_13 : ExtE (fun k => wd11.heap.size ≤ k) wl wd13 := hR.toE
 replace hR := hwl.trans hR
 obtain ⟨_, _, _, _, _, t43, t44, t45, t13, t14, _⟩ := hA
 have E13 := E11.trans hR
 have s4_13 := oT hO s4_12 rfl
 have s5_13 := oT hO s5_12 rfl
 have s8_13 := oT hO s8_12 rfl
 have s9_13 := oT hO s9_12 rfl
 have s10_13 := oT hO s10_12 rfl
 have s11_13 := oT hO s11_12 rfl
 have s12_13 := oT hO s12_12 rfl
 have B3_13 := B3_11.ext' hR
 have B4_13 := B4_11.ext' hR
 have B5_13 := B5_11.ext' hR
 have B7_13 := B7_11.ext' hR
 have B9_13 := B9_11.ext' hR
 have B11_13 := B11_11.ext' hR
 have X36_0_9_13 := X36_0_9_11.ext' hR
 have X36_1_9_13 := X36_1_9_11.ext' hR
 have O36_0_9_13 := O36_0_9_11.ext' hR
 have O36_1_9_13 := O36_1_9_11.ext' hR
 have s43_13 : get a13 43 = Value.agg #[w32 (seed).a, w32 (seed).b, w32 (seed).c, w32 (seed).d, i64 ((1 : Nat) : Int), i64 ((2 : Nat) : Int)] := t43
 obtain ⟨x44_0_13, x44_1_13, s44_13, ky44_0_13, ky44_1_13⟩ := t44
 replace ky44_0_13 : OwnT DG wd11.heap.size 24 (signed (seedAt seed 1) (linkOf rb ob)) x44_0_13 wd13 := ky44_0_13
 have nbo_x44_0_13_b3 := Ob1 ky44_0_13 B3_11
 have nbo_x44_0_13_b4 := Ob1 ky44_0_13 B4_11
 have nbo_x44_0_13_b5 := Ob1 ky44_0_13 B5_11
 have nbo_x44_0_13_b7 := Ob1 ky44_0_13 B7_11
 have nbo_x44_0_13_b9 := Ob1 ky44_0_13 B9_11
 have nbo_x44_0_13_b11 := Ob1 ky44_0_13 B11_11
 have no_x44_0_13_x36_0_9 := Oo ky44_0_13 O36_0_9_11
 have no_x44_0_13_x36_1_9 := Oo ky44_0_13 O36_1_9_11
 have X44_0_13_13 := ky44_0_13.sl.wide (Nat.zero_le _) (.inl rfl)
 have O44_0_13_13 := OwnT.base ky44_0_13 E11.size'
 replace ky44_1_13 : OwnT DG wd11.heap.size 24 (way (publics seed (pw 1)) 1) x44_1_13 wd13 := ky44_1_13
 have nbo_x44_1_13_b3 := Ob1 ky44_1_13 B3_11
 have nbo_x44_1_13_b4 := Ob1 ky44_1_13 B4_11
 have nbo_x44_1_13_b5 := Ob1 ky44_1_13 B5_11
 have nbo_x44_1_13_b7 := Ob1 ky44_1_13 B7_11
 have nbo_x44_1_13_b9 := Ob1 ky44_1_13 B9_11
 have nbo_x44_1_13_b11 := Ob1 ky44_1_13 B11_11
 have no_x44_1_13_x36_0_9 := Oo ky44_1_13 O36_0_9_11
 have no_x44_1_13_x36_1_9 := Oo ky44_1_13 O36_1_9_11
 have X44_1_13_13 := ky44_1_13.sl.wide (Nat.zero_le _) (.inl rfl)
 have O44_1_13_13 := OwnT.base ky44_1_13 E11.size'
 have s45_13 : get a13 45 = i64 ((0 : Nat) : Int) := t45
 obtain ⟨b13, s13_13, lo_b13, B13_13⟩ := t13
 have ne_b3_b13 := Hl B3_11 lo_b13
 have ne_b4_b13 := Hl B4_11 lo_b13
 have ne_b5_b13 := Hl B5_11 lo_b13
 have ne_b7_b13 := Hl B7_11 lo_b13
 have ne_b9_b13 := Hl B9_11 lo_b13
 have ne_b11_b13 := Hl B11_11 lo_b13
 have nb_x36_0_9_b13 := SlT.old X36_0_9_11 lo_b13
 have nb_x36_1_9_b13 := SlT.old X36_1_9_11 lo_b13
 have nbo_x36_0_9_b13 := Ol O36_0_9_11 lo_b13
 have nbo_x36_1_9_b13 := Ol O36_1_9_11 lo_b13
 have fr_b13 : w0.heap.size ≤ b13 := Nat.le_trans E11.size' lo_b13
 obtain ⟨b14, s14_13, lo_b14, B14_13⟩ := t14
 have ne_b3_b14 := Hl B3_11 lo_b14
 have ne_b4_b14 := Hl B4_11 lo_b14
 have ne_b5_b14 := Hl B5_11 lo_b14
 have ne_b7_b14 := Hl B7_11 lo_b14
 have ne_b9_b14 := Hl B9_11 lo_b14
 have ne_b11_b14 := Hl B11_11 lo_b14
 have nb_x36_0_9_b14 := SlT.old X36_0_9_11 lo_b14
 have nb_x36_1_9_b14 := SlT.old X36_1_9_11 lo_b14
 have nbo_x36_0_9_b14 := Ol O36_0_9_11 lo_b14
 have nbo_x36_1_9_b14 := Ol O36_1_9_11 lo_b14
 have fr_b14 : w0.heap.size ≤ b14 := Nat.le_trans E11.size' lo_b14
 have nbo_x44_0_13_b13 := OwnT.typed O44_0_13_13 B13_13 (by decide)
 have nbo_x44_0_13_b14 := OwnT.typed O44_0_13_13 B14_13 (by decide)
 have nbo_x44_1_13_b13 := OwnT.typed O44_1_13_13 B13_13 (by decide)
 have nbo_x44_1_13_b14 := OwnT.typed O44_1_13_13 B14_13 (by decide)
 obtain ⟨u0, ⟨u1, _⟩⟩ := hU
 have ne_b13_b14 : b13 ≠ b14 := fun e => u0 14 (by decide) (by rw [s13_13, s14_13, e])
 clear E11 N12 D12 s4_12 s5_12 s7_12 s8_12 s9_12 s10_12 s11_12 s12_12 B3_11 B4_11 B5_11 B7_11 B9_11 B11_11 X36_0_9_11 X36_1_9_11 O36_0_9_11 O36_1_9_11
 refine tailS_none rfl rfl (does_storeD (o := 0) (n := 6) (cs' := [w32 (seed).a, w32 (seed).b, w32 (seed).c, w32 (seed).d, i64 ((1 : Nat) : Int), i64 ((2 : Nat) : Int)]) (V := Value.agg #[w32 (seed).a, w32 (seed).b, w32 (seed).c, w32 (seed).d, i64 ((1 : Nat) : Int), i64 ((2 : Nat) : Int)]) s13_13 s43_13 B13_13 (nB rfl) rfl siz_45 rfl rfl (fun wd14 hX hz B13_14 => ⟨hS_13.trans (hX.mono fun k _ e => (e ▸ (Nat.le_trans (Nat.le_refl _) lo_b13))), ?_⟩))
 have hS_14 := hS_13.trans (hX.mono (E' := (fun k => wd11.heap.size ≤ k)) fun k _ e => (e ▸ (Nat.le_trans (Nat.le_refl _) lo_b13)))
 have E14 := E13.since hX (fun k e => e ▸ fr_b13)
 have B3_14 := B3_13.ext hX ne_b3_b13
 have B4_14 := B4_13.ext hX ne_b4_b13
 have B5_14 := B5_13.ext hX ne_b5_b13
 have B7_14 := B7_13.ext hX ne_b7_b13
 have B9_14 := B9_13.ext hX ne_b9_b13
 have B11_14 := B11_13.ext hX ne_b11_b13
 have B14_14 := B14_13.ext hX ne_b13_b14.symm
 have X36_0_9_14 := SlT.over X36_0_9_13 hX nb_x36_0_9_b13
 have X36_1_9_14 := SlT.over X36_1_9_13 hX nb_x36_1_9_b13
 have X44_0_13_14 := SlT.over X44_0_13_13 hX (fun _ => nbo_x44_0_13_b13)
 have X44_1_13_14 := SlT.over X44_1_13_13 hX (fun _ => nbo_x44_1_13_b13)
 have O36_0_9_14 := OwnT.ext O36_0_9_13 hX (fun k hk e => nbo_x36_0_9_b13 (e ▸ hk))
 have O36_1_9_14 := OwnT.ext O36_1_9_13 hX (fun k hk e => nbo_x36_1_9_b13 (e ▸ hk))
 have O44_0_13_14 := OwnT.ext O44_0_13_13 hX (fun k hk e => nbo_x44_0_13_b13 (e ▸ hk))
 have O44_1_13_14 := OwnT.ext O44_1_13_13 hX (fun k hk e => nbo_x44_1_13_b13 (e ▸ hk))
 clear hX hz E13 B3_13 B4_13 B5_13 B7_13 B9_13 B11_13 B13_13 B14_13 X36_0_9_13 X36_1_9_13 X44_0_13_13 X44_1_13_13 O36_0_9_13 O36_1_9_13 O44_0_13_13 O44_1_13_13
 refine tailS_none rfl rfl (does_storeD (o := 0) (n := 3) (cs' := [i64 ((1 : Nat) : Int), x44_0_13, x44_1_13]) (V := Value.agg #[i64 ((1 : Nat) : Int), x44_0_13, x44_1_13]) s14_13 s44_13 B14_14 (nB rfl) rfl siz_30 (one_cons rfl (one_cons (SlT.one X44_0_13_14) (one_cons (SlT.one X44_1_13_14) one_nil))) rfl (fun wd15 hX hz B14_15 => ⟨hS_14.trans (hX.mono fun k _ e => (e ▸ (Nat.le_trans (Nat.le_refl _) lo_b14))), ?_⟩))
 have hS_15 := hS_14.trans (hX.mono (E' := (fun k => wd11.heap.size ≤ k)) fun k _ e => (e ▸ (Nat.le_trans (Nat.le_refl _) lo_b14)))
 have E15 := E14.since hX (fun k e => e ▸ fr_b14)
 have B3_15 := B3_14.ext hX ne_b3_b14
 have B4_15 := B4_14.ext hX ne_b4_b14
 have B5_15 := B5_14.ext hX ne_b5_b14
 have B7_15 := B7_14.ext hX ne_b7_b14
 have B9_15 := B9_14.ext hX ne_b9_b14
 have B11_15 := B11_14.ext hX ne_b11_b14
 have B13_15 := B13_14.ext hX ne_b13_b14
 have X36_0_9_15 := SlT.over X36_0_9_14 hX nb_x36_0_9_b14
 have X36_1_9_15 := SlT.over X36_1_9_14 hX nb_x36_1_9_b14
 have X44_0_13_15 := SlT.over X44_0_13_14 hX (fun _ => nbo_x44_0_13_b14)
 have X44_1_13_15 := SlT.over X44_1_13_14 hX (fun _ => nbo_x44_1_13_b14)
 have O36_0_9_15 := OwnT.ext O36_0_9_14 hX (fun k hk e => nbo_x36_0_9_b14 (e ▸ hk))
 have O36_1_9_15 := OwnT.ext O36_1_9_14 hX (fun k hk e => nbo_x36_1_9_b14 (e ▸ hk))
 have O44_0_13_15 := OwnT.ext O44_0_13_14 hX (fun k hk e => nbo_x44_0_13_b14 (e ▸ hk))
 have O44_1_13_15 := OwnT.ext O44_1_13_14 hX (fun k hk e => nbo_x44_1_13_b14 (e ▸ hk))
 clear hX hz E14 B3_14 B4_14 B5_14 B7_14 B9_14 B11_14 B13_14 B14_14 X36_0_9_14 X36_1_9_14 X44_0_13_14 X44_1_13_14 O36_0_9_14 O36_1_9_14 O44_0_13_14 O44_1_13_14
 refine tailS_put rfl rfl N13 D13 (by decide) (does_assign (V := i64 ((0 : Nat) : Int)) s45_13 (⟨hS_15, fun a16 N16 D16 hv hO => ?_⟩))
 have s15_16 := hv
 have s4_16 := oT hO s4_13 rfl
 have s5_16 := oT hO s5_13 rfl
 have s8_16 := oT hO s8_13 rfl
 have s9_16 := oT hO s9_13 rfl
 have s10_16 := oT hO s10_13 rfl
 have s11_16 := oT hO s11_13 rfl
 have s12_16 := oT hO s12_13 rfl
 have s14_16 := oT hO s14_13 rfl
 clear hO hv N13 D13 s4_13 s5_13 s8_13 s9_13 s10_13 s11_13 s12_13 s13_13 s14_13 s43_13 s44_13 s45_13
 refine tailS_nil ?_
 refine wp_seq ?_
 refine wp_seq ?_
 refine Rl [] [(46, Pr.ex (i64 ((0 : Nat) : Int))), (47, Pr.ex (Value.bool (false))), (48, Pr.ex (Value.bool (false))), (49, Pr.ifb (!false) (Pr.ex (i64 ((0 : Nat) : Int)))), (50, Pr.ifb (!false) (Pr.ex (Value.bool (false)))), (51, Pr.ex (Value.bool (false || false))), (52, Pr.ex (Value.bool (false || false))), (53, Pr.ifb (!(false || false)) (Pr.ex (i64 ((0 : Nat) : Int)))), (54, Pr.ifb (!(false || false)) (Pr.ex (Value.bool (false)))), (55, Pr.ex (Value.bool ((false || false) || false))), (56, Pr.ex (Value.bool ((false || false) || false))), (57, Pr.ifb (!((false || false) || false)) (Pr.ex (i64 ((0 : Nat) : Int)))), (58, Pr.ifb (!((false || false) || false)) (Pr.ex (Value.bool (false)))), (59, Pr.ex (Value.bool (((false || false) || false) || false)))] 14 N16 D16 ?_ ?_
 refine Ac ?_ (Ac ?_ (Ac ?_ (Ac ?_ (Ac ?_ (Ac ?_ (Ac ?_ (Ac ?_ (Ac ?_ (Ac ?_ (Ac ?_ (Ac ?_ (Ac ?_ (Ac ?_ (Az _))))))))))))))
 exact Am s8_16 rfl fun _ => rfl
 exact Ap fun aq wq _ hO hR hT => does_neq (a := ((0 : Nat) : Int)) (b := ((0 : Nat) : Int)) (hT 46 rfl rfl) rfl eR
 exact Ap fun aq wq _ hO hR hT => does_move (V := Value.bool (false)) (hT 47 rfl rfl) eR
 refine Ask.guarded (B := false) (want := false) (t := 48) rfl rfl rfl rfl (by decide) (fun aq wq hO hR hT => hT 48 rfl rfl) (fun hG aq wq hNq hO hR hT => ?_) (fun hno _ => fun hc => absurd (bn hc) hno)
 replace hG := nb hG
 exact does_move (V := i64 ((0 : Nat) : Int)) (oT hO s10_16 rfl) ⟨Ext.refl _, fun _ => rfl⟩
 refine Ask.guarded (B := false) (want := false) (t := 48) rfl rfl rfl rfl (by decide) (fun aq wq hO hR hT => hT 48 rfl rfl) (fun hG aq wq hNq hO hR hT => ?_) (fun hno _ => fun hc => absurd (bn hc) hno)
 replace hG := nb hG
 exact does_neq (a := ((0 : Nat) : Int)) (b := ((0 : Nat) : Int)) (hT 49 rfl rfl hG) rfl ⟨Ext.refl _, fun _ => rfl⟩
 exact Ap fun aq wq _ hO hR hT => does_or (B := false) (X := false) (hT 48 rfl rfl) rfl (fun hB => (hT 50 rfl rfl (nb hB))) eR
 exact Ap fun aq wq _ hO hR hT => does_move (V := Value.bool (false || false)) (hT 51 rfl rfl) eR
 refine Ask.guarded (B := false || false) (want := false) (t := 52) rfl rfl rfl rfl (by decide) (fun aq wq hO hR hT => hT 52 rfl rfl) (fun hG aq wq hNq hO hR hT => ?_) (fun hno _ => fun hc => absurd (bn hc) hno)
 replace hG := nb hG
 exact does_move (V := i64 ((0 : Nat) : Int)) (oT hO s12_16 rfl) ⟨Ext.refl _, fun _ => rfl⟩
 refine Ask.guarded (B := false || false) (want := false) (t := 52) rfl rfl rfl rfl (by decide) (fun aq wq hO hR hT => hT 52 rfl rfl) (fun hG aq wq hNq hO hR hT => ?_) (fun hno _ => fun hc => absurd (bn hc) hno)
 replace hG := nb hG
 exact does_neq (a := ((0 : Nat) : Int)) (b := ((0 : Nat) : Int)) (hT 53 rfl rfl hG) rfl ⟨Ext.refl _, fun _ => rfl⟩
 exact Ap fun aq wq _ hO hR hT => does_or (B := false || false) (X := false) (hT 52 rfl rfl) rfl (fun hB => (hT 54 rfl rfl (nb hB))) eR
 exact Ap fun aq wq _ hO hR hT => does_move (V := Value.bool ((false || false) || false)) (hT 55 rfl rfl) eR
 refine Ask.guarded (B := (false || false) || false) (want := false) (t := 56) rfl rfl rfl rfl (by decide) (fun aq wq hO hR hT => hT 56 rfl rfl) (fun hG aq wq hNq hO hR hT => ?_) (fun hno _ => fun hc => absurd (bn hc) hno)
 replace hG := nb hG
 exact does_move (V := i64 ((0 : Nat) : Int)) (oT hO s15_16 rfl) ⟨Ext.refl _, fun _ => rfl⟩
 refine Ask.guarded (B := (false || false) || false) (want := false) (t := 56) rfl rfl rfl rfl (by decide) (fun aq wq hO hR hT => hT 56 rfl rfl) (fun hG aq wq hNq hO hR hT => ?_) (fun hno _ => fun hc => absurd (bn hc) hno)
 replace hG := nb hG
 exact does_neq (a := ((0 : Nat) : Int)) (b := ((0 : Nat) : Int)) (hT 57 rfl rfl hG) rfl ⟨Ext.refl _, fun _ => rfl⟩
 exact Ap fun aq wq _ hO hR hT => does_or (B := (false || false) || false) (X := false) (hT 56 rfl rfl) rfl (fun hB => (hT 58 rfl rfl (nb hB))) eR
 intro a17 wd17 N17 D17 hO hR hA hU
 obtain ⟨_, _, _, _, _, _, _, _, _, _, _, _, _, t59, _⟩ := hA
 have E17 := E15.trans hR
 have s4_17 := oT hO s4_16 rfl
 have s5_17 := oT hO s5_16 rfl
 have s9_17 := oT hO s9_16 rfl
 have s11_17 := oT hO s11_16 rfl
 have s14_17 := oT hO s14_16 rfl
 have B3_17 := B3_15.ext' hR
 have B4_17 := B4_15.ext' hR
 have B5_17 := B5_15.ext' hR
 have B7_17 := B7_15.ext' hR
 have B9_17 := B9_15.ext' hR
 have B11_17 := B11_15.ext' hR
 have B13_17 := B13_15.ext' hR
 have B14_17 := B14_15.ext' hR
 have X36_0_9_17 := X36_0_9_15.ext' hR
 have X36_1_9_17 := X36_1_9_15.ext' hR
 have X44_0_13_17 := X44_0_13_15.ext' hR
 have X44_1_13_17 := X44_1_13_15.ext' hR
 have O36_0_9_17 := O36_0_9_15.ext' hR
 have O36_1_9_17 := O36_1_9_15.ext' hR
 have O44_0_13_17 := O44_0_13_15.ext' hR
 have O44_1_13_17 := O44_1_13_15.ext' hR
 have s59_17 : get a17 59 = Value.bool (((false || false) || false) || false) := t59
 clear E15 N16 D16 s4_16 s5_16 s8_16 s9_16 s10_16 s11_16 s12_16 s14_16 s15_16 B3_15 B4_15 B5_15 B7_15 B9_15 B11_15 B13_15 B14_15 X36_0_9_15 X36_1_9_15 X44_0_13_15 X44_1_13_15 O36_0_9_15 O36_1_9_15 O44_0_13_15 O44_1_13_15
 refine tail_nil ?_
 refine wp_if (B := ((false || false) || false) || false) s59_17 (fun hc0 => ?_) (fun hc0 => ?_)
 simp at hc0
 refine wp_skip ?_
 refine wp_seq ?_
 refine Rl [16] [(60, Pr.ex (Dg.val (root (publics seed (pw 1))))), (61, Pr.ex (Value.agg #[i64 ((0 : Nat) : Int), x36_0_9, x36_1_9])), (62, Pr.ex (Value.agg #[w32 (root (publics seed (pw 1))).a, w32 (root (publics seed (pw 1))).b, w32 (root (publics seed (pw 1))).c, w32 (root (publics seed (pw 1))).d, i64 ((0 : Nat) : Int), x36_0_9, x36_1_9])), (16, Pr.box' wd17.heap.size 32 [w32 (Dg.zero).a, w32 (Dg.zero).b, w32 (Dg.zero).c, w32 (Dg.zero).d, i64 ((0 : Nat) : Int), Value.slice none 0 0, Value.slice none 0 0])] 4 N17 D17 ?_ ?_
 refine Ac ?_ (Ac ?_ (Ac ?_ (Ac ?_ (Az _))))
 exact Ap fun aq wq _ hO hR hT => does_loadD (o := 0) (n := 4) (mid := [w32 (root (publics seed (pw 1))).a, w32 (root (publics seed (pw 1))).b, w32 (root (publics seed (pw 1))).c, w32 (root (publics seed (pw 1))).d]) (oT hO s9_17 rfl) (B9_17.ext' hR) rfl rfl (nB rfl) row_24 rfl eR
 exact Ap fun aq wq _ hO hR hT => does_loadD (o := 0) (n := 3) (mid := [i64 ((0 : Nat) : Int), x36_0_9, x36_1_9]) (oT hO s11_17 rfl) (B11_17.ext' hR) rfl rfl (nB rfl) row_30 rfl eR
 exact Ap fun aq wq _ hO hR hT => does_build (vs := #[(0, Dg.val (root (publics seed (pw 1)))), (1, Value.agg #[i64 ((0 : Nat) : Int), x36_0_9, x36_1_9])]) (V := Value.agg #[w32 (root (publics seed (pw 1))).a, w32 (root (publics seed (pw 1))).b, w32 (root (publics seed (pw 1))).c, w32 (root (publics seed (pw 1))).d, i64 ((0 : Nat) : Int), x36_0_9, x36_1_9]) (parts2 (hT 60 rfl rfl) (hT 61 rfl rfl)) (by kernel_rfl) eR
 refine Ask.fresh rfl rfl ?_
 intro aq wq hNq hO hR hT
 exact does_alloc zero_32 (fun b w2 he hlo hb => ⟨he, ⟨b, rfl, Nat.le_trans hR.size' hlo, hb⟩, ⟨b, rfl, hlo, hb.lt⟩⟩)
 intro a18 wd18 N18 D18 hO hR hA hU
 obtain ⟨_, _, t62, t16, _⟩ := hA
 have E18 := E17.trans hR
 have s4_18 := oT hO s4_17 rfl
 have s5_18 := oT hO s5_17 rfl
 have s9_18 := oT hO s9_17 rfl
 have s14_18 := oT hO s14_17 rfl
 have B3_18 := B3_17.ext' hR
 have B4_18 := B4_17.ext' hR
 have B5_18 := B5_17.ext' hR
 have B7_18 := B7_17.ext' hR
 have B9_18 := B9_17.ext' hR
 have B11_18 := B11_17.ext' hR
 have B13_18 := B13_17.ext' hR
 have B14_18 := B14_17.ext' hR
 have X36_0_9_18 := X36_0_9_17.ext' hR
 have X36_1_9_18 := X36_1_9_17.ext' hR
 have X44_0_13_18 := X44_0_13_17.ext' hR
 have X44_1_13_18 := X44_1_13_17.ext' hR
 have O36_0_9_18 := O36_0_9_17.ext' hR
 have O36_1_9_18 := O36_1_9_17.ext' hR
 have O44_0_13_18 := O44_0_13_17.ext' hR
 have O44_1_13_18 := O44_1_13_17.ext' hR
 have s62_18 : get a18 62 = Value.agg #[w32 (root (publics seed (pw 1))).a, w32 (root (publics seed (pw 1))).b, w32 (root (publics seed (pw 1))).c, w32 (root (publics seed (pw 1))).d, i64 ((0 : Nat) : Int), x36_0_9, x36_1_9] := t62
 obtain ⟨b16, s16_18, lo_b16, B16_18⟩ := t16
 have ne_b3_b16 := Hl B3_17 lo_b16
 have ne_b4_b16 := Hl B4_17 lo_b16
 have ne_b5_b16 := Hl B5_17 lo_b16
 have ne_b7_b16 := Hl B7_17 lo_b16
 have ne_b9_b16 := Hl B9_17 lo_b16
 have ne_b11_b16 := Hl B11_17 lo_b16
 have ne_b13_b16 := Hl B13_17 lo_b16
 have ne_b14_b16 := Hl B14_17 lo_b16
 have nb_x36_0_9_b16 := SlT.old X36_0_9_17 lo_b16
 have nb_x36_1_9_b16 := SlT.old X36_1_9_17 lo_b16
 have nb_x44_0_13_b16 := SlT.old X44_0_13_17 lo_b16
 have nb_x44_1_13_b16 := SlT.old X44_1_13_17 lo_b16
 have nbo_x36_0_9_b16 := Ol O36_0_9_17 lo_b16
 have nbo_x36_1_9_b16 := Ol O36_1_9_17 lo_b16
 have nbo_x44_0_13_b16 := Ol O44_0_13_17 lo_b16
 have nbo_x44_1_13_b16 := Ol O44_1_13_17 lo_b16
 have fr_b16 : w0.heap.size ≤ b16 := Nat.le_trans E17.size' lo_b16
 clear E17 N17 D17 s4_17 s5_17 s9_17 s11_17 s14_17 s59_17 B3_17 B4_17 B5_17 B7_17 B9_17 B11_17 B13_17 B14_17 X36_0_9_17 X36_1_9_17 X44_0_13_17 X44_1_13_17 O36_0_9_17 O36_1_9_17 O44_0_13_17 O44_1_13_17
 refine tail_none rfl rfl (does_storeD (o := 0) (n := 7) (cs' := [w32 (root (publics seed (pw 1))).a, w32 (root (publics seed (pw 1))).b, w32 (root (publics seed (pw 1))).c, w32 (root (publics seed (pw 1))).d, i64 ((0 : Nat) : Int), x36_0_9, x36_1_9]) (V := Value.agg #[w32 (root (publics seed (pw 1))).a, w32 (root (publics seed (pw 1))).b, w32 (root (publics seed (pw 1))).c, w32 (root (publics seed (pw 1))).d, i64 ((0 : Nat) : Int), x36_0_9, x36_1_9]) s16_18 s62_18 B16_18 (nB rfl) rfl siz_32 (one_cons rfl (one_cons rfl (one_cons rfl (one_cons rfl (one_cons rfl (one_cons (SlT.one X36_0_9_18) (one_cons (SlT.one X36_1_9_18) one_nil))))))) rfl (fun wd19 hX hz B16_19 => ?_))
 have E19 := E18.since hX (fun k e => e ▸ fr_b16)
 have B3_19 := B3_18.ext hX ne_b3_b16
 have B4_19 := B4_18.ext hX ne_b4_b16
 have B5_19 := B5_18.ext hX ne_b5_b16
 have B7_19 := B7_18.ext hX ne_b7_b16
 have B9_19 := B9_18.ext hX ne_b9_b16
 have B11_19 := B11_18.ext hX ne_b11_b16
 have B13_19 := B13_18.ext hX ne_b13_b16
 have B14_19 := B14_18.ext hX ne_b14_b16
 have X36_0_9_19 := SlT.over X36_0_9_18 hX nb_x36_0_9_b16
 have X36_1_9_19 := SlT.over X36_1_9_18 hX nb_x36_1_9_b16
 have X44_0_13_19 := SlT.over X44_0_13_18 hX nb_x44_0_13_b16
 have X44_1_13_19 := SlT.over X44_1_13_18 hX nb_x44_1_13_b16
 have O36_0_9_19 := OwnT.ext O36_0_9_18 hX (fun k hk e => nbo_x36_0_9_b16 (e ▸ hk))
 have O36_1_9_19 := OwnT.ext O36_1_9_18 hX (fun k hk e => nbo_x36_1_9_b16 (e ▸ hk))
 have O44_0_13_19 := OwnT.ext O44_0_13_18 hX (fun k hk e => nbo_x44_0_13_b16 (e ▸ hk))
 have O44_1_13_19 := OwnT.ext O44_1_13_18 hX (fun k hk e => nbo_x44_1_13_b16 (e ▸ hk))
 clear hX hz E18 B3_18 B4_18 B5_18 B7_18 B9_18 B11_18 B13_18 B14_18 B16_18 X36_0_9_18 X36_1_9_18 X44_0_13_18 X44_1_13_18 O36_0_9_18 O36_1_9_18 O44_0_13_18 O44_1_13_18
 refine tail_nil ?_
 refine wp_seq ?_
 refine Rl [17] [(63, Pr.ex (Dg.val (root (publics seed (pw 1))))), (64, Pr.ex (Value.agg #[i64 ((1 : Nat) : Int), x44_0_13, x44_1_13])), (65, Pr.ex (Value.agg #[w32 (root (publics seed (pw 1))).a, w32 (root (publics seed (pw 1))).b, w32 (root (publics seed (pw 1))).c, w32 (root (publics seed (pw 1))).d, i64 ((1 : Nat) : Int), x44_0_13, x44_1_13])), (17, Pr.box' wd19.heap.size 32 [w32 (Dg.zero).a, w32 (Dg.zero).b, w32 (Dg.zero).c, w32 (Dg.zero).d, i64 ((0 : Nat) : Int), Value.slice none 0 0, Value.slice none 0 0])] 4 N18 D18 ?_ ?_
 refine Ac ?_ (Ac ?_ (Ac ?_ (Ac ?_ (Az _))))
 exact Ap fun aq wq _ hO hR hT => does_loadD (o := 0) (n := 4) (mid := [w32 (root (publics seed (pw 1))).a, w32 (root (publics seed (pw 1))).b, w32 (root (publics seed (pw 1))).c, w32 (root (publics seed (pw 1))).d]) (oT hO s9_18 rfl) (B9_19.ext' hR) rfl rfl (nB rfl) row_24 rfl eR
 exact Ap fun aq wq _ hO hR hT => does_loadD (o := 0) (n := 3) (mid := [i64 ((1 : Nat) : Int), x44_0_13, x44_1_13]) (oT hO s14_18 rfl) (B14_19.ext' hR) rfl rfl (nB rfl) row_30 rfl eR
 exact Ap fun aq wq _ hO hR hT => does_build (vs := #[(0, Dg.val (root (publics seed (pw 1)))), (1, Value.agg #[i64 ((1 : Nat) : Int), x44_0_13, x44_1_13])]) (V := Value.agg #[w32 (root (publics seed (pw 1))).a, w32 (root (publics seed (pw 1))).b, w32 (root (publics seed (pw 1))).c, w32 (root (publics seed (pw 1))).d, i64 ((1 : Nat) : Int), x44_0_13, x44_1_13]) (parts2 (hT 63 rfl rfl) (hT 64 rfl rfl)) (by kernel_rfl) eR
 refine Ask.fresh rfl rfl ?_
 intro aq wq hNq hO hR hT
 exact does_alloc zero_32 (fun b w2 he hlo hb => ⟨he, ⟨b, rfl, Nat.le_trans hR.size' hlo, hb⟩, ⟨b, rfl, hlo, hb.lt⟩⟩)
 intro a20 wd20 N20 D20 hO hR hA hU
 obtain ⟨_, _, t65, t17, _⟩ := hA
 have E20 := E19.trans hR
 have s4_20 := oT hO s4_18 rfl
 have s5_20 := oT hO s5_18 rfl
 have s16_20 := oT hO s16_18 rfl
 have B3_20 := B3_19.ext' hR
 have B4_20 := B4_19.ext' hR
 have B5_20 := B5_19.ext' hR
 have B7_20 := B7_19.ext' hR
 have B9_20 := B9_19.ext' hR
 have B11_20 := B11_19.ext' hR
 have B13_20 := B13_19.ext' hR
 have B14_20 := B14_19.ext' hR
 have B16_20 := B16_19.ext' hR
 have X36_0_9_20 := X36_0_9_19.ext' hR
 have X36_1_9_20 := X36_1_9_19.ext' hR
 have X44_0_13_20 := X44_0_13_19.ext' hR
 have X44_1_13_20 := X44_1_13_19.ext' hR
 have O36_0_9_20 := O36_0_9_19.ext' hR
 have O36_1_9_20 := O36_1_9_19.ext' hR
 have O44_0_13_20 := O44_0_13_19.ext' hR
 have O44_1_13_20 := O44_1_13_19.ext' hR
 have s65_20 : get a20 65 = Value.agg #[w32 (root (publics seed (pw 1))).a, w32 (root (publics seed (pw 1))).b, w32 (root (publics seed (pw 1))).c, w32 (root (publics seed (pw 1))).d, i64 ((1 : Nat) : Int), x44_0_13, x44_1_13] := t65
 obtain ⟨b17, s17_20, lo_b17, B17_20⟩ := t17
 have ne_b3_b17 := Hl B3_19 lo_b17
 have ne_b4_b17 := Hl B4_19 lo_b17
 have ne_b5_b17 := Hl B5_19 lo_b17
 have ne_b7_b17 := Hl B7_19 lo_b17
 have ne_b9_b17 := Hl B9_19 lo_b17
 have ne_b11_b17 := Hl B11_19 lo_b17
 have ne_b13_b17 := Hl B13_19 lo_b17
 have ne_b14_b17 := Hl B14_19 lo_b17
 have ne_b16_b17 := Hl B16_19 lo_b17
 have nb_x36_0_9_b17 := SlT.old X36_0_9_19 lo_b17
 have nb_x36_1_9_b17 := SlT.old X36_1_9_19 lo_b17
 have nb_x44_0_13_b17 := SlT.old X44_0_13_19 lo_b17
 have nb_x44_1_13_b17 := SlT.old X44_1_13_19 lo_b17
 have nbo_x36_0_9_b17 := Ol O36_0_9_19 lo_b17
 have nbo_x36_1_9_b17 := Ol O36_1_9_19 lo_b17
 have nbo_x44_0_13_b17 := Ol O44_0_13_19 lo_b17
 have nbo_x44_1_13_b17 := Ol O44_1_13_19 lo_b17
 have fr_b17 : w0.heap.size ≤ b17 := Nat.le_trans E19.size' lo_b17
 clear E19 N18 D18 s4_18 s5_18 s9_18 s14_18 s16_18 s62_18 B3_19 B4_19 B5_19 B7_19 B9_19 B11_19 B13_19 B14_19 B16_19 X36_0_9_19 X36_1_9_19 X44_0_13_19 X44_1_13_19 O36_0_9_19 O36_1_9_19 O44_0_13_19 O44_1_13_19
 refine tail_none rfl rfl (does_storeD (o := 0) (n := 7) (cs' := [w32 (root (publics seed (pw 1))).a, w32 (root (publics seed (pw 1))).b, w32 (root (publics seed (pw 1))).c, w32 (root (publics seed (pw 1))).d, i64 ((1 : Nat) : Int), x44_0_13, x44_1_13]) (V := Value.agg #[w32 (root (publics seed (pw 1))).a, w32 (root (publics seed (pw 1))).b, w32 (root (publics seed (pw 1))).c, w32 (root (publics seed (pw 1))).d, i64 ((1 : Nat) : Int), x44_0_13, x44_1_13]) s17_20 s65_20 B17_20 (nB rfl) rfl siz_32 (one_cons rfl (one_cons rfl (one_cons rfl (one_cons rfl (one_cons rfl (one_cons (SlT.one X44_0_13_20) (one_cons (SlT.one X44_1_13_20) one_nil))))))) rfl (fun wd21 hX hz B17_21 => ?_))
 have E21 := E20.since hX (fun k e => e ▸ fr_b17)
 have B3_21 := B3_20.ext hX ne_b3_b17
 have B4_21 := B4_20.ext hX ne_b4_b17
 have B5_21 := B5_20.ext hX ne_b5_b17
 have B7_21 := B7_20.ext hX ne_b7_b17
 have B9_21 := B9_20.ext hX ne_b9_b17
 have B11_21 := B11_20.ext hX ne_b11_b17
 have B13_21 := B13_20.ext hX ne_b13_b17
 have B14_21 := B14_20.ext hX ne_b14_b17
 have B16_21 := B16_20.ext hX ne_b16_b17
 have X36_0_9_21 := SlT.over X36_0_9_20 hX nb_x36_0_9_b17
 have X36_1_9_21 := SlT.over X36_1_9_20 hX nb_x36_1_9_b17
 have X44_0_13_21 := SlT.over X44_0_13_20 hX nb_x44_0_13_b17
 have X44_1_13_21 := SlT.over X44_1_13_20 hX nb_x44_1_13_b17
 have O36_0_9_21 := OwnT.ext O36_0_9_20 hX (fun k hk e => nbo_x36_0_9_b17 (e ▸ hk))
 have O36_1_9_21 := OwnT.ext O36_1_9_20 hX (fun k hk e => nbo_x36_1_9_b17 (e ▸ hk))
 have O44_0_13_21 := OwnT.ext O44_0_13_20 hX (fun k hk e => nbo_x44_0_13_b17 (e ▸ hk))
 have O44_1_13_21 := OwnT.ext O44_1_13_20 hX (fun k hk e => nbo_x44_1_13_b17 (e ▸ hk))
 clear hX hz E20 B3_20 B4_20 B5_20 B7_20 B9_20 B11_20 B13_20 B14_20 B16_20 B17_20 X36_0_9_20 X36_1_9_20 X44_0_13_20 X44_1_13_20 O36_0_9_20 O36_1_9_20 O44_0_13_20 O44_1_13_20
 refine tail_nil ?_
 refine wp_seq ?_
 refine Ra [] [(66, Pr.ex (Value.agg #[w32 (ra).a, w32 (ra).b, w32 (ra).c, w32 (ra).d, w32 (oa).a, w32 (oa).b, w32 (oa).c, w32 (oa).d])), (67, Pr.ex (Value.agg #[w32 (root (publics seed (pw 1))).a, w32 (root (publics seed (pw 1))).b, w32 (root (publics seed (pw 1))).c, w32 (root (publics seed (pw 1))).d, i64 ((0 : Nat) : Int), x36_0_9, x36_1_9])), (68, Pr.ex (Value.bool (keyCheck (root (publics seed (pw 1))) (linkOf ra oa) (((0 : Nat) : Int)) (signed (seedAt seed 0) (linkOf ra oa)) (way (publics seed (pw 1)) 0)))), (69, Pr.ex (Value.bool (keyCheck (root (publics seed (pw 1))) (linkOf ra oa) (((0 : Nat) : Int)) (signed (seedAt seed 0) (linkOf ra oa)) (way (publics seed (pw 1)) 0)))), (70, Pr.ifb (keyCheck (root (publics seed (pw 1))) (linkOf ra oa) (((0 : Nat) : Int)) (signed (seedAt seed 0) (linkOf ra oa)) (way (publics seed (pw 1)) 0)) (Pr.ex (Value.agg #[w32 (rb).a, w32 (rb).b, w32 (rb).c, w32 (rb).d, w32 (ob).a, w32 (ob).b, w32 (ob).c, w32 (ob).d]))), (71, Pr.ifb (keyCheck (root (publics seed (pw 1))) (linkOf ra oa) (((0 : Nat) : Int)) (signed (seedAt seed 0) (linkOf ra oa)) (way (publics seed (pw 1)) 0)) (Pr.ex (Value.agg #[w32 (root (publics seed (pw 1))).a, w32 (root (publics seed (pw 1))).b, w32 (root (publics seed (pw 1))).c, w32 (root (publics seed (pw 1))).d, i64 ((1 : Nat) : Int), x44_0_13, x44_1_13]))), (72, Pr.ifb (keyCheck (root (publics seed (pw 1))) (linkOf ra oa) (((0 : Nat) : Int)) (signed (seedAt seed 0) (linkOf ra oa)) (way (publics seed (pw 1)) 0)) (Pr.ex (Value.bool (keyCheck (root (publics seed (pw 1))) (linkOf rb ob) (((1 : Nat) : Int)) (signed (seedAt seed 1) (linkOf rb ob)) (way (publics seed (pw 1)) 1))))), (73, Pr.ex (Value.bool ((keyCheck (root (publics seed (pw 1))) (linkOf ra oa) (((0 : Nat) : Int)) (signed (seedAt seed 0) (linkOf ra oa)) (way (publics seed (pw 1)) 0)) && (keyCheck (root (publics seed (pw 1))) (linkOf rb ob) (((1 : Nat) : Int)) (signed (seedAt seed 1) (linkOf rb ob)) (way (publics seed (pw 1)) 1))))), (74, Pr.ex (Value.bool ((keyCheck (root (publics seed (pw 1))) (linkOf ra oa) (((0 : Nat) : Int)) (signed (seedAt seed 0) (linkOf ra oa)) (way (publics seed (pw 1)) 0)) && (keyCheck (root (publics seed (pw 1))) (linkOf rb ob) (((1 : Nat) : Int)) (signed (seedAt seed 1) (linkOf rb ob)) (way (publics seed (pw 1)) 1))))), (75, Pr.ifb ((keyCheck (root (publics seed (pw 1))) (linkOf ra oa) (((0 : Nat) : Int)) (signed (seedAt seed 0) (linkOf ra oa)) (way (publics seed (pw 1)) 0)) && (keyCheck (root (publics seed (pw 1))) (linkOf rb ob) (((1 : Nat) : Int)) (signed (seedAt seed 1) (linkOf rb ob)) (way (publics seed (pw 1)) 1))) (Pr.ex (Value.agg #[w32 (ra).a, w32 (ra).b, w32 (ra).c, w32 (ra).d, w32 (oa).a, w32 (oa).b, w32 (oa).c, w32 (oa).d]))), (76, Pr.ifb ((keyCheck (root (publics seed (pw 1))) (linkOf ra oa) (((0 : Nat) : Int)) (signed (seedAt seed 0) (linkOf ra oa)) (way (publics seed (pw 1)) 0)) && (keyCheck (root (publics seed (pw 1))) (linkOf rb ob) (((1 : Nat) : Int)) (signed (seedAt seed 1) (linkOf rb ob)) (way (publics seed (pw 1)) 1))) (Pr.ex (Value.agg #[w32 (root (publics seed (pw 1))).a, w32 (root (publics seed (pw 1))).b, w32 (root (publics seed (pw 1))).c, w32 (root (publics seed (pw 1))).d, i64 ((0 : Nat) : Int), x36_0_9, x36_1_9]))), (77, Pr.ifb ((keyCheck (root (publics seed (pw 1))) (linkOf ra oa) (((0 : Nat) : Int)) (signed (seedAt seed 0) (linkOf ra oa)) (way (publics seed (pw 1)) 0)) && (keyCheck (root (publics seed (pw 1))) (linkOf rb ob) (((1 : Nat) : Int)) (signed (seedAt seed 1) (linkOf rb ob)) (way (publics seed (pw 1)) 1))) (Pr.ex (Value.agg #[w32 (rb).a, w32 (rb).b, w32 (rb).c, w32 (rb).d, w32 (ob).a, w32 (ob).b, w32 (ob).c, w32 (ob).d]))), (78, Pr.ifb ((keyCheck (root (publics seed (pw 1))) (linkOf ra oa) (((0 : Nat) : Int)) (signed (seedAt seed 0) (linkOf ra oa)) (way (publics seed (pw 1)) 0)) && (keyCheck (root (publics seed (pw 1))) (linkOf rb ob) (((1 : Nat) : Int)) (signed (seedAt seed 1) (linkOf rb ob)) (way (publics seed (pw 1)) 1))) (Pr.ex (Value.agg #[w32 (root (publics seed (pw 1))).a, w32 (root (publics seed (pw 1))).b, w32 (root (publics seed (pw 1))).c, w32 (root (publics seed (pw 1))).d, i64 ((1 : Nat) : Int), x44_0_13, x44_1_13]))), (79, Pr.ifb ((keyCheck (root (publics seed (pw 1))) (linkOf ra oa) (((0 : Nat) : Int)) (signed (seedAt seed 0) (linkOf ra oa)) (way (publics seed (pw 1)) 0)) && (keyCheck (root (publics seed (pw 1))) (linkOf rb ob) (((1 : Nat) : Int)) (signed (seedAt seed 1) (linkOf rb ob)) (way (publics seed (pw 1)) 1))) (Pr.ex (Value.bool (twiceB (root (publics seed (pw 1))) ra oa (((0 : Nat) : Int)) (signed (seedAt seed 0) (linkOf ra oa)) (way (publics seed (pw 1)) 0) (root (publics seed (pw 1))) rb ob (((1 : Nat) : Int)) (signed (seedAt seed 1) (linkOf rb ob)) (way (publics seed (pw 1)) 1))))), (80, Pr.ifb ((keyCheck (root (publics seed (pw 1))) (linkOf ra oa) (((0 : Nat) : Int)) (signed (seedAt seed 0) (linkOf ra oa)) (way (publics seed (pw 1)) 0)) && (keyCheck (root (publics seed (pw 1))) (linkOf rb ob) (((1 : Nat) : Int)) (signed (seedAt seed 1) (linkOf rb ob)) (way (publics seed (pw 1)) 1))) (Pr.ex (Value.pointer (some ⟨b4, 0, none⟩)))), (81, Pr.ifb ((keyCheck (root (publics seed (pw 1))) (linkOf ra oa) (((0 : Nat) : Int)) (signed (seedAt seed 0) (linkOf ra oa)) (way (publics seed (pw 1)) 0)) && (keyCheck (root (publics seed (pw 1))) (linkOf rb ob) (((1 : Nat) : Int)) (signed (seedAt seed 1) (linkOf rb ob)) (way (publics seed (pw 1)) 1))) (Pr.ex (Dg.val (ra)))), (82, Pr.ifb ((keyCheck (root (publics seed (pw 1))) (linkOf ra oa) (((0 : Nat) : Int)) (signed (seedAt seed 0) (linkOf ra oa)) (way (publics seed (pw 1)) 0)) && (keyCheck (root (publics seed (pw 1))) (linkOf rb ob) (((1 : Nat) : Int)) (signed (seedAt seed 1) (linkOf rb ob)) (way (publics seed (pw 1)) 1))) (Pr.ex (Value.pointer (some ⟨b5, 0, none⟩)))), (83, Pr.ifb ((keyCheck (root (publics seed (pw 1))) (linkOf ra oa) (((0 : Nat) : Int)) (signed (seedAt seed 0) (linkOf ra oa)) (way (publics seed (pw 1)) 0)) && (keyCheck (root (publics seed (pw 1))) (linkOf rb ob) (((1 : Nat) : Int)) (signed (seedAt seed 1) (linkOf rb ob)) (way (publics seed (pw 1)) 1))) (Pr.ex (Dg.val (rb)))), (84, Pr.ifb ((keyCheck (root (publics seed (pw 1))) (linkOf ra oa) (((0 : Nat) : Int)) (signed (seedAt seed 0) (linkOf ra oa)) (way (publics seed (pw 1)) 0)) && (keyCheck (root (publics seed (pw 1))) (linkOf rb ob) (((1 : Nat) : Int)) (signed (seedAt seed 1) (linkOf rb ob)) (way (publics seed (pw 1)) 1))) (Pr.ex (Value.bool (decide (ra = rb))))), (85, Pr.ifu ((keyCheck (root (publics seed (pw 1))) (linkOf ra oa) (((0 : Nat) : Int)) (signed (seedAt seed 0) (linkOf ra oa)) (way (publics seed (pw 1)) 0)) && (keyCheck (root (publics seed (pw 1))) (linkOf rb ob) (((1 : Nat) : Int)) (signed (seedAt seed 1) (linkOf rb ob)) (way (publics seed (pw 1)) 1))) (Pr.ex (Value.bool (decide (ra = rb))))), (86, Pr.ifb (((keyCheck (root (publics seed (pw 1))) (linkOf ra oa) (((0 : Nat) : Int)) (signed (seedAt seed 0) (linkOf ra oa)) (way (publics seed (pw 1)) 0)) && (keyCheck (root (publics seed (pw 1))) (linkOf rb ob) (((1 : Nat) : Int)) (signed (seedAt seed 1) (linkOf rb ob)) (way (publics seed (pw 1)) 1))) && (decide (ra = rb))) (Pr.ex (Value.pointer (some ⟨b4, 4, none⟩)))), (87, Pr.ifb (((keyCheck (root (publics seed (pw 1))) (linkOf ra oa) (((0 : Nat) : Int)) (signed (seedAt seed 0) (linkOf ra oa)) (way (publics seed (pw 1)) 0)) && (keyCheck (root (publics seed (pw 1))) (linkOf rb ob) (((1 : Nat) : Int)) (signed (seedAt seed 1) (linkOf rb ob)) (way (publics seed (pw 1)) 1))) && (decide (ra = rb))) (Pr.ex (Dg.val (oa)))), (88, Pr.ifb (((keyCheck (root (publics seed (pw 1))) (linkOf ra oa) (((0 : Nat) : Int)) (signed (seedAt seed 0) (linkOf ra oa)) (way (publics seed (pw 1)) 0)) && (keyCheck (root (publics seed (pw 1))) (linkOf rb ob) (((1 : Nat) : Int)) (signed (seedAt seed 1) (linkOf rb ob)) (way (publics seed (pw 1)) 1))) && (decide (ra = rb))) (Pr.ex (Value.pointer (some ⟨b5, 4, none⟩)))), (89, Pr.ifb (((keyCheck (root (publics seed (pw 1))) (linkOf ra oa) (((0 : Nat) : Int)) (signed (seedAt seed 0) (linkOf ra oa)) (way (publics seed (pw 1)) 0)) && (keyCheck (root (publics seed (pw 1))) (linkOf rb ob) (((1 : Nat) : Int)) (signed (seedAt seed 1) (linkOf rb ob)) (way (publics seed (pw 1)) 1))) && (decide (ra = rb))) (Pr.ex (Dg.val (ob)))), (90, Pr.ifb (((keyCheck (root (publics seed (pw 1))) (linkOf ra oa) (((0 : Nat) : Int)) (signed (seedAt seed 0) (linkOf ra oa)) (way (publics seed (pw 1)) 0)) && (keyCheck (root (publics seed (pw 1))) (linkOf rb ob) (((1 : Nat) : Int)) (signed (seedAt seed 1) (linkOf rb ob)) (way (publics seed (pw 1)) 1))) && (decide (ra = rb))) (Pr.ex (Value.bool (!decide (oa = ob))))), (91, Pr.ifb ((keyCheck (root (publics seed (pw 1))) (linkOf ra oa) (((0 : Nat) : Int)) (signed (seedAt seed 0) (linkOf ra oa)) (way (publics seed (pw 1)) 0)) && (keyCheck (root (publics seed (pw 1))) (linkOf rb ob) (((1 : Nat) : Int)) (signed (seedAt seed 1) (linkOf rb ob)) (way (publics seed (pw 1)) 1))) (Pr.ex (Value.bool ((decide (ra = rb)) && (!decide (oa = ob)))))), (92, Pr.ifb ((keyCheck (root (publics seed (pw 1))) (linkOf ra oa) (((0 : Nat) : Int)) (signed (seedAt seed 0) (linkOf ra oa)) (way (publics seed (pw 1)) 0)) && (keyCheck (root (publics seed (pw 1))) (linkOf rb ob) (((1 : Nat) : Int)) (signed (seedAt seed 1) (linkOf rb ob)) (way (publics seed (pw 1)) 1))) (Pr.ex (Value.bool (((twiceB (root (publics seed (pw 1))) ra oa (((0 : Nat) : Int)) (signed (seedAt seed 0) (linkOf ra oa)) (way (publics seed (pw 1)) 0) (root (publics seed (pw 1))) rb ob (((1 : Nat) : Int)) (signed (seedAt seed 1) (linkOf rb ob)) (way (publics seed (pw 1)) 1)) == ((decide (ra = rb)) && (!decide (oa = ob)))))))), (93, Pr.ex (Value.bool (((keyCheck (root (publics seed (pw 1))) (linkOf ra oa) (((0 : Nat) : Int)) (signed (seedAt seed 0) (linkOf ra oa)) (way (publics seed (pw 1)) 0)) && (keyCheck (root (publics seed (pw 1))) (linkOf rb ob) (((1 : Nat) : Int)) (signed (seedAt seed 1) (linkOf rb ob)) (way (publics seed (pw 1)) 1))) && (((twiceB (root (publics seed (pw 1))) ra oa (((0 : Nat) : Int)) (signed (seedAt seed 0) (linkOf ra oa)) (way (publics seed (pw 1)) 0) (root (publics seed (pw 1))) rb ob (((1 : Nat) : Int)) (signed (seedAt seed 1) (linkOf rb ob)) (way (publics seed (pw 1)) 1)) == ((decide (ra = rb)) && (!decide (oa = ob)))))))), (6, Pr.ex (Value.bool (((keyCheck (root (publics seed (pw 1))) (linkOf ra oa) (((0 : Nat) : Int)) (signed (seedAt seed 0) (linkOf ra oa)) (way (publics seed (pw 1)) 0)) && (keyCheck (root (publics seed (pw 1))) (linkOf rb ob) (((1 : Nat) : Int)) (signed (seedAt seed 1) (linkOf rb ob)) (way (publics seed (pw 1)) 1))) && (((twiceB (root (publics seed (pw 1))) ra oa (((0 : Nat) : Int)) (signed (seedAt seed 0) (linkOf ra oa)) (way (publics seed (pw 1)) 0) (root (publics seed (pw 1))) rb ob (((1 : Nat) : Int)) (signed (seedAt seed 1) (linkOf rb ob)) (way (publics seed (pw 1)) 1)) == ((decide (ra = rb)) && (!decide (oa = ob))))))))] 29 mixed N20 D20 ?_ ?_
 refine Ac ?_ (Ac ?_ (Ac ?_ (Ac ?_ (Ac ?_ (Ac ?_ (Ac ?_ (Ac ?_ (Ac ?_ (Ac ?_ (Ac ?_ (Ac ?_ (Ac ?_ (Ac ?_ (Ac ?_ (Ac ?_ (Ac ?_ (Ac ?_ (Ac ?_ (Ac ?_ (Ac ?_ (Ac ?_ (Ac ?_ (Ac ?_ (Ac ?_ (Ac ?_ (Ac ?_ (Ac ?_ (Ac ?_ (Az _)))))))))))))))))))))))))))))
 exact Ad fun aq wq _ hO hR hT => does_loadD (o := 0) (n := 8) (mid := [w32 (ra).a, w32 (ra).b, w32 (ra).c, w32 (ra).d, w32 (oa).a, w32 (oa).b, w32 (oa).c, w32 (oa).d]) (oT hO s4_20 rfl) (B4_21.ext' hR) rfl rfl (nB rfl) row_26 rfl eR
 exact Ad fun aq wq _ hO hR hT => does_loadD (o := 0) (n := 7) (mid := [w32 (root (publics seed (pw 1))).a, w32 (root (publics seed (pw 1))).b, w32 (root (publics seed (pw 1))).c, w32 (root (publics seed (pw 1))).d, i64 ((0 : Nat) : Int), x36_0_9, x36_1_9]) (oT hO s16_20 rfl) (B16_21.ext' hR) rfl rfl (nB rfl) row_32 rfl eR
 exact Ad fun aq wq _ hO hR hT => does_ret (vs := #[Value.agg #[w32 (ra).a, w32 (ra).b, w32 (ra).c, w32 (ra).d, w32 (oa).a, w32 (oa).b, w32 (oa).c, w32 (oa).d], Value.agg #[w32 (root (publics seed (pw 1))).a, w32 (root (publics seed (pw 1))).b, w32 (root (publics seed (pw 1))).c, w32 (root (publics seed (pw 1))).d, i64 ((0 : Nat) : Int), x36_0_9, x36_1_9]]) call_12 (args2 (hT 66 rfl rfl) (hT 67 rfl rfl)) rfl ((linkCheck_ ra oa (root (publics seed (pw 1))) (((0 : Nat) : Int)) (signed (seedAt seed 0) (linkOf ra oa)) (way (publics seed (pw 1)) 0) (x36_0_9) (x36_1_9) wq (hL.ext (E21.trans hR)) ((X36_0_9_21.ext' hR).wide (Nat.zero_le _) (.inl rfl)) ((X36_1_9_21.ext' hR).wide (Nat.zero_le _) (.inl rfl)) (by rw [signed_length]; decide) (by rw [way_pw 1 _ _ (publics_length _ _) (by rw [publics_length]; decide)]; decide)).mono fun v w2 h => ⟨h.2, h.1⟩)
 exact Ad fun aq wq _ hO hR hT => does_move (V := Value.bool (keyCheck (root (publics seed (pw 1))) (linkOf ra oa) (((0 : Nat) : Int)) (signed (seedAt seed 0) (linkOf ra oa)) (way (publics seed (pw 1)) 0))) (hT 68 rfl rfl) eR
 refine Ask.guarded (B := keyCheck (root (publics seed (pw 1))) (linkOf ra oa) (((0 : Nat) : Int)) (signed (seedAt seed 0) (linkOf ra oa)) (way (publics seed (pw 1)) 0)) (want := true) (t := 69) rfl rfl rfl rfl (by decide) (fun aq wq hO hR hT => hT 69 rfl rfl) (fun hG aq wq hNq hO hR hT => ?_) (fun hno _ => fun hc => absurd hc hno)
 replace hR := (Ext.drew _).trans hR
 exact does_loadD (o := 0) (n := 8) (mid := [w32 (rb).a, w32 (rb).b, w32 (rb).c, w32 (rb).d, w32 (ob).a, w32 (ob).b, w32 (ob).c, w32 (ob).d]) (oT hO s5_20 rfl) (B5_21.ext' hR) rfl rfl (nB rfl) row_26 rfl ⟨Ext.refl _, fun _ => rfl⟩
 refine Ask.guarded (B := keyCheck (root (publics seed (pw 1))) (linkOf ra oa) (((0 : Nat) : Int)) (signed (seedAt seed 0) (linkOf ra oa)) (way (publics seed (pw 1)) 0)) (want := true) (t := 69) rfl rfl rfl rfl (by decide) (fun aq wq hO hR hT => hT 69 rfl rfl) (fun hG aq wq hNq hO hR hT => ?_) (fun hno _ => fun hc => absurd hc hno)
 replace hR := (Ext.drew _).trans hR
 exact does_loadD (o := 0) (n := 7) (mid := [w32 (root (publics seed (pw 1))).a, w32 (root (publics seed (pw 1))).b, w32 (root (publics seed (pw 1))).c, w32 (root (publics seed (pw 1))).d, i64 ((1 : Nat) : Int), x44_0_13, x44_1_13]) (oT hO s17_20 rfl) (B17_21.ext' hR) rfl rfl (nB rfl) row_32 rfl ⟨Ext.refl _, fun _ => rfl⟩
 refine Ask.guarded (B := keyCheck (root (publics seed (pw 1))) (linkOf ra oa) (((0 : Nat) : Int)) (signed (seedAt seed 0) (linkOf ra oa)) (way (publics seed (pw 1)) 0)) (want := true) (t := 69) rfl rfl rfl rfl (by decide) (fun aq wq hO hR hT => hT 69 rfl rfl) (fun hG aq wq hNq hO hR hT => ?_) (fun hno _ => fun hc => absurd hc hno)
 replace hR := (Ext.drew _).trans hR
 exact does_ret (vs := #[Value.agg #[w32 (rb).a, w32 (rb).b, w32 (rb).c, w32 (rb).d, w32 (ob).a, w32 (ob).b, w32 (ob).c, w32 (ob).d], Value.agg #[w32 (root (publics seed (pw 1))).a, w32 (root (publics seed (pw 1))).b, w32 (root (publics seed (pw 1))).c, w32 (root (publics seed (pw 1))).d, i64 ((1 : Nat) : Int), x44_0_13, x44_1_13]]) call_12 (args2 (hT 70 rfl rfl hG) (hT 71 rfl rfl hG)) rfl ((linkCheck_ rb ob (root (publics seed (pw 1))) (((1 : Nat) : Int)) (signed (seedAt seed 1) (linkOf rb ob)) (way (publics seed (pw 1)) 1) (x44_0_13) (x44_1_13) wq (hL.ext (E21.trans hR)) ((X44_0_13_21.ext' hR).wide (Nat.zero_le _) (.inl rfl)) ((X44_1_13_21.ext' hR).wide (Nat.zero_le _) (.inl rfl)) (by rw [signed_length]; decide) (by rw [way_pw 1 _ _ (publics_length _ _) (by rw [publics_length]; decide)]; decide)).mono fun v w2 h => ⟨h.2, fun _ => h.1⟩)
 exact Ad fun aq wq _ hO hR hT => does_and (B := keyCheck (root (publics seed (pw 1))) (linkOf ra oa) (((0 : Nat) : Int)) (signed (seedAt seed 0) (linkOf ra oa)) (way (publics seed (pw 1)) 0)) (X := keyCheck (root (publics seed (pw 1))) (linkOf rb ob) (((1 : Nat) : Int)) (signed (seedAt seed 1) (linkOf rb ob)) (way (publics seed (pw 1)) 1)) (hT 69 rfl rfl) (fun hB => (hT 72 rfl rfl hB)) rfl eR
 exact Ad fun aq wq _ hO hR hT => does_move (V := Value.bool ((keyCheck (root (publics seed (pw 1))) (linkOf ra oa) (((0 : Nat) : Int)) (signed (seedAt seed 0) (linkOf ra oa)) (way (publics seed (pw 1)) 0)) && (keyCheck (root (publics seed (pw 1))) (linkOf rb ob) (((1 : Nat) : Int)) (signed (seedAt seed 1) (linkOf rb ob)) (way (publics seed (pw 1)) 1)))) (hT 73 rfl rfl) eR
 refine Ask.guarded (B := (keyCheck (root (publics seed (pw 1))) (linkOf ra oa) (((0 : Nat) : Int)) (signed (seedAt seed 0) (linkOf ra oa)) (way (publics seed (pw 1)) 0)) && (keyCheck (root (publics seed (pw 1))) (linkOf rb ob) (((1 : Nat) : Int)) (signed (seedAt seed 1) (linkOf rb ob)) (way (publics seed (pw 1)) 1))) (want := true) (t := 74) rfl rfl rfl rfl (by decide) (fun aq wq hO hR hT => hT 74 rfl rfl) (fun hG aq wq hNq hO hR hT => ?_) (fun hno _ => fun hc => absurd hc hno)
 replace hR := (Ext.drew _).trans hR
 exact does_loadD (o := 0) (n := 8) (mid := [w32 (ra).a, w32 (ra).b, w32 (ra).c, w32 (ra).d, w32 (oa).a, w32 (oa).b, w32 (oa).c, w32 (oa).d]) (oT hO s4_20 rfl) (B4_21.ext' hR) rfl rfl (nB rfl) row_26 rfl ⟨Ext.refl _, fun _ => rfl⟩
 refine Ask.guarded (B := (keyCheck (root (publics seed (pw 1))) (linkOf ra oa) (((0 : Nat) : Int)) (signed (seedAt seed 0) (linkOf ra oa)) (way (publics seed (pw 1)) 0)) && (keyCheck (root (publics seed (pw 1))) (linkOf rb ob) (((1 : Nat) : Int)) (signed (seedAt seed 1) (linkOf rb ob)) (way (publics seed (pw 1)) 1))) (want := true) (t := 74) rfl rfl rfl rfl (by decide) (fun aq wq hO hR hT => hT 74 rfl rfl) (fun hG aq wq hNq hO hR hT => ?_) (fun hno _ => fun hc => absurd hc hno)
 replace hR := (Ext.drew _).trans hR
 exact does_loadD (o := 0) (n := 7) (mid := [w32 (root (publics seed (pw 1))).a, w32 (root (publics seed (pw 1))).b, w32 (root (publics seed (pw 1))).c, w32 (root (publics seed (pw 1))).d, i64 ((0 : Nat) : Int), x36_0_9, x36_1_9]) (oT hO s16_20 rfl) (B16_21.ext' hR) rfl rfl (nB rfl) row_32 rfl ⟨Ext.refl _, fun _ => rfl⟩
 refine Ask.guarded (B := (keyCheck (root (publics seed (pw 1))) (linkOf ra oa) (((0 : Nat) : Int)) (signed (seedAt seed 0) (linkOf ra oa)) (way (publics seed (pw 1)) 0)) && (keyCheck (root (publics seed (pw 1))) (linkOf rb ob) (((1 : Nat) : Int)) (signed (seedAt seed 1) (linkOf rb ob)) (way (publics seed (pw 1)) 1))) (want := true) (t := 74) rfl rfl rfl rfl (by decide) (fun aq wq hO hR hT => hT 74 rfl rfl) (fun hG aq wq hNq hO hR hT => ?_) (fun hno _ => fun hc => absurd hc hno)
 replace hR := (Ext.drew _).trans hR
 exact does_loadD (o := 0) (n := 8) (mid := [w32 (rb).a, w32 (rb).b, w32 (rb).c, w32 (rb).d, w32 (ob).a, w32 (ob).b, w32 (ob).c, w32 (ob).d]) (oT hO s5_20 rfl) (B5_21.ext' hR) rfl rfl (nB rfl) row_26 rfl ⟨Ext.refl _, fun _ => rfl⟩
 refine Ask.guarded (B := (keyCheck (root (publics seed (pw 1))) (linkOf ra oa) (((0 : Nat) : Int)) (signed (seedAt seed 0) (linkOf ra oa)) (way (publics seed (pw 1)) 0)) && (keyCheck (root (publics seed (pw 1))) (linkOf rb ob) (((1 : Nat) : Int)) (signed (seedAt seed 1) (linkOf rb ob)) (way (publics seed (pw 1)) 1))) (want := true) (t := 74) rfl rfl rfl rfl (by decide) (fun aq wq hO hR hT => hT 74 rfl rfl) (fun hG aq wq hNq hO hR hT => ?_) (fun hno _ => fun hc => absurd hc hno)
 replace hR := (Ext.drew _).trans hR
 exact does_loadD (o := 0) (n := 7) (mid := [w32 (root (publics seed (pw 1))).a, w32 (root (publics seed (pw 1))).b, w32 (root (publics seed (pw 1))).c, w32 (root (publics seed (pw 1))).d, i64 ((1 : Nat) : Int), x44_0_13, x44_1_13]) (oT hO s17_20 rfl) (B17_21.ext' hR) rfl rfl (nB rfl) row_32 rfl ⟨Ext.refl _, fun _ => rfl⟩
 refine Ask.guarded (B := (keyCheck (root (publics seed (pw 1))) (linkOf ra oa) (((0 : Nat) : Int)) (signed (seedAt seed 0) (linkOf ra oa)) (way (publics seed (pw 1)) 0)) && (keyCheck (root (publics seed (pw 1))) (linkOf rb ob) (((1 : Nat) : Int)) (signed (seedAt seed 1) (linkOf rb ob)) (way (publics seed (pw 1)) 1))) (want := true) (t := 74) rfl rfl rfl rfl (by decide) (fun aq wq hO hR hT => hT 74 rfl rfl) (fun hG aq wq hNq hO hR hT => ?_) (fun hno _ => fun hc => absurd hc hno)
 replace hR := (Ext.drew _).trans hR
 exact does_ret (vs := #[Value.agg #[w32 (ra).a, w32 (ra).b, w32 (ra).c, w32 (ra).d, w32 (oa).a, w32 (oa).b, w32 (oa).c, w32 (oa).d], Value.agg #[w32 (root (publics seed (pw 1))).a, w32 (root (publics seed (pw 1))).b, w32 (root (publics seed (pw 1))).c, w32 (root (publics seed (pw 1))).d, i64 ((0 : Nat) : Int), x36_0_9, x36_1_9], Value.agg #[w32 (rb).a, w32 (rb).b, w32 (rb).c, w32 (rb).d, w32 (ob).a, w32 (ob).b, w32 (ob).c, w32 (ob).d], Value.agg #[w32 (root (publics seed (pw 1))).a, w32 (root (publics seed (pw 1))).b, w32 (root (publics seed (pw 1))).c, w32 (root (publics seed (pw 1))).d, i64 ((1 : Nat) : Int), x44_0_13, x44_1_13]]) call_14 (args4 (hT 75 rfl rfl hG) (hT 76 rfl rfl hG) (hT 77 rfl rfl hG) (hT 78 rfl rfl hG)) rfl ((twice_ ra oa (root (publics seed (pw 1))) (((0 : Nat) : Int)) (signed (seedAt seed 0) (linkOf ra oa)) (way (publics seed (pw 1)) 0) rb ob (root (publics seed (pw 1))) (((1 : Nat) : Int)) (signed (seedAt seed 1) (linkOf rb ob)) (way (publics seed (pw 1)) 1) (x36_0_9) (x36_1_9) (x44_0_13) (x44_1_13) wq (hL.ext (E21.trans hR)) ((X36_0_9_21.ext' hR).wide (Nat.zero_le _) (.inl rfl)) ((X36_1_9_21.ext' hR).wide (Nat.zero_le _) (.inl rfl)) ((X44_0_13_21.ext' hR).wide (Nat.zero_le _) (.inl rfl)) ((X44_1_13_21.ext' hR).wide (Nat.zero_le _) (.inl rfl)) (by rw [signed_length]; decide) (by rw [way_pw 1 _ _ (publics_length _ _) (by rw [publics_length]; decide)]; decide) (by rw [signed_length]; decide) (by rw [way_pw 1 _ _ (publics_length _ _) (by rw [publics_length]; decide)]; decide)).mono fun v w2 h => ⟨h.2, fun _ => h.1⟩)
 refine Ask.guarded (B := (keyCheck (root (publics seed (pw 1))) (linkOf ra oa) (((0 : Nat) : Int)) (signed (seedAt seed 0) (linkOf ra oa)) (way (publics seed (pw 1)) 0)) && (keyCheck (root (publics seed (pw 1))) (linkOf rb ob) (((1 : Nat) : Int)) (signed (seedAt seed 1) (linkOf rb ob)) (way (publics seed (pw 1)) 1))) (want := true) (t := 74) rfl rfl rfl rfl (by decide) (fun aq wq hO hR hT => hT 74 rfl rfl) (fun hG aq wq hNq hO hR hT => ?_) (fun hno _ => fun hc => absurd hc hno)
 replace hR := (Ext.drew _).trans hR
 exact does_field (o' := 0) fld_26_0 (oT hO s4_20 rfl) rfl ⟨Ext.refl _, fun _ => rfl⟩
 refine Ask.guarded (B := (keyCheck (root (publics seed (pw 1))) (linkOf ra oa) (((0 : Nat) : Int)) (signed (seedAt seed 0) (linkOf ra oa)) (way (publics seed (pw 1)) 0)) && (keyCheck (root (publics seed (pw 1))) (linkOf rb ob) (((1 : Nat) : Int)) (signed (seedAt seed 1) (linkOf rb ob)) (way (publics seed (pw 1)) 1))) (want := true) (t := 74) rfl rfl rfl rfl (by decide) (fun aq wq hO hR hT => hT 74 rfl rfl) (fun hG aq wq hNq hO hR hT => ?_) (fun hno _ => fun hc => absurd hc hno)
 replace hR := (Ext.drew _).trans hR
 exact does_loadD (o := 0) (n := 4) (mid := [w32 (ra).a, w32 (ra).b, w32 (ra).c, w32 (ra).d]) (hT 80 rfl rfl hG) (B4_21.ext' hR) rfl rfl (nB rfl) row_24 rfl ⟨Ext.refl _, fun _ => rfl⟩
 refine Ask.guarded (B := (keyCheck (root (publics seed (pw 1))) (linkOf ra oa) (((0 : Nat) : Int)) (signed (seedAt seed 0) (linkOf ra oa)) (way (publics seed (pw 1)) 0)) && (keyCheck (root (publics seed (pw 1))) (linkOf rb ob) (((1 : Nat) : Int)) (signed (seedAt seed 1) (linkOf rb ob)) (way (publics seed (pw 1)) 1))) (want := true) (t := 74) rfl rfl rfl rfl (by decide) (fun aq wq hO hR hT => hT 74 rfl rfl) (fun hG aq wq hNq hO hR hT => ?_) (fun hno _ => fun hc => absurd hc hno)
 replace hR := (Ext.drew _).trans hR
 exact does_field (o' := 0) fld_26_0 (oT hO s5_20 rfl) rfl ⟨Ext.refl _, fun _ => rfl⟩
 refine Ask.guarded (B := (keyCheck (root (publics seed (pw 1))) (linkOf ra oa) (((0 : Nat) : Int)) (signed (seedAt seed 0) (linkOf ra oa)) (way (publics seed (pw 1)) 0)) && (keyCheck (root (publics seed (pw 1))) (linkOf rb ob) (((1 : Nat) : Int)) (signed (seedAt seed 1) (linkOf rb ob)) (way (publics seed (pw 1)) 1))) (want := true) (t := 74) rfl rfl rfl rfl (by decide) (fun aq wq hO hR hT => hT 74 rfl rfl) (fun hG aq wq hNq hO hR hT => ?_) (fun hno _ => fun hc => absurd hc hno)
 replace hR := (Ext.drew _).trans hR
 exact does_loadD (o := 0) (n := 4) (mid := [w32 (rb).a, w32 (rb).b, w32 (rb).c, w32 (rb).d]) (hT 82 rfl rfl hG) (B5_21.ext' hR) rfl rfl (nB rfl) row_24 rfl ⟨Ext.refl _, fun _ => rfl⟩
 refine Ask.guarded (B := (keyCheck (root (publics seed (pw 1))) (linkOf ra oa) (((0 : Nat) : Int)) (signed (seedAt seed 0) (linkOf ra oa)) (way (publics seed (pw 1)) 0)) && (keyCheck (root (publics seed (pw 1))) (linkOf rb ob) (((1 : Nat) : Int)) (signed (seedAt seed 1) (linkOf rb ob)) (way (publics seed (pw 1)) 1))) (want := true) (t := 74) rfl rfl rfl rfl (by decide) (fun aq wq hO hR hT => hT 74 rfl rfl) (fun hG aq wq hNq hO hR hT => ?_) (fun hno _ => fun hc => absurd hc hno)
 replace hR := (Ext.drew _).trans hR
 exact does_eqT (a := ra) (b := rb) eq_24 (hT 81 rfl rfl hG) (hT 83 rfl rfl hG) ⟨Ext.refl _, fun _ => rfl⟩
 refine Ask.guarded (B := (keyCheck (root (publics seed (pw 1))) (linkOf ra oa) (((0 : Nat) : Int)) (signed (seedAt seed 0) (linkOf ra oa)) (way (publics seed (pw 1)) 0)) && (keyCheck (root (publics seed (pw 1))) (linkOf rb ob) (((1 : Nat) : Int)) (signed (seedAt seed 1) (linkOf rb ob)) (way (publics seed (pw 1)) 1))) (want := true) (t := 74) rfl rfl rfl rfl (by decide) (fun aq wq hO hR hT => hT 74 rfl rfl) (fun hG aq wq hNq hO hR hT => ?_) (fun hno _ => ⟨fun hc => absurd hc hno, fun _ => rfl⟩)
 replace hR := (Ext.drew _).trans hR
 exact does_move (V := Value.bool (decide (ra = rb))) (hT 84 rfl rfl hG) ⟨Ext.refl _, fun _ => rfl, fun hc => (by rw [hG] at hc; cases hc)⟩
 refine Ask.guarded2 (C := (keyCheck (root (publics seed (pw 1))) (linkOf ra oa) (((0 : Nat) : Int)) (signed (seedAt seed 0) (linkOf ra oa)) (way (publics seed (pw 1)) 0)) && (keyCheck (root (publics seed (pw 1))) (linkOf rb ob) (((1 : Nat) : Int)) (signed (seedAt seed 1) (linkOf rb ob)) (way (publics seed (pw 1)) 1))) (B := decide (ra = rb)) (want := true) (t := 85) rfl rfl rfl rfl (by decide) (fun aq wq hO hR hT => hT 85 rfl rfl) (fun hC hG aq wq hNq hO hR hT => ?_) (fun hno _ => fun hc => absurd ⟨andl hc, andr hc⟩ hno)
 replace hG := andi hC hG
 replace hR := (Ext.drew _).trans hR
 exact does_field (o' := 4) fld_26_1 (oT hO s4_20 rfl) rfl ⟨Ext.refl _, fun _ => rfl⟩
 refine Ask.guarded2 (C := (keyCheck (root (publics seed (pw 1))) (linkOf ra oa) (((0 : Nat) : Int)) (signed (seedAt seed 0) (linkOf ra oa)) (way (publics seed (pw 1)) 0)) && (keyCheck (root (publics seed (pw 1))) (linkOf rb ob) (((1 : Nat) : Int)) (signed (seedAt seed 1) (linkOf rb ob)) (way (publics seed (pw 1)) 1))) (B := decide (ra = rb)) (want := true) (t := 85) rfl rfl rfl rfl (by decide) (fun aq wq hO hR hT => hT 85 rfl rfl) (fun hC hG aq wq hNq hO hR hT => ?_) (fun hno _ => fun hc => absurd ⟨andl hc, andr hc⟩ hno)
 replace hG := andi hC hG
 replace hR := (Ext.drew _).trans hR
 exact does_loadD (o := 4) (n := 4) (mid := [w32 (oa).a, w32 (oa).b, w32 (oa).c, w32 (oa).d]) (hT 86 rfl rfl hG) (B4_21.ext' hR) rfl rfl (nB rfl) row_24 rfl ⟨Ext.refl _, fun _ => rfl⟩
 refine Ask.guarded2 (C := (keyCheck (root (publics seed (pw 1))) (linkOf ra oa) (((0 : Nat) : Int)) (signed (seedAt seed 0) (linkOf ra oa)) (way (publics seed (pw 1)) 0)) && (keyCheck (root (publics seed (pw 1))) (linkOf rb ob) (((1 : Nat) : Int)) (signed (seedAt seed 1) (linkOf rb ob)) (way (publics seed (pw 1)) 1))) (B := decide (ra = rb)) (want := true) (t := 85) rfl rfl rfl rfl (by decide) (fun aq wq hO hR hT => hT 85 rfl rfl) (fun hC hG aq wq hNq hO hR hT => ?_) (fun hno _ => fun hc => absurd ⟨andl hc, andr hc⟩ hno)
 replace hG := andi hC hG
 replace hR := (Ext.drew _).trans hR
 exact does_field (o' := 4) fld_26_1 (oT hO s5_20 rfl) rfl ⟨Ext.refl _, fun _ => rfl⟩
 refine Ask.guarded2 (C := (keyCheck (root (publics seed (pw 1))) (linkOf ra oa) (((0 : Nat) : Int)) (signed (seedAt seed 0) (linkOf ra oa)) (way (publics seed (pw 1)) 0)) && (keyCheck (root (publics seed (pw 1))) (linkOf rb ob) (((1 : Nat) : Int)) (signed (seedAt seed 1) (linkOf rb ob)) (way (publics seed (pw 1)) 1))) (B := decide (ra = rb)) (want := true) (t := 85) rfl rfl rfl rfl (by decide) (fun aq wq hO hR hT => hT 85 rfl rfl) (fun hC hG aq wq hNq hO hR hT => ?_) (fun hno _ => fun hc => absurd ⟨andl hc, andr hc⟩ hno)
 replace hG := andi hC hG
 replace hR := (Ext.drew _).trans hR
 exact does_loadD (o := 4) (n := 4) (mid := [w32 (ob).a, w32 (ob).b, w32 (ob).c, w32 (ob).d]) (hT 88 rfl rfl hG) (B5_21.ext' hR) rfl rfl (nB rfl) row_24 rfl ⟨Ext.refl _, fun _ => rfl⟩
 refine Ask.guarded2 (C := (keyCheck (root (publics seed (pw 1))) (linkOf ra oa) (((0 : Nat) : Int)) (signed (seedAt seed 0) (linkOf ra oa)) (way (publics seed (pw 1)) 0)) && (keyCheck (root (publics seed (pw 1))) (linkOf rb ob) (((1 : Nat) : Int)) (signed (seedAt seed 1) (linkOf rb ob)) (way (publics seed (pw 1)) 1))) (B := decide (ra = rb)) (want := true) (t := 85) rfl rfl rfl rfl (by decide) (fun aq wq hO hR hT => hT 85 rfl rfl) (fun hC hG aq wq hNq hO hR hT => ?_) (fun hno _ => fun hc => absurd ⟨andl hc, andr hc⟩ hno)
 replace hG := andi hC hG
 replace hR := (Ext.drew _).trans hR
 exact does_neT (a := oa) (b := ob) eq_24 (hT 87 rfl rfl hG) (hT 89 rfl rfl hG) ⟨Ext.refl _, fun _ => rfl⟩
 refine Ask.guarded (B := (keyCheck (root (publics seed (pw 1))) (linkOf ra oa) (((0 : Nat) : Int)) (signed (seedAt seed 0) (linkOf ra oa)) (way (publics seed (pw 1)) 0)) && (keyCheck (root (publics seed (pw 1))) (linkOf rb ob) (((1 : Nat) : Int)) (signed (seedAt seed 1) (linkOf rb ob)) (way (publics seed (pw 1)) 1))) (want := true) (t := 74) rfl rfl rfl rfl (by decide) (fun aq wq hO hR hT => hT 74 rfl rfl) (fun hG aq wq hNq hO hR hT => ?_) (fun hno _ => fun hc => absurd hc hno)
 replace hR := (Ext.drew _).trans hR
 exact does_and (B := decide (ra = rb)) (X := !decide (oa = ob)) (And.left (hT 85 rfl rfl) hG) (fun hB => (hT 90 rfl rfl (andi hG hB))) rfl ⟨Ext.refl _, fun _ => rfl⟩
 refine Ask.guarded (B := (keyCheck (root (publics seed (pw 1))) (linkOf ra oa) (((0 : Nat) : Int)) (signed (seedAt seed 0) (linkOf ra oa)) (way (publics seed (pw 1)) 0)) && (keyCheck (root (publics seed (pw 1))) (linkOf rb ob) (((1 : Nat) : Int)) (signed (seedAt seed 1) (linkOf rb ob)) (way (publics seed (pw 1)) 1))) (want := true) (t := 74) rfl rfl rfl rfl (by decide) (fun aq wq hO hR hT => hT 74 rfl rfl) (fun hG aq wq hNq hO hR hT => ?_) (fun hno _ => fun hc => absurd hc hno)
 replace hR := (Ext.drew _).trans hR
 exact does_eqB Tryd.underlying4 (hT 79 rfl rfl hG) (hT 91 rfl rfl hG) ⟨Ext.refl _, fun _ => rfl⟩
 exact Ad fun aq wq _ hO hR hT => does_and (B := (keyCheck (root (publics seed (pw 1))) (linkOf ra oa) (((0 : Nat) : Int)) (signed (seedAt seed 0) (linkOf ra oa)) (way (publics seed (pw 1)) 0)) && (keyCheck (root (publics seed (pw 1))) (linkOf rb ob) (((1 : Nat) : Int)) (signed (seedAt seed 1) (linkOf rb ob)) (way (publics seed (pw 1)) 1))) (X := ((twiceB (root (publics seed (pw 1))) ra oa (((0 : Nat) : Int)) (signed (seedAt seed 0) (linkOf ra oa)) (way (publics seed (pw 1)) 0) (root (publics seed (pw 1))) rb ob (((1 : Nat) : Int)) (signed (seedAt seed 1) (linkOf rb ob)) (way (publics seed (pw 1)) 1)) == ((decide (ra = rb)) && (!decide (oa = ob))))) (hT 74 rfl rfl) (fun hB => (hT 92 rfl rfl hB)) rfl eR
 exact Ad fun aq wq _ hO hR hT => does_assign (V := Value.bool (((keyCheck (root (publics seed (pw 1))) (linkOf ra oa) (((0 : Nat) : Int)) (signed (seedAt seed 0) (linkOf ra oa)) (way (publics seed (pw 1)) 0)) && (keyCheck (root (publics seed (pw 1))) (linkOf rb ob) (((1 : Nat) : Int)) (signed (seedAt seed 1) (linkOf rb ob)) (way (publics seed (pw 1)) 1))) && (((twiceB (root (publics seed (pw 1))) ra oa (((0 : Nat) : Int)) (signed (seedAt seed 0) (linkOf ra oa)) (way (publics seed (pw 1)) 0) (root (publics seed (pw 1))) rb ob (((1 : Nat) : Int)) (signed (seedAt seed 1) (linkOf rb ob)) (way (publics seed (pw 1)) 1)) == ((decide (ra = rb)) && (!decide (oa = ob))))))) (hT 93 rfl rfl) eR
 intro a22 wd22 N22 D22 hO hR hA hU
 obtain ⟨_, _, _, _, _, _, _, _, _, _, _, _, _, _, _, _, _, _, _, _, _, _, _, _, _, _, _, _, t6, _⟩ := hA
 have E22 := E21.trans hR
 have B3_22 := B3_21.ext' hR
 have B4_22 := B4_21.ext' hR
 have B5_22 := B5_21.ext' hR
 have B7_22 := B7_21.ext' hR
 have B9_22 := B9_21.ext' hR
 have B11_22 := B11_21.ext' hR
 have B13_22 := B13_21.ext' hR
 have B14_22 := B14_21.ext' hR
 have B16_22 := B16_21.ext' hR
 have B17_22 := B17_21.ext' hR
 have X36_0_9_22 := X36_0_9_21.ext' hR
 have X36_1_9_22 := X36_1_9_21.ext' hR
 have X44_0_13_22 := X44_0_13_21.ext' hR
 have X44_1_13_22 := X44_1_13_21.ext' hR
 have O36_0_9_22 := O36_0_9_21.ext' hR
 have O36_1_9_22 := O36_1_9_21.ext' hR
 have O44_0_13_22 := O44_0_13_21.ext' hR
 have O44_1_13_22 := O44_1_13_21.ext' hR
 have s6_22 : get a22 6 = Value.bool (((keyCheck (root (publics seed (pw 1))) (linkOf ra oa) (((0 : Nat) : Int)) (signed (seedAt seed 0) (linkOf ra oa)) (way (publics seed (pw 1)) 0)) && (keyCheck (root (publics seed (pw 1))) (linkOf rb ob) (((1 : Nat) : Int)) (signed (seedAt seed 1) (linkOf rb ob)) (way (publics seed (pw 1)) 1))) && (((twiceB (root (publics seed (pw 1))) ra oa (((0 : Nat) : Int)) (signed (seedAt seed 0) (linkOf ra oa)) (way (publics seed (pw 1)) 0) (root (publics seed (pw 1))) rb ob (((1 : Nat) : Int)) (signed (seedAt seed 1) (linkOf rb ob)) (way (publics seed (pw 1)) 1)) == ((decide (ra = rb)) && (!decide (oa = ob)))))) := t6
 clear E21 N20 D20 s4_20 s5_20 s16_20 s17_20 s65_20 B3_21 B4_21 B5_21 B7_21 B9_21 B11_21 B13_21 B14_21 B16_21 B17_21 X36_0_9_21 X36_1_9_21 X44_0_13_21 X44_1_13_21 O36_0_9_21 O36_1_9_21 O44_0_13_21 O44_1_13_21
 refine tail_nil ?_
 refine wp_ret ?_
 refine res_one (V := Value.bool (((keyCheck (root (publics seed (pw 1))) (linkOf ra oa) (((0 : Nat) : Int)) (signed (seedAt seed 0) (linkOf ra oa)) (way (publics seed (pw 1)) 0)) && (keyCheck (root (publics seed (pw 1))) (linkOf rb ob) (((1 : Nat) : Int)) (signed (seedAt seed 1) (linkOf rb ob)) (way (publics seed (pw 1)) 1))) && (((twiceB (root (publics seed (pw 1))) ra oa (((0 : Nat) : Int)) (signed (seedAt seed 0) (linkOf ra oa)) (way (publics seed (pw 1)) 0) (root (publics seed (pw 1))) rb ob (((1 : Nat) : Int)) (signed (seedAt seed 1) (linkOf rb ob)) (way (publics seed (pw 1)) 1)) == ((decide (ra = rb)) && (!decide (oa = ob))))))) rfl D22 s6_22 ?_
 exact ⟨congrArg Value.bool (by rw [keyCheck_sign (by decide) (by decide), keyCheck_sign (by decide) (by decide), twiceB_said (keyCheck_sign (by decide) (by decide)) (keyCheck_sign (by decide) (by decide)) rfl]; simp), E22⟩

end Go.Proofs.YtmmghpbncejfiaaDoor
