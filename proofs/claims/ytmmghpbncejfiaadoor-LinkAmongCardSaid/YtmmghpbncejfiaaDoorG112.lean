/- The walks of functions of the program: printed. -/
import Derived.Test.YtmmghpbncejfiaaDoorKB
import Derived.Test.YtmmghpbncejfiaaDoorG111
import Derived.Test.YtmmghpbncejfiaaDoorF0
set_option maxRecDepth 100000
namespace Go.Proofs.YtmmghpbncejfiaaDoor
open Go Go.RowKit Sk Sd
theorem twice_ (ra oa bs : Dg) (i : Int) (s p : List Dg) (rb ob bt : Dg) (j : Int) (t q : List Dg) (x1 x2 x3 x4 : Value) (w0 : World) (hL : Laid w0) (hx1 : SlT DG 0 0 s x1 w0) (hx2 : SlT DG 0 0 p x2 w0) (hx3 : SlT DG 0 0 t x3 w0) (hx4 : SlT DG 0 0 q x4 w0) (hns : s.length ≤ 100000) (hnp : p.length ≤ 100000) (hnt : t.length ≤ 100000) (hnq : q.length ≤ 100000) :
    Gives Tryd.prog 14 #[Value.agg #[w32 (ra).a, w32 (ra).b, w32 (ra).c, w32 (ra).d, w32 (oa).a, w32 (oa).b, w32 (oa).c, w32 (oa).d], Value.agg #[w32 (bs).a, w32 (bs).b, w32 (bs).c, w32 (bs).d, i64 (i), x1, x2], Value.agg #[w32 (rb).a, w32 (rb).b, w32 (rb).c, w32 (rb).d, w32 (ob).a, w32 (ob).b, w32 (ob).c, w32 (ob).d], Value.agg #[w32 (bt).a, w32 (bt).b, w32 (bt).c, w32 (bt).d, i64 (j), x3, x4]] w0 (Pr.ex (Value.bool (twiceB bs ra oa i s p bt rb ob j t q))) := by
 refine enter (N := 36) Tryd.func14 rfl rfl ?_
 intro a0 N0 D0 hA
 have s0_0 : get a0 0 = Value.agg #[w32 (ra).a, w32 (ra).b, w32 (ra).c, w32 (ra).d, w32 (oa).a, w32 (oa).b, w32 (oa).c, w32 (oa).d] := hA 0 _ rfl
 have s1_0 : get a0 1 = Value.agg #[w32 (bs).a, w32 (bs).b, w32 (bs).c, w32 (bs).d, i64 (i), x1, x2] := hA 1 _ rfl
 have s2_0 : get a0 2 = Value.agg #[w32 (rb).a, w32 (rb).b, w32 (rb).c, w32 (rb).d, w32 (ob).a, w32 (ob).b, w32 (ob).c, w32 (ob).d] := hA 2 _ rfl
 have s3_0 : get a0 3 = Value.agg #[w32 (bt).a, w32 (bt).b, w32 (bt).c, w32 (bt).d, i64 (j), x3, x4] := hA 3 _ rfl
 clear hA
 have E0 : Ext w0 w0 := Ext.refl w0
 have X1_0 := hx1.close
 have X2_0 := hx2.close
 have X3_0 := hx3.close
 have X4_0 := hx4.close
 refine wp_seq ?_
 refine Rl [4, 5, 6, 7] [(4, Pr.box' w0.heap.size 26 [w32 (ra).a, w32 (ra).b, w32 (ra).c, w32 (ra).d, w32 (oa).a, w32 (oa).b, w32 (oa).c, w32 (oa).d]), (5, Pr.box' w0.heap.size 32 [w32 (bs).a, w32 (bs).b, w32 (bs).c, w32 (bs).d, i64 (i), x1, x2]), (6, Pr.box' w0.heap.size 26 [w32 (rb).a, w32 (rb).b, w32 (rb).c, w32 (rb).d, w32 (ob).a, w32 (ob).b, w32 (ob).c, w32 (ob).d]), (7, Pr.box' w0.heap.size 32 [w32 (bt).a, w32 (bt).b, w32 (bt).c, w32 (bt).d, i64 (j), x3, x4]), (8, Pr.ex (Value.bool (false)))] 5 N0 D0 ?_ ?_
 refine Ac ?_ (Ac ?_ (Ac ?_ (Ac ?_ (Ac ?_ (Az _)))))
 refine Ask.fresh rfl rfl ?_
 intro aq wq hNq hO hR hT
 exact does_box (V := Value.agg #[w32 (ra).a, w32 (ra).b, w32 (ra).c, w32 (ra).d, w32 (oa).a, w32 (oa).b, w32 (oa).c, w32 (oa).d]) (oT hO s0_0 rfl) (fun b w2 he hlo hb => ⟨he, ⟨b, rfl, Nat.le_trans hR.size' hlo, hb⟩, ⟨b, rfl, hlo, hb.lt⟩⟩)
 refine Ask.fresh rfl rfl ?_
 intro aq wq hNq hO hR hT
 exact does_box (V := Value.agg #[w32 (bs).a, w32 (bs).b, w32 (bs).c, w32 (bs).d, i64 (i), x1, x2]) (oT hO s1_0 rfl) (fun b w2 he hlo hb => ⟨he, ⟨b, rfl, Nat.le_trans hR.size' hlo, hb⟩, ⟨b, rfl, hlo, hb.lt⟩⟩)
 refine Ask.fresh rfl rfl ?_
 intro aq wq hNq hO hR hT
 exact does_box (V := Value.agg #[w32 (rb).a, w32 (rb).b, w32 (rb).c, w32 (rb).d, w32 (ob).a, w32 (ob).b, w32 (ob).c, w32 (ob).d]) (oT hO s2_0 rfl) (fun b w2 he hlo hb => ⟨he, ⟨b, rfl, Nat.le_trans hR.size' hlo, hb⟩, ⟨b, rfl, hlo, hb.lt⟩⟩)
 refine Ask.fresh rfl rfl ?_
 intro aq wq hNq hO hR hT
 exact does_box (V := Value.agg #[w32 (bt).a, w32 (bt).b, w32 (bt).c, w32 (bt).d, i64 (j), x3, x4]) (oT hO s3_0 rfl) (fun b w2 he hlo hb => ⟨he, ⟨b, rfl, Nat.le_trans hR.size' hlo, hb⟩, ⟨b, rfl, hlo, hb.lt⟩⟩)
 exact Ap fun aq wq _ hO hR hT => does_assign (V := Value.bool (false)) rfl eR
 intro a1 wd1 N1 D1 hO hR hA hU
 obtain ⟨t4, t5, t6, t7, _, _⟩ := hA
 have E1 := E0.trans hR
 have X1_1 := X1_0.ext' hR
 have X2_1 := X2_0.ext' hR
 have X3_1 := X3_0.ext' hR
 have X4_1 := X4_0.ext' hR
 obtain ⟨b4, s4_1, lo_b4, B4_1⟩ := t4
 have nb_x1_b4 := SlT.old X1_0 lo_b4
 have nb_x2_b4 := SlT.old X2_0 lo_b4
 have nb_x3_b4 := SlT.old X3_0 lo_b4
 have nb_x4_b4 := SlT.old X4_0 lo_b4
 have fr_b4 : w0.heap.size ≤ b4 := Nat.le_trans E0.size' lo_b4
 obtain ⟨b5, s5_1, lo_b5, B5_1⟩ := t5
 have nb_x1_b5 := SlT.old X1_0 lo_b5
 have nb_x2_b5 := SlT.old X2_0 lo_b5
 have nb_x3_b5 := SlT.old X3_0 lo_b5
 have nb_x4_b5 := SlT.old X4_0 lo_b5
 have fr_b5 : w0.heap.size ≤ b5 := Nat.le_trans E0.size' lo_b5
 obtain ⟨b6, s6_1, lo_b6, B6_1⟩ := t6
 have nb_x1_b6 := SlT.old X1_0 lo_b6
 have nb_x2_b6 := SlT.old X2_0 lo_b6
 have nb_x3_b6 := SlT.old X3_0 lo_b6
 have nb_x4_b6 := SlT.old X4_0 lo_b6
 have fr_b6 : w0.heap.size ≤ b6 := Nat.le_trans E0.size' lo_b6
 obtain ⟨b7, s7_1, lo_b7, B7_1⟩ := t7
 have nb_x1_b7 := SlT.old X1_0 lo_b7
 have nb_x2_b7 := SlT.old X2_0 lo_b7
 have nb_x3_b7 := SlT.old X3_0 lo_b7
 have nb_x4_b7 := SlT.old X4_0 lo_b7
 have fr_b7 : w0.heap.size ≤ b7 := Nat.le_trans E0.size' lo_b7
 obtain ⟨u0, ⟨u1, ⟨u2, ⟨u3, _⟩⟩⟩⟩ := hU
 have ne_b4_b5 : b4 ≠ b5 := fun e => u0 5 (by decide) (by rw [s4_1, s5_1, e])
 have ne_b4_b6 : b4 ≠ b6 := fun e => u0 6 (by decide) (by rw [s4_1, s6_1, e])
 have ne_b4_b7 : b4 ≠ b7 := fun e => u0 7 (by decide) (by rw [s4_1, s7_1, e])
 have ne_b5_b6 : b5 ≠ b6 := fun e => u1 6 (by decide) (by rw [s5_1, s6_1, e])
 have ne_b5_b7 : b5 ≠ b7 := fun e => u1 7 (by decide) (by rw [s5_1, s7_1, e])
 have ne_b6_b7 : b6 ≠ b7 := fun e => u2 7 (by decide) (by rw [s6_1, s7_1, e])
 clear E0 N0 D0 s0_0 s1_0 s2_0 s3_0 X1_0 X2_0 X3_0 X4_0
 refine tail_nil ?_
 refine wp_seq ?_
 refine wp_seq ?_
 refine Rl [] [(9, Pr.ex (Value.pointer (some ⟨b5, 0, none⟩))), (10, Pr.ex (Dg.val (bs))), (11, Pr.ex (Value.pointer (some ⟨b7, 0, none⟩))), (12, Pr.ex (Dg.val (bt))), (13, Pr.ex (Value.bool (!decide (bs = bt)))), (14, Pr.ex (Value.bool (!decide (bs = bt)))), (15, Pr.ifb (!(!decide (bs = bt))) (Pr.ex (Value.pointer (some ⟨b4, 0, none⟩)))), (16, Pr.ifb (!(!decide (bs = bt))) (Pr.ex (Dg.val (ra)))), (17, Pr.ifb (!(!decide (bs = bt))) (Pr.ex (Value.pointer (some ⟨b6, 0, none⟩)))), (18, Pr.ifb (!(!decide (bs = bt))) (Pr.ex (Dg.val (rb)))), (19, Pr.ifb (!(!decide (bs = bt))) (Pr.ex (Value.bool (!decide (ra = rb))))), (20, Pr.ex (Value.bool ((!decide (bs = bt)) || (!decide (ra = rb))))), (21, Pr.ex (Value.bool ((!decide (bs = bt)) || (!decide (ra = rb))))), (22, Pr.ifb (!((!decide (bs = bt)) || (!decide (ra = rb)))) (Pr.ex (Value.pointer (some ⟨b4, 4, none⟩)))), (23, Pr.ifb (!((!decide (bs = bt)) || (!decide (ra = rb)))) (Pr.ex (Dg.val (oa)))), (24, Pr.ifb (!((!decide (bs = bt)) || (!decide (ra = rb)))) (Pr.ex (Value.pointer (some ⟨b6, 4, none⟩)))), (25, Pr.ifb (!((!decide (bs = bt)) || (!decide (ra = rb)))) (Pr.ex (Dg.val (ob)))), (26, Pr.ifb (!((!decide (bs = bt)) || (!decide (ra = rb)))) (Pr.ex (Value.bool (decide (oa = ob))))), (27, Pr.ex (Value.bool (((!decide (bs = bt)) || (!decide (ra = rb))) || (decide (oa = ob)))))] 19 N1 D1 ?_ ?_
 refine Ac ?_ (Ac ?_ (Ac ?_ (Ac ?_ (Ac ?_ (Ac ?_ (Ac ?_ (Ac ?_ (Ac ?_ (Ac ?_ (Ac ?_ (Ac ?_ (Ac ?_ (Ac ?_ (Ac ?_ (Ac ?_ (Ac ?_ (Ac ?_ (Ac ?_ (Az _)))))))))))))))))))
 exact Ap fun aq wq _ hO hR hT => does_field (o' := 0) fld_32_0 (oT hO s5_1 rfl) rfl eR
 exact Ap fun aq wq _ hO hR hT => does_loadD (o := 0) (n := 4) (mid := [w32 (bs).a, w32 (bs).b, w32 (bs).c, w32 (bs).d]) (hT 9 rfl rfl) (B5_1.ext' hR) rfl rfl (nB rfl) row_24 rfl eR
 exact Ap fun aq wq _ hO hR hT => does_field (o' := 0) fld_32_0 (oT hO s7_1 rfl) rfl eR
 exact Ap fun aq wq _ hO hR hT => does_loadD (o := 0) (n := 4) (mid := [w32 (bt).a, w32 (bt).b, w32 (bt).c, w32 (bt).d]) (hT 11 rfl rfl) (B7_1.ext' hR) rfl rfl (nB rfl) row_24 rfl eR
 exact Ap fun aq wq _ hO hR hT => does_neT (a := bs) (b := bt) eq_24 (hT 10 rfl rfl) (hT 12 rfl rfl) eR
 exact Ap fun aq wq _ hO hR hT => does_move (V := Value.bool (!decide (bs = bt))) (hT 13 rfl rfl) eR
 refine Ask.guarded (B := !decide (bs = bt)) (want := false) (t := 14) rfl rfl rfl rfl (by decide) (fun aq wq hO hR hT => hT 14 rfl rfl) (fun hG aq wq hNq hO hR hT => ?_) (fun hno _ => fun hc => absurd (bn hc) hno)
 replace hG := nb hG
 exact does_field (o' := 0) fld_26_0 (oT hO s4_1 rfl) rfl ⟨Ext.refl _, fun _ => rfl⟩
 refine Ask.guarded (B := !decide (bs = bt)) (want := false) (t := 14) rfl rfl rfl rfl (by decide) (fun aq wq hO hR hT => hT 14 rfl rfl) (fun hG aq wq hNq hO hR hT => ?_) (fun hno _ => fun hc => absurd (bn hc) hno)
 replace hG := nb hG
 exact does_loadD (o := 0) (n := 4) (mid := [w32 (ra).a, w32 (ra).b, w32 (ra).c, w32 (ra).d]) (hT 15 rfl rfl hG) (B4_1.ext' hR) rfl rfl (nB rfl) row_24 rfl ⟨Ext.refl _, fun _ => rfl⟩
 refine Ask.guarded (B := !decide (bs = bt)) (want := false) (t := 14) rfl rfl rfl rfl (by decide) (fun aq wq hO hR hT => hT 14 rfl rfl) (fun hG aq wq hNq hO hR hT => ?_) (fun hno _ => fun hc => absurd (bn hc) hno)
 replace hG := nb hG
 exact does_field (o' := 0) fld_26_0 (oT hO s6_1 rfl) rfl ⟨Ext.refl _, fun _ => rfl⟩
 refine Ask.guarded (B := !decide (bs = bt)) (want := false) (t := 14) rfl rfl rfl rfl (by decide) (fun aq wq hO hR hT => hT 14 rfl rfl) (fun hG aq wq hNq hO hR hT => ?_) (fun hno _ => fun hc => absurd (bn hc) hno)
 replace hG := nb hG
 exact does_loadD (o := 0) (n := 4) (mid := [w32 (rb).a, w32 (rb).b, w32 (rb).c, w32 (rb).d]) (hT 17 rfl rfl hG) (B6_1.ext' hR) rfl rfl (nB rfl) row_24 rfl ⟨Ext.refl _, fun _ => rfl⟩
 refine Ask.guarded (B := !decide (bs = bt)) (want := false) (t := 14) rfl rfl rfl rfl (by decide) (fun aq wq hO hR hT => hT 14 rfl rfl) (fun hG aq wq hNq hO hR hT => ?_) (fun hno _ => fun hc => absurd (bn hc) hno)
 replace hG := nb hG
 exact does_neT (a := ra) (b := rb) eq_24 (hT 16 rfl rfl hG) (hT 18 rfl rfl hG) ⟨Ext.refl _, fun _ => rfl⟩
 exact Ap fun aq wq _ hO hR hT => does_or (B := !decide (bs = bt)) (X := !decide (ra = rb)) (hT 14 rfl rfl) rfl (fun hB => (hT 19 rfl rfl (nb hB))) eR
 exact Ap fun aq wq _ hO hR hT => does_move (V := Value.bool ((!decide (bs = bt)) || (!decide (ra = rb)))) (hT 20 rfl rfl) eR
 refine Ask.guarded (B := (!decide (bs = bt)) || (!decide (ra = rb))) (want := false) (t := 21) rfl rfl rfl rfl (by decide) (fun aq wq hO hR hT => hT 21 rfl rfl) (fun hG aq wq hNq hO hR hT => ?_) (fun hno _ => fun hc => absurd (bn hc) hno)
 replace hG := nb hG
 exact does_field (o' := 4) fld_26_1 (oT hO s4_1 rfl) rfl ⟨Ext.refl _, fun _ => rfl⟩
 refine Ask.guarded (B := (!decide (bs = bt)) || (!decide (ra = rb))) (want := false) (t := 21) rfl rfl rfl rfl (by decide) (fun aq wq hO hR hT => hT 21 rfl rfl) (fun hG aq wq hNq hO hR hT => ?_) (fun hno _ => fun hc => absurd (bn hc) hno)
 replace hG := nb hG
 exact does_loadD (o := 4) (n := 4) (mid := [w32 (oa).a, w32 (oa).b, w32 (oa).c, w32 (oa).d]) (hT 22 rfl rfl hG) (B4_1.ext' hR) rfl rfl (nB rfl) row_24 rfl ⟨Ext.refl _, fun _ => rfl⟩
 refine Ask.guarded (B := (!decide (bs = bt)) || (!decide (ra = rb))) (want := false) (t := 21) rfl rfl rfl rfl (by decide) (fun aq wq hO hR hT => hT 21 rfl rfl) (fun hG aq wq hNq hO hR hT => ?_) (fun hno _ => fun hc => absurd (bn hc) hno)
 replace hG := nb hG
 exact does_field (o' := 4) fld_26_1 (oT hO s6_1 rfl) rfl ⟨Ext.refl _, fun _ => rfl⟩
 refine Ask.guarded (B := (!decide (bs = bt)) || (!decide (ra = rb))) (want := false) (t := 21) rfl rfl rfl rfl (by decide) (fun aq wq hO hR hT => hT 21 rfl rfl) (fun hG aq wq hNq hO hR hT => ?_) (fun hno _ => fun hc => absurd (bn hc) hno)
 replace hG := nb hG
 exact does_loadD (o := 4) (n := 4) (mid := [w32 (ob).a, w32 (ob).b, w32 (ob).c, w32 (ob).d]) (hT 24 rfl rfl hG) (B6_1.ext' hR) rfl rfl (nB rfl) row_24 rfl ⟨Ext.refl _, fun _ => rfl⟩
 refine Ask.guarded (B := (!decide (bs = bt)) || (!decide (ra = rb))) (want := false) (t := 21) rfl rfl rfl rfl (by decide) (fun aq wq hO hR hT => hT 21 rfl rfl) (fun hG aq wq hNq hO hR hT => ?_) (fun hno _ => fun hc => absurd (bn hc) hno)
 replace hG := nb hG
 exact does_eqT (a := oa) (b := ob) eq_24 (hT 23 rfl rfl hG) (hT 25 rfl rfl hG) ⟨Ext.refl _, fun _ => rfl⟩
 exact Ap fun aq wq _ hO hR hT => does_or (B := (!decide (bs = bt)) || (!decide (ra = rb))) (X := decide (oa = ob)) (hT 21 rfl rfl) rfl (fun hB => (hT 26 rfl rfl (nb hB))) eR
 intro a2 wd2 N2 D2 hO hR hA hU
 obtain ⟨_, _, _, _, _, _, _, _, _, _, _, _, _, _, _, _, _, _, t27, _⟩ := hA
 have E2 := E1.trans hR
 have s4_2 := oT hO s4_1 rfl
 have s5_2 := oT hO s5_1 rfl
 have s6_2 := oT hO s6_1 rfl
 have s7_2 := oT hO s7_1 rfl
 have B4_2 := B4_1.ext' hR
 have B5_2 := B5_1.ext' hR
 have B6_2 := B6_1.ext' hR
 have B7_2 := B7_1.ext' hR
 have X1_2 := X1_1.ext' hR
 have X2_2 := X2_1.ext' hR
 have X3_2 := X3_1.ext' hR
 have X4_2 := X4_1.ext' hR
 have s27_2 : get a2 27 = Value.bool (((!decide (bs = bt)) || (!decide (ra = rb))) || (decide (oa = ob))) := t27
 clear E1 N1 D1 s4_1 s5_1 s6_1 s7_1 B4_1 B5_1 B6_1 B7_1 X1_1 X2_1 X3_1 X4_1
 refine tail_nil ?_
 refine wp_if (B := ((!decide (bs = bt)) || (!decide (ra = rb))) || (decide (oa = ob))) s27_2 (fun hc0 => ?_) (fun hc0 => ?_)
 refine wp_seq ?_
 refine Rl [] [(8, Pr.ex (Value.bool (false)))] 1 N2 D2 ?_ ?_
 refine Ac ?_ (Az _)
 exact Ap fun aq wq _ hO hR hT => does_assign (V := Value.bool (false)) rfl eR
 intro a3 wd3 N3 D3 hO hR hA hU
 obtain ⟨t8, _⟩ := hA
 have E3 := E2.trans hR
 have B4_3 := B4_2.ext' hR
 have B5_3 := B5_2.ext' hR
 have B6_3 := B6_2.ext' hR
 have B7_3 := B7_2.ext' hR
 have X1_3 := X1_2.ext' hR
 have X2_3 := X2_2.ext' hR
 have X3_3 := X3_2.ext' hR
 have X4_3 := X4_2.ext' hR
 have s8_3 : get a3 8 = Value.bool (false) := t8
 clear E2 N2 D2 s4_2 s5_2 s6_2 s7_2 s27_2 B4_2 B5_2 B6_2 B7_2 X1_2 X2_2 X3_2 X4_2
 refine tail_nil ?_
 refine wp_ret ?_
 refine res_one (V := Value.bool (false)) rfl D3 s8_3 ?_
 exact ⟨by show Value.bool _ = Value.bool _; rw [twiceB_no hc0], E3⟩
 refine wp_skip ?_
 refine wp_seq ?_
 refine Rl [] [(28, Pr.ex (Value.agg #[w32 (ra).a, w32 (ra).b, w32 (ra).c, w32 (ra).d, w32 (oa).a, w32 (oa).b, w32 (oa).c, w32 (oa).d])), (29, Pr.ex (Value.agg #[w32 (bs).a, w32 (bs).b, w32 (bs).c, w32 (bs).d, i64 (i), x1, x2])), (30, Pr.ex (Value.bool (keyCheck bs (linkOf ra oa) (i) s p))), (31, Pr.ex (Value.bool (keyCheck bs (linkOf ra oa) (i) s p))), (32, Pr.ifb (keyCheck bs (linkOf ra oa) (i) s p) (Pr.ex (Value.agg #[w32 (rb).a, w32 (rb).b, w32 (rb).c, w32 (rb).d, w32 (ob).a, w32 (ob).b, w32 (ob).c, w32 (ob).d]))), (33, Pr.ifb (keyCheck bs (linkOf ra oa) (i) s p) (Pr.ex (Value.agg #[w32 (bt).a, w32 (bt).b, w32 (bt).c, w32 (bt).d, i64 (j), x3, x4]))), (34, Pr.ifb (keyCheck bs (linkOf ra oa) (i) s p) (Pr.ex (Value.bool (keyCheck bt (linkOf rb ob) (j) t q)))), (35, Pr.ex (Value.bool ((keyCheck bs (linkOf ra oa) (i) s p) && (keyCheck bt (linkOf rb ob) (j) t q)))), (8, Pr.ex (Value.bool ((keyCheck bs (linkOf ra oa) (i) s p) && (keyCheck bt (linkOf rb ob) (j) t q))))] 9 N2 D2 ?_ ?_
 refine Ac ?_ (Ac ?_ (Ac ?_ (Ac ?_ (Ac ?_ (Ac ?_ (Ac ?_ (Ac ?_ (Ac ?_ (Az _)))))))))
 exact Ap fun aq wq _ hO hR hT => does_loadD (o := 0) (n := 8) (mid := [w32 (ra).a, w32 (ra).b, w32 (ra).c, w32 (ra).d, w32 (oa).a, w32 (oa).b, w32 (oa).c, w32 (oa).d]) (oT hO s4_2 rfl) (B4_2.ext' hR) rfl rfl (nB rfl) row_26 rfl eR
 exact Ap fun aq wq _ hO hR hT => does_loadD (o := 0) (n := 7) (mid := [w32 (bs).a, w32 (bs).b, w32 (bs).c, w32 (bs).d, i64 (i), x1, x2]) (oT hO s5_2 rfl) (B5_2.ext' hR) rfl rfl (nB rfl) row_32 rfl eR
 exact Ap fun aq wq _ hO hR hT => does_ret (vs := #[Value.agg #[w32 (ra).a, w32 (ra).b, w32 (ra).c, w32 (ra).d, w32 (oa).a, w32 (oa).b, w32 (oa).c, w32 (oa).d], Value.agg #[w32 (bs).a, w32 (bs).b, w32 (bs).c, w32 (bs).d, i64 (i), x1, x2]]) call_12 (args2 (hT 28 rfl rfl) (hT 29 rfl rfl)) rfl ((linkCheck_ ra oa bs (i) s p (x1) (x2) wq (hL.ext (E2.trans hR)) ((X1_2.ext' hR).wide (Nat.zero_le _) (.inl rfl)) ((X2_2.ext' hR).wide (Nat.zero_le _) (.inl rfl)) hns hnp).mono fun v w2 h => ⟨h.2, h.1⟩)
 exact Ap fun aq wq _ hO hR hT => does_move (V := Value.bool (keyCheck bs (linkOf ra oa) (i) s p)) (hT 30 rfl rfl) eR
 refine Ask.guarded (B := keyCheck bs (linkOf ra oa) (i) s p) (want := true) (t := 31) rfl rfl rfl rfl (by decide) (fun aq wq hO hR hT => hT 31 rfl rfl) (fun hG aq wq hNq hO hR hT => ?_) (fun hno _ => fun hc => absurd hc hno)
 exact does_loadD (o := 0) (n := 8) (mid := [w32 (rb).a, w32 (rb).b, w32 (rb).c, w32 (rb).d, w32 (ob).a, w32 (ob).b, w32 (ob).c, w32 (ob).d]) (oT hO s6_2 rfl) (B6_2.ext' hR) rfl rfl (nB rfl) row_26 rfl ⟨Ext.refl _, fun _ => rfl⟩
 refine Ask.guarded (B := keyCheck bs (linkOf ra oa) (i) s p) (want := true) (t := 31) rfl rfl rfl rfl (by decide) (fun aq wq hO hR hT => hT 31 rfl rfl) (fun hG aq wq hNq hO hR hT => ?_) (fun hno _ => fun hc => absurd hc hno)
 exact does_loadD (o := 0) (n := 7) (mid := [w32 (bt).a, w32 (bt).b, w32 (bt).c, w32 (bt).d, i64 (j), x3, x4]) (oT hO s7_2 rfl) (B7_2.ext' hR) rfl rfl (nB rfl) row_32 rfl ⟨Ext.refl _, fun _ => rfl⟩
 refine Ask.guarded (B := keyCheck bs (linkOf ra oa) (i) s p) (want := true) (t := 31) rfl rfl rfl rfl (by decide) (fun aq wq hO hR hT => hT 31 rfl rfl) (fun hG aq wq hNq hO hR hT => ?_) (fun hno _ => fun hc => absurd hc hno)
 exact does_ret (vs := #[Value.agg #[w32 (rb).a, w32 (rb).b, w32 (rb).c, w32 (rb).d, w32 (ob).a, w32 (ob).b, w32 (ob).c, w32 (ob).d], Value.agg #[w32 (bt).a, w32 (bt).b, w32 (bt).c, w32 (bt).d, i64 (j), x3, x4]]) call_12 (args2 (hT 32 rfl rfl hG) (hT 33 rfl rfl hG)) rfl ((linkCheck_ rb ob bt (j) t q (x3) (x4) wq (hL.ext (E2.trans hR)) ((X3_2.ext' hR).wide (Nat.zero_le _) (.inl rfl)) ((X4_2.ext' hR).wide (Nat.zero_le _) (.inl rfl)) hnt hnq).mono fun v w2 h => ⟨h.2, fun _ => h.1⟩)
 exact Ap fun aq wq _ hO hR hT => does_and (B := keyCheck bs (linkOf ra oa) (i) s p) (X := keyCheck bt (linkOf rb ob) (j) t q) (hT 31 rfl rfl) (fun hB => (hT 34 rfl rfl hB)) rfl eR
 exact Ap fun aq wq _ hO hR hT => does_assign (V := Value.bool ((keyCheck bs (linkOf ra oa) (i) s p) && (keyCheck bt (linkOf rb ob) (j) t q))) (hT 35 rfl rfl) eR
 intro a4 wd4 N4 D4 hO hR hA hU
 obtain ⟨_, _, _, _, _, _, _, _, t8, _⟩ := hA
 have E4 := E2.trans hR
 have B4_4 := B4_2.ext' hR
 have B5_4 := B5_2.ext' hR
 have B6_4 := B6_2.ext' hR
 have B7_4 := B7_2.ext' hR
 have X1_4 := X1_2.ext' hR
 have X2_4 := X2_2.ext' hR
 have X3_4 := X3_2.ext' hR
 have X4_4 := X4_2.ext' hR
 have s8_4 : get a4 8 = Value.bool ((keyCheck bs (linkOf ra oa) (i) s p) && (keyCheck bt (linkOf rb ob) (j) t q)) := t8
 clear E2 N2 D2 s4_2 s5_2 s6_2 s7_2 s27_2 B4_2 B5_2 B6_2 B7_2 X1_2 X2_2 X3_2 X4_2
 refine tail_nil ?_
 refine wp_ret ?_
 refine res_one (V := Value.bool ((keyCheck bs (linkOf ra oa) (i) s p) && (keyCheck bt (linkOf rb ob) (j) t q))) rfl D4 s8_4 ?_
 exact ⟨by show Value.bool _ = Value.bool _; rw [twiceB_yes hc0], E4⟩

end Go.Proofs.YtmmghpbncejfiaaDoor
