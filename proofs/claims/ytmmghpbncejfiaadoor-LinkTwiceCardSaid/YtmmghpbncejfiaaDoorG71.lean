/- The walks of functions of the program: printed. -/
import Derived.Test.YtmmghpbncejfiaaDoorKB
import Derived.Test.YtmmghpbncejfiaaDoorG51
import Derived.Test.YtmmghpbncejfiaaDoorG65
import Derived.Test.YtmmghpbncejfiaaDoorF0
set_option maxRecDepth 100000
namespace Go.Proofs.YtmmghpbncejfiaaDoor
open Go Go.RowKit Sk Sd
theorem keyCheckR (pub msg : Dg) (i : Int) (one path : List Dg) (x1 x2 : Value) (w0 : World) (hx1 : SlT DG 0 0 one x1 w0) (hx2 : SlT DG 0 0 path x2 w0) (hn : one.length ≤ 100000) (hpn : path.length ≤ 100000) :
    Gives Tryd.prog 27 #[Dg.val (pub), Dg.val (msg), Value.agg #[i64 (i), x1, x2]] w0 (Pr.ex (Value.bool (keyCheck pub msg i one path))) := by
 refine enter (N := 42) Tryd.func27 rfl rfl ?_
 intro a0 N0 D0 hA
 have s0_0 : get a0 0 = Dg.val (pub) := hA 0 _ rfl
 have s1_0 : get a0 1 = Dg.val (msg) := hA 1 _ rfl
 have s2_0 : get a0 2 = Value.agg #[i64 (i), x1, x2] := hA 2 _ rfl
 clear hA
 have E0 : Ext w0 w0 := Ext.refl w0
 have X1_0 := hx1.close
 have X2_0 := hx2.close
 refine wp_seq ?_
 refine Rl [3, 4, 5] [(3, Pr.box' w0.heap.size 24 [w32 (pub).a, w32 (pub).b, w32 (pub).c, w32 (pub).d]), (4, Pr.box' w0.heap.size 24 [w32 (msg).a, w32 (msg).b, w32 (msg).c, w32 (msg).d]), (5, Pr.box' w0.heap.size 30 [i64 (i), x1, x2]), (6, Pr.ex (Value.bool (false)))] 4 N0 D0 ?_ ?_
 refine Ac ?_ (Ac ?_ (Ac ?_ (Ac ?_ (Az _))))
 refine Ask.fresh rfl rfl ?_
 intro aq wq hNq hO hR hT
 exact does_box (V := Dg.val (pub)) (oT hO s0_0 rfl) (fun b w2 he hlo hb => ⟨he, ⟨b, rfl, Nat.le_trans hR.size' hlo, hb⟩, ⟨b, rfl, hlo, hb.lt⟩⟩)
 refine Ask.fresh rfl rfl ?_
 intro aq wq hNq hO hR hT
 exact does_box (V := Dg.val (msg)) (oT hO s1_0 rfl) (fun b w2 he hlo hb => ⟨he, ⟨b, rfl, Nat.le_trans hR.size' hlo, hb⟩, ⟨b, rfl, hlo, hb.lt⟩⟩)
 refine Ask.fresh rfl rfl ?_
 intro aq wq hNq hO hR hT
 exact does_box (V := Value.agg #[i64 (i), x1, x2]) (oT hO s2_0 rfl) (fun b w2 he hlo hb => ⟨he, ⟨b, rfl, Nat.le_trans hR.size' hlo, hb⟩, ⟨b, rfl, hlo, hb.lt⟩⟩)
 exact Ap fun aq wq _ hO hR hT => does_assign (V := Value.bool (false)) rfl eR
 intro a1 wd1 N1 D1 hO hR hA hU
 obtain ⟨t3, t4, t5, _, _⟩ := hA
 have E1 := E0.trans hR
 have X1_1 := X1_0.ext' hR
 have X2_1 := X2_0.ext' hR
 obtain ⟨b3, s3_1, lo_b3, B3_1⟩ := t3
 have nb_x1_b3 := SlT.old X1_0 lo_b3
 have nb_x2_b3 := SlT.old X2_0 lo_b3
 have fr_b3 : w0.heap.size ≤ b3 := Nat.le_trans E0.size' lo_b3
 obtain ⟨b4, s4_1, lo_b4, B4_1⟩ := t4
 have nb_x1_b4 := SlT.old X1_0 lo_b4
 have nb_x2_b4 := SlT.old X2_0 lo_b4
 have fr_b4 : w0.heap.size ≤ b4 := Nat.le_trans E0.size' lo_b4
 obtain ⟨b5, s5_1, lo_b5, B5_1⟩ := t5
 have nb_x1_b5 := SlT.old X1_0 lo_b5
 have nb_x2_b5 := SlT.old X2_0 lo_b5
 have fr_b5 : w0.heap.size ≤ b5 := Nat.le_trans E0.size' lo_b5
 obtain ⟨u0, ⟨u1, ⟨u2, _⟩⟩⟩ := hU
 have ne_b3_b4 : b3 ≠ b4 := fun e => u0 4 (by decide) (by rw [s3_1, s4_1, e])
 have ne_b3_b5 : b3 ≠ b5 := fun e => u0 5 (by decide) (by rw [s3_1, s5_1, e])
 have ne_b4_b5 : b4 ≠ b5 := fun e => u1 5 (by decide) (by rw [s4_1, s5_1, e])
 clear E0 N0 D0 s0_0 s1_0 s2_0 X1_0 X2_0
 refine tail_nil ?_
 refine wp_seq ?_
 refine wp_seq ?_
 refine Rl [] [(11, Pr.ex (Value.pointer (some ⟨b5, 2, none⟩))), (12, Pr.ex (x2)), (13, Pr.ex (i64 (path.length : Int))), (14, Pr.ex (Value.bool (decide (((4 : Nat) : Int) < (path.length : Int)))))] 4 N1 D1 ?_ ?_
 refine Ac ?_ (Ac ?_ (Ac ?_ (Ac ?_ (Az _))))
 exact Ap fun aq wq _ hO hR hT => does_field (o' := 2) fld_30_2 (oT hO s5_1 rfl) rfl eR
 exact Ap fun aq wq _ hO hR hT => does_loadD1 (o := 2) (V := x2) (hT 11 rfl rfl) (B5_1.ext' hR) rfl one_27 eR
 exact Ap fun aq wq _ hO hR hT => does_len (T := DG) (xs := path) sli_27 (SlT.at (hT 12 rfl rfl) (X2_1.ext' hR)) eR
 exact Ap fun aq wq _ hO hR hT => does_gtr (a := (path.length : Int)) (b := ((4 : Nat) : Int)) (hT 13 rfl rfl) rfl eR
 intro a2 wd2 N2 D2 hO hR hA hU
 obtain ⟨_, _, _, t14, _⟩ := hA
 have E2 := E1.trans hR
 have s3_2 := oT hO s3_1 rfl
 have s4_2 := oT hO s4_1 rfl
 have s5_2 := oT hO s5_1 rfl
 have B3_2 := B3_1.ext' hR
 have B4_2 := B4_1.ext' hR
 have B5_2 := B5_1.ext' hR
 have X1_2 := X1_1.ext' hR
 have X2_2 := X2_1.ext' hR
 have s14_2 : get a2 14 = Value.bool (decide (((4 : Nat) : Int) < (path.length : Int))) := t14
 clear E1 N1 D1 s3_1 s4_1 s5_1 B3_1 B4_1 B5_1 X1_1 X2_1
 refine tail_nil ?_
 refine wp_if (B := decide (((4 : Nat) : Int) < (path.length : Int))) s14_2 (fun hc0 => ?_) (fun hc0 => ?_)
 have hc0 := of_decide_eq_true hc0
 refine wp_seq ?_
 refine Rl [] [(6, Pr.ex (Value.bool (false)))] 1 N2 D2 ?_ ?_
 refine Ac ?_ (Az _)
 exact Ap fun aq wq _ hO hR hT => does_assign (V := Value.bool (false)) rfl eR
 intro a3 wd3 N3 D3 hO hR hA hU
 obtain ⟨t6, _⟩ := hA
 have E3 := E2.trans hR
 have B3_3 := B3_2.ext' hR
 have B4_3 := B4_2.ext' hR
 have B5_3 := B5_2.ext' hR
 have X1_3 := X1_2.ext' hR
 have X2_3 := X2_2.ext' hR
 have s6_3 : get a3 6 = Value.bool (false) := t6
 clear E2 N2 D2 s3_2 s4_2 s5_2 s14_2 B3_2 B4_2 B5_2 X1_2 X2_2
 refine tail_nil ?_
 refine wp_ret ?_
 refine res_one (V := Value.bool (false)) rfl D3 s6_3 ?_
 exact ⟨by show Value.bool _ = Value.bool _; rw [keyCheck_no (by omega)], E3⟩
 have hc0 := of_decide_eq_false hc0
 have hp4 : path.length ≤ 4 := by omega
 refine wp_skip ?_
 refine wp_seq ?_
 refine Rl [7] [(16, Pr.ex (Dg.val (msg))), (17, Pr.ex (Value.pointer (some ⟨b5, 1, none⟩))), (18, Pr.ex (x1)), (19, Pr.ex (Value.tuple #[Dg.val ((reachO msg one).1), Value.bool ((reachO msg one).2)])), (15, Pr.ex (Value.tuple #[Dg.val ((reachO msg one).1), Value.bool ((reachO msg one).2)])), (20, Pr.ex (Dg.val ((reachO msg one).1))), (21, Pr.ex (Value.bool ((reachO msg one).2))), (7, Pr.box' wd2.heap.size 24 [w32 (Dg.zero).a, w32 (Dg.zero).b, w32 (Dg.zero).c, w32 (Dg.zero).d])] 8 N2 D2 ?_ ?_
 refine Ac ?_ (Ac ?_ (Ac ?_ (Ac ?_ (Ac ?_ (Ac ?_ (Ac ?_ (Ac ?_ (Az _))))))))
 exact Ap fun aq wq _ hO hR hT => does_loadD (o := 0) (n := 4) (mid := [w32 (msg).a, w32 (msg).b, w32 (msg).c, w32 (msg).d]) (oT hO s4_2 rfl) (B4_2.ext' hR) rfl rfl (nB rfl) row_24 rfl eR
 exact Ap fun aq wq _ hO hR hT => does_field (o' := 1) fld_30_1 (oT hO s5_2 rfl) rfl eR
 exact Ap fun aq wq _ hO hR hT => does_loadD1 (o := 1) (V := x1) (hT 17 rfl rfl) (B5_2.ext' hR) rfl one_28 eR
 exact Ap fun aq wq _ hO hR hT => does_ret (vs := #[Dg.val (msg), x1]) call_43 (args2 (hT 16 rfl rfl) (hT 18 rfl rfl)) rfl ((reachR msg one (x1) wq ((X1_2.ext' hR).wide (Nat.zero_le _) (.inl rfl)) hn).mono fun v w2 h => ⟨h.2, h.1⟩)
 exact Ap fun aq wq _ hO hR hT => does_move (V := Value.tuple #[Dg.val ((reachO msg one).1), Value.bool ((reachO msg one).2)]) (hT 19 rfl rfl) eR
 exact Ap fun aq wq _ hO hR hT => does_extract (V := Dg.val ((reachO msg one).1)) (hT 15 rfl rfl) rfl eR
 exact Ap fun aq wq _ hO hR hT => does_extract (V := Value.bool ((reachO msg one).2)) (hT 15 rfl rfl) rfl eR
 refine Ask.fresh rfl rfl ?_
 intro aq wq hNq hO hR hT
 exact does_alloc zero_24 (fun b w2 he hlo hb => ⟨he, ⟨b, rfl, Nat.le_trans hR.size' hlo, hb⟩, ⟨b, rfl, hlo, hb.lt⟩⟩)
 intro a4 wd4 N4 D4 hO hR hA hU
 obtain ⟨_, _, _, _, _, t20, t21, t7, _⟩ := hA
 have E4 := E2.trans hR
 have s3_4 := oT hO s3_2 rfl
 have s5_4 := oT hO s5_2 rfl
 have B3_4 := B3_2.ext' hR
 have B4_4 := B4_2.ext' hR
 have B5_4 := B5_2.ext' hR
 have X1_4 := X1_2.ext' hR
 have X2_4 := X2_2.ext' hR
 have s20_4 : get a4 20 = Dg.val ((reachO msg one).1) := t20
 have s21_4 : get a4 21 = Value.bool ((reachO msg one).2) := t21
 obtain ⟨b7, s7_4, lo_b7, B7_4⟩ := t7
 have ne_b3_b7 := Hl B3_2 lo_b7
 have ne_b4_b7 := Hl B4_2 lo_b7
 have ne_b5_b7 := Hl B5_2 lo_b7
 have nb_x1_b7 := SlT.old X1_2 lo_b7
 have nb_x2_b7 := SlT.old X2_2 lo_b7
 have fr_b7 : w0.heap.size ≤ b7 := Nat.le_trans E2.size' lo_b7
 clear E2 N2 D2 s3_2 s4_2 s5_2 s14_2 B3_2 B4_2 B5_2 X1_2 X2_2
 refine tail_none rfl rfl (does_storeD (o := 0) (n := 4) (cs' := [w32 ((reachO msg one).1).a, w32 ((reachO msg one).1).b, w32 ((reachO msg one).1).c, w32 ((reachO msg one).1).d]) (V := Dg.val ((reachO msg one).1)) s7_4 s20_4 B7_4 (nB rfl) rfl siz_24 rfl rfl (fun wd5 hX hz B7_5 => ?_))
 have E5 := E4.since hX (fun k e => e ▸ fr_b7)
 have B3_5 := B3_4.ext hX ne_b3_b7
 have B4_5 := B4_4.ext hX ne_b4_b7
 have B5_5 := B5_4.ext hX ne_b5_b7
 have X1_5 := SlT.over X1_4 hX nb_x1_b7
 have X2_5 := SlT.over X2_4 hX nb_x2_b7
 clear hX hz E4 B3_4 B4_4 B5_4 B7_4 X1_4 X2_4
 refine tail_put rfl rfl N4 D4 (by decide) (does_assign (V := Value.bool ((reachO msg one).2)) s21_4 (fun a6 N6 D6 hv hO => ?_))
 have s8_6 := hv
 have s3_6 := oT hO s3_4 rfl
 have s5_6 := oT hO s5_4 rfl
 have s7_6 := oT hO s7_4 rfl
 clear hO hv N4 D4 s3_4 s5_4 s7_4 s20_4 s21_4
 refine tail_nil ?_
 refine wp_seq ?_
 refine Rl [] [(9, Pr.ex (i64 ((1 : Nat) : Int)))] 1 N6 D6 ?_ ?_
 refine Ac ?_ (Az _)
 exact Ap fun aq wq _ hO hR hT => does_assign (V := i64 ((1 : Nat) : Int)) rfl eR
 intro a7 wd7 N7 D7 hO hR hA hU
 obtain ⟨t9, _⟩ := hA
 have E7 := E5.trans hR
 have s3_7 := oT hO s3_6 rfl
 have s5_7 := oT hO s5_6 rfl
 have s7_7 := oT hO s7_6 rfl
 have s8_7 := oT hO s8_6 rfl
 have B3_7 := B3_5.ext' hR
 have B4_7 := B4_5.ext' hR
 have B5_7 := B5_5.ext' hR
 have B7_7 := B7_5.ext' hR
 have X1_7 := X1_5.ext' hR
 have X2_7 := X2_5.ext' hR
 have s9_7 : get a7 9 = i64 ((1 : Nat) : Int) := t9
 clear E5 N6 D6 s3_6 s5_6 s7_6 s8_6 B3_5 B4_5 B5_5 B7_5 X1_5 X2_5
 refine tail_nil ?_
 refine wp_seq ?_
 refine wp_seq ?_
 refine Rl [] [(10, Pr.ex (i64 ((0 : Nat) : Int)))] 1 N7 D7 ?_ ?_
 refine Ac ?_ (Az _)
 exact Ap fun aq wq _ hO hR hT => does_assign (V := i64 ((0 : Nat) : Int)) rfl eR
 intro a8 wd8 N8 D8 hO hR hA hU
 obtain ⟨t10, _⟩ := hA
 have E8 := E7.trans hR
 have s3_8 := oT hO s3_7 rfl
 have s5_8 := oT hO s5_7 rfl
 have s7_8 := oT hO s7_7 rfl
 have s8_8 := oT hO s8_7 rfl
 have s9_8 := oT hO s9_7 rfl
 have B3_8 := B3_7.ext' hR
 have B4_8 := B4_7.ext' hR
 have B5_8 := B5_7.ext' hR
 have B7_8 := B7_7.ext' hR
 have X1_8 := X1_7.ext' hR
 have X2_8 := X2_7.ext' hR
 have s10_8 : get a8 10 = i64 ((0 : Nat) : Int) := t10
 clear E7 N7 D7 s3_7 s5_7 s7_7 s8_7 s9_7 B3_7 B4_7 B5_7 B7_7 X1_7 X2_7
 refine tail_nil ?_
 refine wp_block ?_
 refine loop_g (fun mz az wz => ∃ k : Nat, mz = path.length - k ∧ (az.tmps.size = 42) ∧ (az.defers = []) ∧ (get az 3 = Value.pointer (some ⟨b3, 0, none⟩)) ∧ (get az 5 = Value.pointer (some ⟨b5, 0, none⟩)) ∧ (get az 7 = Value.pointer (some ⟨b7, 0, none⟩)) ∧ (get az 8 = Value.bool ((reachO msg one).2)) ∧ (get az 9 = i64 ((pw k : Nat) : Int)) ∧ (get az 10 = i64 (k : Int)) ∧ (Ext w0 wz) ∧ (Has wz b3 24 [w32 (pub).a, w32 (pub).b, w32 (pub).c, w32 (pub).d]) ∧ (Has wz b4 24 [w32 (msg).a, w32 (msg).b, w32 (msg).c, w32 (msg).d]) ∧ (Has wz b5 30 [i64 (i), x1, x2]) ∧ (Has wz b7 24 [w32 ((reachO msg one).1).a, w32 ((reachO msg one).1).b, w32 ((reachO msg one).1).c, w32 ((reachO msg one).1).d]) ∧ (SlT DG 0 (w0.heap.size + 1) (one) x1 wz) ∧ (SlT DG 0 (w0.heap.size + 1) (path) x2 wz) ∧ (k ≤ path.length)) ?_ ?_
 exact ⟨_, 0, rfl, N8, D8, s3_8, s5_8, s7_8, s8_8, s9_8, s10_8, E8, B3_8, B4_8, B5_8, B7_8, X1_8, X2_8, Nat.zero_le _⟩
 rintro mz a9 wd9 ⟨k, rfl, N9, D9, s3_9, s5_9, s7_9, s8_9, s9_9, s10_9, E9, B3_9, B4_9, B5_9, B7_9, X1_9, X2_9, hk⟩
 refine wp_seq ?_
 refine wp_seq ?_
 refine Rl [] [(22, Pr.ex (i64 (k : Int))), (23, Pr.ex (Value.pointer (some ⟨b5, 2, none⟩))), (24, Pr.ex (x2)), (25, Pr.ex (i64 (path.length : Int))), (26, Pr.ex (Value.bool (decide ((k : Int) < (path.length : Int)))))] 5 N9 D9 ?_ ?_
 refine Ac ?_ (Ac ?_ (Ac ?_ (Ac ?_ (Ac ?_ (Az _)))))
 exact Am s10_9 rfl fun _ => rfl
 exact Ap fun aq wq _ hO hR hT => does_field (o' := 2) fld_30_2 (oT hO s5_9 rfl) rfl eR
 exact Ap fun aq wq _ hO hR hT => does_loadD1 (o := 2) (V := x2) (hT 23 rfl rfl) (B5_9.ext' hR) rfl one_27 eR
 exact Ap fun aq wq _ hO hR hT => does_len (T := DG) (xs := path) sli_27 (SlT.at (hT 24 rfl rfl) (X2_9.ext' hR)) eR
 exact Ap fun aq wq _ hO hR hT => does_lss (a := (k : Int)) (b := (path.length : Int)) (hT 22 rfl rfl) (hT 25 rfl rfl) eR
 intro a10 wd10 N10 D10 hO hR hA hU
 obtain ⟨_, _, _, _, t26, _⟩ := hA
 have E10 := E9.trans hR
 have s3_10 := oT hO s3_9 rfl
 have s5_10 := oT hO s5_9 rfl
 have s7_10 := oT hO s7_9 rfl
 have s8_10 := oT hO s8_9 rfl
 have s9_10 := oT hO s9_9 rfl
 have s10_10 := oT hO s10_9 rfl
 have B3_10 := B3_9.ext' hR
 have B4_10 := B4_9.ext' hR
 have B5_10 := B5_9.ext' hR
 have B7_10 := B7_9.ext' hR
 have X1_10 := X1_9.ext' hR
 have X2_10 := X2_9.ext' hR
 have s26_10 : get a10 26 = Value.bool (decide ((k : Int) < (path.length : Int))) := t26
 clear E9 N9 D9 s3_9 s5_9 s7_9 s8_9 s9_9 s10_9 B3_9 B4_9 B5_9 B7_9 X1_9 X2_9
 refine tail_nil ?_
 refine wp_if (B := decide ((k : Int) < (path.length : Int))) s26_10 (fun hc1 => ?_) (fun hc1 => ?_)
 have hc1 := of_decide_eq_true hc1
 have hpk := pw_small (k := k) (by omega)
 refine wp_skip ?_
 refine wp_seq ?_
 refine wp_block ?_
 refine Rl [] [(29, Pr.ex (i64 ((pw k : Nat) : Int))), (30, Pr.ex (i64 (((pw k) * 2 : Nat) : Int)))] 2 N10 D10 ?_ ?_
 refine Ac ?_ (Ac ?_ (Az _))
 exact Am s9_10 rfl fun _ => rfl
 exact Ap fun aq wq _ hO hR hT => does_mul (a := ((pw k : Nat) : Int)) (b := ((2 : Nat) : Int)) (r := (((pw k) * 2 : Nat) : Int)) (hT 29 rfl rfl) rfl (by simp) (by omega) (by omega) eR
 intro a11 wd11 N11 D11 hO hR hA hU
 obtain ⟨_, t30, _⟩ := hA
 have E11 := E10.trans hR
 have s3_11 := oT hO s3_10 rfl
 have s5_11 := oT hO s5_10 rfl
 have s7_11 := oT hO s7_10 rfl
 have s8_11 := oT hO s8_10 rfl
 have s9_11 := oT hO s9_10 rfl
 have s10_11 := oT hO s10_10 rfl
 have B3_11 := B3_10.ext' hR
 have B4_11 := B4_10.ext' hR
 have B5_11 := B5_10.ext' hR
 have B7_11 := B7_10.ext' hR
 have X1_11 := X1_10.ext' hR
 have X2_11 := X2_10.ext' hR
 have s30_11 : get a11 30 = i64 (((pw k) * 2 : Nat) : Int) := t30
 clear E10 N10 D10 s3_10 s5_10 s7_10 s8_10 s9_10 s10_10 s26_10 B3_10 B4_10 B5_10 B7_10 X1_10 X2_10
 refine tail_put rfl rfl N11 D11 (by decide) (does_assign (V := i64 (((pw k) * 2 : Nat) : Int)) s30_11 (fun a12 N12 D12 hv hO => ?_))
 have s9_12 := hv
 have s3_12 := oT hO s3_11 rfl
 have s5_12 := oT hO s5_11 rfl
 have s7_12 := oT hO s7_11 rfl
 have s8_12 := oT hO s8_11 rfl
 have s10_12 := oT hO s10_11 rfl
 clear hO hv N11 D11 s3_11 s5_11 s7_11 s8_11 s10_11 s30_11 s9_11
 refine tail_nil ?_
 refine Rl [] [(27, Pr.ex (i64 (k : Int))), (28, Pr.ex (i64 ((k + 1 : Nat) : Int)))] 2 N12 D12 ?_ ?_
 refine Ac ?_ (Ac ?_ (Az _))
 exact Am s10_12 rfl fun _ => rfl
 exact Ap fun aq wq _ hO hR hT => does_add (a := (k : Int)) (b := ((1 : Nat) : Int)) (r := ((k + 1 : Nat) : Int)) (hT 27 rfl rfl) rfl (by omega) (by omega) (by omega) eR
 intro a13 wd13 N13 D13 hO hR hA hU
 obtain ⟨_, t28, _⟩ := hA
 have E13 := E11.trans hR
 have s3_13 := oT hO s3_12 rfl
 have s5_13 := oT hO s5_12 rfl
 have s7_13 := oT hO s7_12 rfl
 have s8_13 := oT hO s8_12 rfl
 have s9_13 := oT hO s9_12 rfl
 have s10_13 := oT hO s10_12 rfl
 have B3_13 := B3_11.ext' hR
 have B4_13 := B4_11.ext' hR
 have B5_13 := B5_11.ext' hR
 have B7_13 := B7_11.ext' hR
 have X1_13 := X1_11.ext' hR
 have X2_13 := X2_11.ext' hR
 have s28_13 : get a13 28 = i64 ((k + 1 : Nat) : Int) := t28
 clear E11 N12 D12 s3_12 s5_12 s7_12 s8_12 s9_12 s10_12 B3_11 B4_11 B5_11 B7_11 X1_11 X2_11
 refine tail_put rfl rfl N13 D13 (by decide) (does_assign (V := i64 ((k + 1 : Nat) : Int)) s28_13 (fun a14 N14 D14 hv hO => ?_))
 have s10_14 := hv
 have s3_14 := oT hO s3_13 rfl
 have s5_14 := oT hO s5_13 rfl
 have s7_14 := oT hO s7_13 rfl
 have s8_14 := oT hO s8_13 rfl
 have s9_14 := oT hO s9_13 rfl
 clear hO hv N13 D13 s3_13 s5_13 s7_13 s8_13 s9_13 s28_13 s10_13
 refine tail_nil ?_
 exact ⟨_, by omega, k + 1, rfl, N14, D14, s3_14, s5_14, s7_14, s8_14, (by rw [pw_succ]; exact s9_14), s10_14, E13, B3_13, B4_13, B5_13, B7_13, X1_13, X2_13, by omega⟩
 have hc1 := of_decide_eq_false hc1
 have hkp : k = path.length := by omega
 refine wp_exit ?_
 refine wp_seq ?_
 refine Rl [] [(31, Pr.ex (Value.bool ((reachO msg one).2))), (32, Pr.ex (Value.bool ((reachO msg one).2))), (33, Pr.ifb ((reachO msg one).2) (Pr.ex (Dg.val (pub)))), (34, Pr.ifb ((reachO msg one).2) (Pr.ex (i64 ((pw k : Nat) : Int)))), (35, Pr.ifb ((reachO msg one).2) (Pr.ex (Value.pointer (some ⟨b5, 0, none⟩)))), (36, Pr.ifb ((reachO msg one).2) (Pr.ex (i64 (i)))), (37, Pr.ifb ((reachO msg one).2) (Pr.ex (Dg.val ((reachO msg one).1)))), (38, Pr.ifb ((reachO msg one).2) (Pr.ex (Value.pointer (some ⟨b5, 2, none⟩)))), (39, Pr.ifb ((reachO msg one).2) (Pr.ex (x2))), (40, Pr.ifb ((reachO msg one).2) (Pr.ex (Value.bool (checks pub (((pw k : Nat) : Int)) (i) ((reachO msg one).1) path)))), (41, Pr.ex (Value.bool (((reachO msg one).2) && (checks pub (((pw k : Nat) : Int)) (i) ((reachO msg one).1) path)))), (6, Pr.ex (Value.bool (((reachO msg one).2) && (checks pub (((pw k : Nat) : Int)) (i) ((reachO msg one).1) path))))] 12 N10 D10 ?_ ?_
 refine Ac ?_ (Ac ?_ (Ac ?_ (Ac ?_ (Ac ?_ (Ac ?_ (Ac ?_ (Ac ?_ (Ac ?_ (Ac ?_ (Ac ?_ (Ac ?_ (Az _))))))))))))
 exact Am s8_10 rfl fun _ => rfl
 exact Ap fun aq wq _ hO hR hT => does_move (V := Value.bool ((reachO msg one).2)) (hT 31 rfl rfl) eR
 refine Ask.guarded (B := (reachO msg one).2) (want := true) (t := 32) rfl rfl rfl rfl (by decide) (fun aq wq hO hR hT => hT 32 rfl rfl) (fun hG aq wq hNq hO hR hT => ?_) (fun hno _ => fun hc => absurd hc hno)
 exact does_loadD (o := 0) (n := 4) (mid := [w32 (pub).a, w32 (pub).b, w32 (pub).c, w32 (pub).d]) (oT hO s3_10 rfl) (B3_10.ext' hR) rfl rfl (nB rfl) row_24 rfl ⟨Ext.refl _, fun _ => rfl⟩
 refine Ask.guarded (B := (reachO msg one).2) (want := true) (t := 32) rfl rfl rfl rfl (by decide) (fun aq wq hO hR hT => hT 32 rfl rfl) (fun hG aq wq hNq hO hR hT => ?_) (fun hno _ => fun hc => absurd hc hno)
 exact does_move (V := i64 ((pw k : Nat) : Int)) (oT hO s9_10 rfl) ⟨Ext.refl _, fun _ => rfl⟩
 refine Ask.guarded (B := (reachO msg one).2) (want := true) (t := 32) rfl rfl rfl rfl (by decide) (fun aq wq hO hR hT => hT 32 rfl rfl) (fun hG aq wq hNq hO hR hT => ?_) (fun hno _ => fun hc => absurd hc hno)
 exact does_field (o' := 0) fld_30_0 (oT hO s5_10 rfl) rfl ⟨Ext.refl _, fun _ => rfl⟩
 refine Ask.guarded (B := (reachO msg one).2) (want := true) (t := 32) rfl rfl rfl rfl (by decide) (fun aq wq hO hR hT => hT 32 rfl rfl) (fun hG aq wq hNq hO hR hT => ?_) (fun hno _ => fun hc => absurd hc hno)
 exact does_loadD1 (o := 0) (V := i64 (i)) (hT 35 rfl rfl hG) (B5_10.ext' hR) rfl one_3 ⟨Ext.refl _, fun _ => rfl⟩
 refine Ask.guarded (B := (reachO msg one).2) (want := true) (t := 32) rfl rfl rfl rfl (by decide) (fun aq wq hO hR hT => hT 32 rfl rfl) (fun hG aq wq hNq hO hR hT => ?_) (fun hno _ => fun hc => absurd hc hno)
 exact does_loadD (o := 0) (n := 4) (mid := [w32 ((reachO msg one).1).a, w32 ((reachO msg one).1).b, w32 ((reachO msg one).1).c, w32 ((reachO msg one).1).d]) (oT hO s7_10 rfl) (B7_10.ext' hR) rfl rfl (nB rfl) row_24 rfl ⟨Ext.refl _, fun _ => rfl⟩
 refine Ask.guarded (B := (reachO msg one).2) (want := true) (t := 32) rfl rfl rfl rfl (by decide) (fun aq wq hO hR hT => hT 32 rfl rfl) (fun hG aq wq hNq hO hR hT => ?_) (fun hno _ => fun hc => absurd hc hno)
 exact does_field (o' := 2) fld_30_2 (oT hO s5_10 rfl) rfl ⟨Ext.refl _, fun _ => rfl⟩
 refine Ask.guarded (B := (reachO msg one).2) (want := true) (t := 32) rfl rfl rfl rfl (by decide) (fun aq wq hO hR hT => hT 32 rfl rfl) (fun hG aq wq hNq hO hR hT => ?_) (fun hno _ => fun hc => absurd hc hno)
 exact does_loadD1 (o := 2) (V := x2) (hT 38 rfl rfl hG) (B5_10.ext' hR) rfl one_27 ⟨Ext.refl _, fun _ => rfl⟩
 refine Ask.guarded (B := (reachO msg one).2) (want := true) (t := 32) rfl rfl rfl rfl (by decide) (fun aq wq hO hR hT => hT 32 rfl rfl) (fun hG aq wq hNq hO hR hT => ?_) (fun hno _ => fun hc => absurd hc hno)
 exact does_ret (vs := #[Dg.val (pub), i64 ((pw k : Nat) : Int), i64 (i), Dg.val ((reachO msg one).1), x2]) call_44 (args5 (hT 33 rfl rfl hG) (hT 34 rfl rfl hG) (hT 36 rfl rfl hG) (hT 37 rfl rfl hG) (hT 39 rfl rfl hG)) rfl ((checkR (pub) (((pw k : Nat) : Int)) (i) ((reachO msg one).1) (path) (x2) wq ((X2_10.ext' hR).wide (Nat.zero_le _) (.inl rfl)) hpn).mono fun v w2 h => ⟨h.2, fun _ => h.1⟩)
 exact Ap fun aq wq _ hO hR hT => does_and (B := (reachO msg one).2) (X := checks pub (((pw k : Nat) : Int)) (i) ((reachO msg one).1) path) (hT 32 rfl rfl) (fun hB => (hT 40 rfl rfl hB)) rfl eR
 exact Ap fun aq wq _ hO hR hT => does_assign (V := Value.bool (((reachO msg one).2) && (checks pub (((pw k : Nat) : Int)) (i) ((reachO msg one).1) path))) (hT 41 rfl rfl) eR
 intro a15 wd15 N15 D15 hO hR hA hU
 obtain ⟨_, _, _, _, _, _, _, _, _, _, _, t6, _⟩ := hA
 have E15 := E10.trans hR
 have B3_15 := B3_10.ext' hR
 have B4_15 := B4_10.ext' hR
 have B5_15 := B5_10.ext' hR
 have B7_15 := B7_10.ext' hR
 have X1_15 := X1_10.ext' hR
 have X2_15 := X2_10.ext' hR
 have s6_15 : get a15 6 = Value.bool (((reachO msg one).2) && (checks pub (((pw k : Nat) : Int)) (i) ((reachO msg one).1) path)) := t6
 clear E10 N10 D10 s3_10 s5_10 s7_10 s8_10 s9_10 s10_10 s26_10 B3_10 B4_10 B5_10 B7_10 X1_10 X2_10
 refine tail_nil ?_
 refine wp_ret ?_
 refine res_one (V := Value.bool (((reachO msg one).2) && (checks pub (((pw k : Nat) : Int)) (i) ((reachO msg one).1) path))) rfl D15 s6_15 ?_
 subst hkp
 exact ⟨by show Value.bool _ = Value.bool _; rw [keyCheck_yes hp4], E15⟩

end Go.Proofs.YtmmghpbncejfiaaDoor
