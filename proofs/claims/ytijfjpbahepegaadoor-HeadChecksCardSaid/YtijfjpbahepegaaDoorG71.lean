/- The walks of functions of the program: printed. -/
import Derived.Test.YtijfjpbahepegaaDoorKB
import Derived.Test.YtijfjpbahepegaaDoorG51
import Derived.Test.YtijfjpbahepegaaDoorG65
import Derived.Test.YtijfjpbahepegaaDoorF0
set_option maxRecDepth 100000
namespace Go.Proofs.YtijfjpbahepegaaDoor
open Go Go.RowKit Sk Sd
theorem keyCheckR (pub msg : Dg) (i : Int) (one path : List Dg) (x1 x2 : Value) (w0 : World) (hx1 : SlT DG 0 0 one x1 w0) (hx2 : SlT DG 0 0 path x2 w0) (hn : one.length ≤ 100000) (hpn : path.length ≤ 100000) :
    Gives Tryd.prog 56 #[Dg.val (pub), Dg.val (msg), Value.agg #[i64 (i), x1, x2]] w0 (Pr.ex (Value.bool (keyCheck pub msg i one path))) := by
 refine enter (N := 42) Tryd.func56 rfl rfl ?_
 intro a0 hN_0 hD_0 hA
 have s0_0 : get a0 0 = Dg.val (pub) := hA 0 _ rfl
 have s1_0 : get a0 1 = Dg.val (msg) := hA 1 _ rfl
 have s2_0 : get a0 2 = Value.agg #[i64 (i), x1, x2] := hA 2 _ rfl
 clear hA
 have hE_0 : Ext w0 w0 := Ext.refl w0
 have hsx1_0 := hx1.close
 have hsx2_0 := hx2.close
 refine wp_seq ?_
 refine region_lex [3, 4, 5] [(3, Pr.box' w0.heap.size 27 [w32 (pub).a, w32 (pub).b, w32 (pub).c, w32 (pub).d]), (4, Pr.box' w0.heap.size 27 [w32 (msg).a, w32 (msg).b, w32 (msg).c, w32 (msg).d]), (5, Pr.box' w0.heap.size 57 [i64 (i), x1, x2]), (6, Pr.ex (Value.bool (false)))] 4 hN_0 hD_0 (by kernel_rfl) (by kernel_rfl) ?_ ?_
 refine Asks.cons ?_ (Asks.cons ?_ (Asks.cons ?_ (Asks.cons ?_ (Asks.zero _))))
 refine Ask.fresh rfl rfl ?_
 intro aq wq hNq hO hR hT
 exact does_box (V := Dg.val (pub)) ((hO 0 rfl).trans s0_0) (fun b w2 he hlo hb => ⟨he, ⟨b, rfl, Nat.le_trans hR.size' hlo, hb⟩, ⟨b, rfl, hlo, hb.lt⟩⟩)
 refine Ask.fresh rfl rfl ?_
 intro aq wq hNq hO hR hT
 exact does_box (V := Dg.val (msg)) ((hO 1 rfl).trans s1_0) (fun b w2 he hlo hb => ⟨he, ⟨b, rfl, Nat.le_trans hR.size' hlo, hb⟩, ⟨b, rfl, hlo, hb.lt⟩⟩)
 refine Ask.fresh rfl rfl ?_
 intro aq wq hNq hO hR hT
 exact does_box (V := Value.agg #[i64 (i), x1, x2]) ((hO 2 rfl).trans s2_0) (fun b w2 he hlo hb => ⟨he, ⟨b, rfl, Nat.le_trans hR.size' hlo, hb⟩, ⟨b, rfl, hlo, hb.lt⟩⟩)
 exact Ask.plain rfl rfl fun aq wq hNq hO hR hT => does_assign (V := Value.bool (false)) rfl ⟨Ext.refl _, rfl⟩
 intro a1 wd1 hN_1 hD_1 hO hR hA hU
 obtain ⟨t3, t4, t5, _, _⟩ := hA
 have hE_1 := hE_0.trans hR
 have hsx1_1 := hsx1_0.ext' hR
 have hsx2_1 := hsx2_0.ext' hR
 obtain ⟨b3, s3_1, lo_b3, hbb3_1⟩ := t3
 have nb_x1_b3 := SlT.old hsx1_0 lo_b3
 have nb_x2_b3 := SlT.old hsx2_0 lo_b3
 have fr_b3 : w0.heap.size ≤ b3 := Nat.le_trans hE_0.size' lo_b3
 obtain ⟨b4, s4_1, lo_b4, hbb4_1⟩ := t4
 have nb_x1_b4 := SlT.old hsx1_0 lo_b4
 have nb_x2_b4 := SlT.old hsx2_0 lo_b4
 have fr_b4 : w0.heap.size ≤ b4 := Nat.le_trans hE_0.size' lo_b4
 obtain ⟨b5, s5_1, lo_b5, hbb5_1⟩ := t5
 have nb_x1_b5 := SlT.old hsx1_0 lo_b5
 have nb_x2_b5 := SlT.old hsx2_0 lo_b5
 have fr_b5 : w0.heap.size ≤ b5 := Nat.le_trans hE_0.size' lo_b5
 obtain ⟨u0, ⟨u1, ⟨u2, _⟩⟩⟩ := hU
 have ne_b3_b4 : b3 ≠ b4 := fun e => u0 4 (by decide) (by rw [s3_1, s4_1, e])
 have ne_b3_b5 : b3 ≠ b5 := fun e => u0 5 (by decide) (by rw [s3_1, s5_1, e])
 have ne_b4_b5 : b4 ≠ b5 := fun e => u1 5 (by decide) (by rw [s4_1, s5_1, e])
 clear hE_0 hN_0 hD_0 s0_0 s1_0 s2_0 hsx1_0 hsx2_0
 refine tail_nil ?_
 refine wp_seq ?_
 refine wp_seq ?_
 refine region_lex [] [(11, Pr.ex (Value.pointer (some ⟨b5, 2, none⟩))), (12, Pr.ex (x2)), (13, Pr.ex (i64 ((path.length : Nat) : Int))), (14, Pr.ex (Value.bool (decide (((4 : Nat) : Int) < ((path.length : Nat) : Int)))))] 4 hN_1 hD_1 (by kernel_rfl) (by kernel_rfl) ?_ ?_
 refine Asks.cons ?_ (Asks.cons ?_ (Asks.cons ?_ (Asks.cons ?_ (Asks.zero _))))
 exact Ask.plain rfl rfl fun aq wq hNq hO hR hT => does_field (o' := 2) fld_57_2 ((hO 5 rfl).trans s5_1) rfl ⟨Ext.refl _, rfl⟩
 exact Ask.plain rfl rfl fun aq wq hNq hO hR hT => does_loadD1 (o := 2) (V := x2) (hT 11 rfl rfl) (hbb5_1.ext' hR) rfl one_41 ⟨Ext.refl _, rfl⟩
 exact Ask.plain rfl rfl fun aq wq hNq hO hR hT => does_len (T := DG) (xs := path) sli_41 (SlT.at (hT 12 rfl rfl) (hsx2_1.ext' hR)) ⟨Ext.refl _, rfl⟩
 exact Ask.plain rfl rfl fun aq wq hNq hO hR hT => does_gtr (a := ((path.length : Nat) : Int)) (b := ((4 : Nat) : Int)) (hT 13 rfl rfl) rfl ⟨Ext.refl _, rfl⟩
 intro a2 wd2 hN_2 hD_2 hO hR hA hU
 obtain ⟨_, _, _, t14, _⟩ := hA
 have hE_2 := hE_1.trans hR
 have s3_2 := (hO 3 rfl).trans s3_1
 have s4_2 := (hO 4 rfl).trans s4_1
 have s5_2 := (hO 5 rfl).trans s5_1
 have hbb3_2 := hbb3_1.ext' hR
 have hbb4_2 := hbb4_1.ext' hR
 have hbb5_2 := hbb5_1.ext' hR
 have hsx1_2 := hsx1_1.ext' hR
 have hsx2_2 := hsx2_1.ext' hR
 have s14_2 : get a2 14 = Value.bool (decide (((4 : Nat) : Int) < ((path.length : Nat) : Int))) := t14
 clear hE_1 hN_1 hD_1 s3_1 s4_1 s5_1 hbb3_1 hbb4_1 hbb5_1 hsx1_1 hsx2_1
 refine tail_nil ?_
 refine wp_if (B := decide (((4 : Nat) : Int) < ((path.length : Nat) : Int))) s14_2 (fun hc0 => ?_) (fun hc0 => ?_)
 have hc0 := of_decide_eq_true hc0
 refine wp_seq ?_
 refine region_lex [] [(6, Pr.ex (Value.bool (false)))] 1 hN_2 hD_2 (by kernel_rfl) (by kernel_rfl) ?_ ?_
 refine Asks.cons ?_ (Asks.zero _)
 exact Ask.plain rfl rfl fun aq wq hNq hO hR hT => does_assign (V := Value.bool (false)) rfl ⟨Ext.refl _, rfl⟩
 intro a3 wd3 hN_3 hD_3 hO hR hA hU
 obtain ⟨t6, _⟩ := hA
 have hE_3 := hE_2.trans hR
 have hbb3_3 := hbb3_2.ext' hR
 have hbb4_3 := hbb4_2.ext' hR
 have hbb5_3 := hbb5_2.ext' hR
 have hsx1_3 := hsx1_2.ext' hR
 have hsx2_3 := hsx2_2.ext' hR
 have s6_3 : get a3 6 = Value.bool (false) := t6
 clear hE_2 hN_2 hD_2 s3_2 s4_2 s5_2 s14_2 hbb3_2 hbb4_2 hbb5_2 hsx1_2 hsx2_2
 refine tail_nil ?_
 refine wp_ret ?_
 refine res_one (V := Value.bool (false)) rfl hD_3 s6_3 ?_
 exact ⟨by show Value.bool _ = Value.bool _; rw [keyCheck_no (by omega)], hE_3⟩
 have hc0 := of_decide_eq_false hc0
 have hp4 : path.length ≤ 4 := by omega
 refine wp_skip ?_
 refine wp_seq ?_
 refine region_lex [7] [(16, Pr.ex (Dg.val (msg))), (17, Pr.ex (Value.pointer (some ⟨b5, 1, none⟩))), (18, Pr.ex (x1)), (19, Pr.ex (Value.tuple #[Dg.val ((reachO msg one).1), Value.bool ((reachO msg one).2)])), (15, Pr.ex (Value.tuple #[Dg.val ((reachO msg one).1), Value.bool ((reachO msg one).2)])), (20, Pr.ex (Dg.val ((reachO msg one).1))), (21, Pr.ex (Value.bool ((reachO msg one).2))), (7, Pr.box' wd2.heap.size 27 [w32 (Dg.zero).a, w32 (Dg.zero).b, w32 (Dg.zero).c, w32 (Dg.zero).d])] 8 hN_2 hD_2 (by kernel_rfl) (by kernel_rfl) ?_ ?_
 refine Asks.cons ?_ (Asks.cons ?_ (Asks.cons ?_ (Asks.cons ?_ (Asks.cons ?_ (Asks.cons ?_ (Asks.cons ?_ (Asks.cons ?_ (Asks.zero _))))))))
 exact Ask.plain rfl rfl fun aq wq hNq hO hR hT => does_loadD (o := 0) (n := 4) (mid := [w32 (msg).a, w32 (msg).b, w32 (msg).c, w32 (msg).d]) ((hO 4 rfl).trans s4_2) (hbb4_2.ext' hR) rfl rfl (Nat.le_of_ble_eq_true rfl) row_27 rfl ⟨Ext.refl _, rfl⟩
 exact Ask.plain rfl rfl fun aq wq hNq hO hR hT => does_field (o' := 1) fld_57_1 ((hO 5 rfl).trans s5_2) rfl ⟨Ext.refl _, rfl⟩
 exact Ask.plain rfl rfl fun aq wq hNq hO hR hT => does_loadD1 (o := 1) (V := x1) (hT 17 rfl rfl) (hbb5_2.ext' hR) rfl one_55 ⟨Ext.refl _, rfl⟩
 exact Ask.plain rfl rfl fun aq wq hNq hO hR hT => does_ret (vs := #[Dg.val (msg), x1]) call_75 (args2 (hT 16 rfl rfl) (hT 18 rfl rfl)) rfl ((reachR msg one (x1) wq ((hsx1_2.ext' hR).wide (Nat.zero_le _) (.inl rfl)) hn).mono fun v w2 h => ⟨h.2, h.1⟩)
 exact Ask.plain rfl rfl fun aq wq hNq hO hR hT => does_move (V := Value.tuple #[Dg.val ((reachO msg one).1), Value.bool ((reachO msg one).2)]) (hT 19 rfl rfl) ⟨Ext.refl _, rfl⟩
 exact Ask.plain rfl rfl fun aq wq hNq hO hR hT => does_extract (V := Dg.val ((reachO msg one).1)) (hT 15 rfl rfl) rfl ⟨Ext.refl _, rfl⟩
 exact Ask.plain rfl rfl fun aq wq hNq hO hR hT => does_extract (V := Value.bool ((reachO msg one).2)) (hT 15 rfl rfl) rfl ⟨Ext.refl _, rfl⟩
 refine Ask.fresh rfl rfl ?_
 intro aq wq hNq hO hR hT
 exact does_alloc zero_27 (fun b w2 he hlo hb => ⟨he, ⟨b, rfl, Nat.le_trans hR.size' hlo, hb⟩, ⟨b, rfl, hlo, hb.lt⟩⟩)
 intro a4 wd4 hN_4 hD_4 hO hR hA hU
 obtain ⟨_, _, _, _, _, t20, t21, t7, _⟩ := hA
 have hE_4 := hE_2.trans hR
 have s3_4 := (hO 3 rfl).trans s3_2
 have s5_4 := (hO 5 rfl).trans s5_2
 have hbb3_4 := hbb3_2.ext' hR
 have hbb4_4 := hbb4_2.ext' hR
 have hbb5_4 := hbb5_2.ext' hR
 have hsx1_4 := hsx1_2.ext' hR
 have hsx2_4 := hsx2_2.ext' hR
 have s20_4 : get a4 20 = Dg.val ((reachO msg one).1) := t20
 have s21_4 : get a4 21 = Value.bool ((reachO msg one).2) := t21
 obtain ⟨b7, s7_4, lo_b7, hbb7_4⟩ := t7
 have ne_b3_b7 : b3 ≠ b7 := fun e => Nat.lt_irrefl _ (Nat.lt_of_lt_of_le hbb3_2.lt (e ▸ lo_b7))
 have ne_b4_b7 : b4 ≠ b7 := fun e => Nat.lt_irrefl _ (Nat.lt_of_lt_of_le hbb4_2.lt (e ▸ lo_b7))
 have ne_b5_b7 : b5 ≠ b7 := fun e => Nat.lt_irrefl _ (Nat.lt_of_lt_of_le hbb5_2.lt (e ▸ lo_b7))
 have nb_x1_b7 := SlT.old hsx1_2 lo_b7
 have nb_x2_b7 := SlT.old hsx2_2 lo_b7
 have fr_b7 : w0.heap.size ≤ b7 := Nat.le_trans hE_2.size' lo_b7
 clear hE_2 hN_2 hD_2 s3_2 s4_2 s5_2 s14_2 hbb3_2 hbb4_2 hbb5_2 hsx1_2 hsx2_2
 refine tail_none rfl rfl (does_storeD (o := 0) (n := 4) (cs' := [w32 ((reachO msg one).1).a, w32 ((reachO msg one).1).b, w32 ((reachO msg one).1).c, w32 ((reachO msg one).1).d]) (V := Dg.val ((reachO msg one).1)) s7_4 s20_4 hbb7_4 (Nat.le_of_ble_eq_true rfl) rfl siz_27 rfl rfl (fun wd5 hX hz hbb7_5 => ?_))
 have hE_5 := hE_4.since hX (fun k e => e ▸ fr_b7)
 have hbb3_5 := hbb3_4.ext hX ne_b3_b7
 have hbb4_5 := hbb4_4.ext hX ne_b4_b7
 have hbb5_5 := hbb5_4.ext hX ne_b5_b7
 have hsx1_5 := SlT.over hsx1_4 hX nb_x1_b7
 have hsx2_5 := SlT.over hsx2_4 hX nb_x2_b7
 clear hX hz hE_4 hbb3_4 hbb4_4 hbb5_4 hbb7_4 hsx1_4 hsx2_4
 refine tail_put rfl rfl hN_4 hD_4 (by decide) (does_assign (V := Value.bool ((reachO msg one).2)) s21_4 (fun a6 hN_6 hD_6 hv hO => ?_))
 have s8_6 := hv
 have s3_6 := (hO 3 rfl).trans s3_4
 have s5_6 := (hO 5 rfl).trans s5_4
 have s7_6 := (hO 7 rfl).trans s7_4
 clear hO hv hN_4 hD_4 s3_4 s5_4 s7_4 s20_4 s21_4
 refine tail_nil ?_
 refine wp_seq ?_
 refine region_lex [] [(9, Pr.ex (i64 ((1 : Nat) : Int)))] 1 hN_6 hD_6 (by kernel_rfl) (by kernel_rfl) ?_ ?_
 refine Asks.cons ?_ (Asks.zero _)
 exact Ask.plain rfl rfl fun aq wq hNq hO hR hT => does_assign (V := i64 ((1 : Nat) : Int)) rfl ⟨Ext.refl _, rfl⟩
 intro a7 wd7 hN_7 hD_7 hO hR hA hU
 obtain ⟨t9, _⟩ := hA
 have hE_7 := hE_5.trans hR
 have s3_7 := (hO 3 rfl).trans s3_6
 have s5_7 := (hO 5 rfl).trans s5_6
 have s7_7 := (hO 7 rfl).trans s7_6
 have s8_7 := (hO 8 rfl).trans s8_6
 have hbb3_7 := hbb3_5.ext' hR
 have hbb4_7 := hbb4_5.ext' hR
 have hbb5_7 := hbb5_5.ext' hR
 have hbb7_7 := hbb7_5.ext' hR
 have hsx1_7 := hsx1_5.ext' hR
 have hsx2_7 := hsx2_5.ext' hR
 have s9_7 : get a7 9 = i64 ((1 : Nat) : Int) := t9
 clear hE_5 hN_6 hD_6 s3_6 s5_6 s7_6 s8_6 hbb3_5 hbb4_5 hbb5_5 hbb7_5 hsx1_5 hsx2_5
 refine tail_nil ?_
 refine wp_seq ?_
 refine wp_seq ?_
 refine region_lex [] [(10, Pr.ex (i64 ((0 : Nat) : Int)))] 1 hN_7 hD_7 (by kernel_rfl) (by kernel_rfl) ?_ ?_
 refine Asks.cons ?_ (Asks.zero _)
 exact Ask.plain rfl rfl fun aq wq hNq hO hR hT => does_assign (V := i64 ((0 : Nat) : Int)) rfl ⟨Ext.refl _, rfl⟩
 intro a8 wd8 hN_8 hD_8 hO hR hA hU
 obtain ⟨t10, _⟩ := hA
 have hE_8 := hE_7.trans hR
 have s3_8 := (hO 3 rfl).trans s3_7
 have s5_8 := (hO 5 rfl).trans s5_7
 have s7_8 := (hO 7 rfl).trans s7_7
 have s8_8 := (hO 8 rfl).trans s8_7
 have s9_8 := (hO 9 rfl).trans s9_7
 have hbb3_8 := hbb3_7.ext' hR
 have hbb4_8 := hbb4_7.ext' hR
 have hbb5_8 := hbb5_7.ext' hR
 have hbb7_8 := hbb7_7.ext' hR
 have hsx1_8 := hsx1_7.ext' hR
 have hsx2_8 := hsx2_7.ext' hR
 have s10_8 : get a8 10 = i64 ((0 : Nat) : Int) := t10
 clear hE_7 hN_7 hD_7 s3_7 s5_7 s7_7 s8_7 s9_7 hbb3_7 hbb4_7 hbb5_7 hbb7_7 hsx1_7 hsx2_7
 refine tail_nil ?_
 refine wp_block ?_
 refine loop_g (fun mz az wz => ∃ k : Nat, mz = path.length - k ∧ (az.tmps.size = 42) ∧ (az.defers = []) ∧ (get az 3 = Value.pointer (some ⟨b3, 0, none⟩)) ∧ (get az 5 = Value.pointer (some ⟨b5, 0, none⟩)) ∧ (get az 7 = Value.pointer (some ⟨b7, 0, none⟩)) ∧ (get az 8 = Value.bool ((reachO msg one).2)) ∧ (get az 9 = i64 ((pw k : Nat) : Int)) ∧ (get az 10 = i64 ((k : Nat) : Int)) ∧ (Ext w0 wz) ∧ (Has wz b3 27 [w32 (pub).a, w32 (pub).b, w32 (pub).c, w32 (pub).d]) ∧ (Has wz b4 27 [w32 (msg).a, w32 (msg).b, w32 (msg).c, w32 (msg).d]) ∧ (Has wz b5 57 [i64 (i), x1, x2]) ∧ (Has wz b7 27 [w32 ((reachO msg one).1).a, w32 ((reachO msg one).1).b, w32 ((reachO msg one).1).c, w32 ((reachO msg one).1).d]) ∧ (SlT DG 0 (w0.heap.size + 1) (one) x1 wz) ∧ (SlT DG 0 (w0.heap.size + 1) (path) x2 wz) ∧ (k ≤ path.length)) ?_ ?_
 exact ⟨_, 0, rfl, hN_8, hD_8, s3_8, s5_8, s7_8, s8_8, s9_8, s10_8, hE_8, hbb3_8, hbb4_8, hbb5_8, hbb7_8, hsx1_8, hsx2_8, Nat.zero_le _⟩
 rintro mz a9 wd9 ⟨k, rfl, hN_9, hD_9, s3_9, s5_9, s7_9, s8_9, s9_9, s10_9, hE_9, hbb3_9, hbb4_9, hbb5_9, hbb7_9, hsx1_9, hsx2_9, hk⟩
 refine wp_seq ?_
 refine wp_seq ?_
 refine region_lex [] [(22, Pr.ex (i64 ((k : Nat) : Int))), (23, Pr.ex (Value.pointer (some ⟨b5, 2, none⟩))), (24, Pr.ex (x2)), (25, Pr.ex (i64 ((path.length : Nat) : Int))), (26, Pr.ex (Value.bool (decide (((k : Nat) : Int) < ((path.length : Nat) : Int)))))] 5 hN_9 hD_9 (by kernel_rfl) (by kernel_rfl) ?_ ?_
 refine Asks.cons ?_ (Asks.cons ?_ (Asks.cons ?_ (Asks.cons ?_ (Asks.cons ?_ (Asks.zero _)))))
 exact Ask.plain rfl rfl fun aq wq hNq hO hR hT => does_move (V := i64 ((k : Nat) : Int)) ((hO 10 rfl).trans s10_9) ⟨Ext.refl _, rfl⟩
 exact Ask.plain rfl rfl fun aq wq hNq hO hR hT => does_field (o' := 2) fld_57_2 ((hO 5 rfl).trans s5_9) rfl ⟨Ext.refl _, rfl⟩
 exact Ask.plain rfl rfl fun aq wq hNq hO hR hT => does_loadD1 (o := 2) (V := x2) (hT 23 rfl rfl) (hbb5_9.ext' hR) rfl one_41 ⟨Ext.refl _, rfl⟩
 exact Ask.plain rfl rfl fun aq wq hNq hO hR hT => does_len (T := DG) (xs := path) sli_41 (SlT.at (hT 24 rfl rfl) (hsx2_9.ext' hR)) ⟨Ext.refl _, rfl⟩
 exact Ask.plain rfl rfl fun aq wq hNq hO hR hT => does_lss (a := ((k : Nat) : Int)) (b := ((path.length : Nat) : Int)) (hT 22 rfl rfl) (hT 25 rfl rfl) ⟨Ext.refl _, rfl⟩
 intro a10 wd10 hN_10 hD_10 hO hR hA hU
 obtain ⟨_, _, _, _, t26, _⟩ := hA
 have hE_10 := hE_9.trans hR
 have s3_10 := (hO 3 rfl).trans s3_9
 have s5_10 := (hO 5 rfl).trans s5_9
 have s7_10 := (hO 7 rfl).trans s7_9
 have s8_10 := (hO 8 rfl).trans s8_9
 have s9_10 := (hO 9 rfl).trans s9_9
 have s10_10 := (hO 10 rfl).trans s10_9
 have hbb3_10 := hbb3_9.ext' hR
 have hbb4_10 := hbb4_9.ext' hR
 have hbb5_10 := hbb5_9.ext' hR
 have hbb7_10 := hbb7_9.ext' hR
 have hsx1_10 := hsx1_9.ext' hR
 have hsx2_10 := hsx2_9.ext' hR
 have s26_10 : get a10 26 = Value.bool (decide (((k : Nat) : Int) < ((path.length : Nat) : Int))) := t26
 clear hE_9 hN_9 hD_9 s3_9 s5_9 s7_9 s8_9 s9_9 s10_9 hbb3_9 hbb4_9 hbb5_9 hbb7_9 hsx1_9 hsx2_9
 refine tail_nil ?_
 refine wp_if (B := decide (((k : Nat) : Int) < ((path.length : Nat) : Int))) s26_10 (fun hc1 => ?_) (fun hc1 => ?_)
 have hc1 := of_decide_eq_true hc1
 have hpk := pw_small (k := k) (by omega)
 refine wp_skip ?_
 refine wp_seq ?_
 refine wp_block ?_
 refine region_lex [] [(29, Pr.ex (i64 ((pw k : Nat) : Int))), (30, Pr.ex (i64 (((pw k) * 2 : Nat) : Int)))] 2 hN_10 hD_10 (by kernel_rfl) (by kernel_rfl) ?_ ?_
 refine Asks.cons ?_ (Asks.cons ?_ (Asks.zero _))
 exact Ask.plain rfl rfl fun aq wq hNq hO hR hT => does_move (V := i64 ((pw k : Nat) : Int)) ((hO 9 rfl).trans s9_10) ⟨Ext.refl _, rfl⟩
 exact Ask.plain rfl rfl fun aq wq hNq hO hR hT => does_mul (a := ((pw k : Nat) : Int)) (b := ((2 : Nat) : Int)) (r := (((pw k) * 2 : Nat) : Int)) (hT 29 rfl rfl) rfl (by simp) (by omega) (by omega) ⟨Ext.refl _, rfl⟩
 intro a11 wd11 hN_11 hD_11 hO hR hA hU
 obtain ⟨_, t30, _⟩ := hA
 have hE_11 := hE_10.trans hR
 have s3_11 := (hO 3 rfl).trans s3_10
 have s5_11 := (hO 5 rfl).trans s5_10
 have s7_11 := (hO 7 rfl).trans s7_10
 have s8_11 := (hO 8 rfl).trans s8_10
 have s9_11 := (hO 9 rfl).trans s9_10
 have s10_11 := (hO 10 rfl).trans s10_10
 have hbb3_11 := hbb3_10.ext' hR
 have hbb4_11 := hbb4_10.ext' hR
 have hbb5_11 := hbb5_10.ext' hR
 have hbb7_11 := hbb7_10.ext' hR
 have hsx1_11 := hsx1_10.ext' hR
 have hsx2_11 := hsx2_10.ext' hR
 have s30_11 : get a11 30 = i64 (((pw k) * 2 : Nat) : Int) := t30
 clear hE_10 hN_10 hD_10 s3_10 s5_10 s7_10 s8_10 s9_10 s10_10 s26_10 hbb3_10 hbb4_10 hbb5_10 hbb7_10 hsx1_10 hsx2_10
 refine tail_put rfl rfl hN_11 hD_11 (by decide) (does_assign (V := i64 (((pw k) * 2 : Nat) : Int)) s30_11 (fun a12 hN_12 hD_12 hv hO => ?_))
 have s9_12 := hv
 have s3_12 := (hO 3 rfl).trans s3_11
 have s5_12 := (hO 5 rfl).trans s5_11
 have s7_12 := (hO 7 rfl).trans s7_11
 have s8_12 := (hO 8 rfl).trans s8_11
 have s10_12 := (hO 10 rfl).trans s10_11
 clear hO hv hN_11 hD_11 s3_11 s5_11 s7_11 s8_11 s10_11 s30_11 s9_11
 refine tail_nil ?_
 refine region_lex [] [(27, Pr.ex (i64 ((k : Nat) : Int))), (28, Pr.ex (i64 ((k + 1 : Nat) : Int)))] 2 hN_12 hD_12 (by kernel_rfl) (by kernel_rfl) ?_ ?_
 refine Asks.cons ?_ (Asks.cons ?_ (Asks.zero _))
 exact Ask.plain rfl rfl fun aq wq hNq hO hR hT => does_move (V := i64 ((k : Nat) : Int)) ((hO 10 rfl).trans s10_12) ⟨Ext.refl _, rfl⟩
 exact Ask.plain rfl rfl fun aq wq hNq hO hR hT => does_add (a := ((k : Nat) : Int)) (b := ((1 : Nat) : Int)) (r := ((k + 1 : Nat) : Int)) (hT 27 rfl rfl) rfl (by omega) (by omega) (by omega) ⟨Ext.refl _, rfl⟩
 intro a13 wd13 hN_13 hD_13 hO hR hA hU
 obtain ⟨_, t28, _⟩ := hA
 have hE_13 := hE_11.trans hR
 have s3_13 := (hO 3 rfl).trans s3_12
 have s5_13 := (hO 5 rfl).trans s5_12
 have s7_13 := (hO 7 rfl).trans s7_12
 have s8_13 := (hO 8 rfl).trans s8_12
 have s9_13 := (hO 9 rfl).trans s9_12
 have s10_13 := (hO 10 rfl).trans s10_12
 have hbb3_13 := hbb3_11.ext' hR
 have hbb4_13 := hbb4_11.ext' hR
 have hbb5_13 := hbb5_11.ext' hR
 have hbb7_13 := hbb7_11.ext' hR
 have hsx1_13 := hsx1_11.ext' hR
 have hsx2_13 := hsx2_11.ext' hR
 have s28_13 : get a13 28 = i64 ((k + 1 : Nat) : Int) := t28
 clear hE_11 hN_12 hD_12 s3_12 s5_12 s7_12 s8_12 s9_12 s10_12 hbb3_11 hbb4_11 hbb5_11 hbb7_11 hsx1_11 hsx2_11
 refine tail_put rfl rfl hN_13 hD_13 (by decide) (does_assign (V := i64 ((k + 1 : Nat) : Int)) s28_13 (fun a14 hN_14 hD_14 hv hO => ?_))
 have s10_14 := hv
 have s3_14 := (hO 3 rfl).trans s3_13
 have s5_14 := (hO 5 rfl).trans s5_13
 have s7_14 := (hO 7 rfl).trans s7_13
 have s8_14 := (hO 8 rfl).trans s8_13
 have s9_14 := (hO 9 rfl).trans s9_13
 clear hO hv hN_13 hD_13 s3_13 s5_13 s7_13 s8_13 s9_13 s28_13 s10_13
 refine tail_nil ?_
 exact ⟨_, by omega, k + 1, rfl, hN_14, hD_14, s3_14, s5_14, s7_14, s8_14, (by rw [pw_succ]; exact s9_14), s10_14, hE_13, hbb3_13, hbb4_13, hbb5_13, hbb7_13, hsx1_13, hsx2_13, by omega⟩
 have hc1 := of_decide_eq_false hc1
 have hkp : k = path.length := by omega
 refine wp_exit ?_
 refine wp_seq ?_
 refine region_lex [] [(31, Pr.ex (Value.bool ((reachO msg one).2))), (32, Pr.ex (Value.bool ((reachO msg one).2))), (33, Pr.ifb ((reachO msg one).2) (Pr.ex (Dg.val (pub)))), (34, Pr.ifb ((reachO msg one).2) (Pr.ex (i64 ((pw k : Nat) : Int)))), (35, Pr.ifb ((reachO msg one).2) (Pr.ex (Value.pointer (some ⟨b5, 0, none⟩)))), (36, Pr.ifb ((reachO msg one).2) (Pr.ex (i64 (i)))), (37, Pr.ifb ((reachO msg one).2) (Pr.ex (Dg.val ((reachO msg one).1)))), (38, Pr.ifb ((reachO msg one).2) (Pr.ex (Value.pointer (some ⟨b5, 2, none⟩)))), (39, Pr.ifb ((reachO msg one).2) (Pr.ex (x2))), (40, Pr.ifb ((reachO msg one).2) (Pr.ex (Value.bool (checks pub (((pw k : Nat) : Int)) (i) ((reachO msg one).1) path)))), (41, Pr.ex (Value.bool (((reachO msg one).2) && (checks pub (((pw k : Nat) : Int)) (i) ((reachO msg one).1) path)))), (6, Pr.ex (Value.bool (((reachO msg one).2) && (checks pub (((pw k : Nat) : Int)) (i) ((reachO msg one).1) path))))] 12 hN_10 hD_10 (by kernel_rfl) (by kernel_rfl) ?_ ?_
 refine Asks.cons ?_ (Asks.cons ?_ (Asks.cons ?_ (Asks.cons ?_ (Asks.cons ?_ (Asks.cons ?_ (Asks.cons ?_ (Asks.cons ?_ (Asks.cons ?_ (Asks.cons ?_ (Asks.cons ?_ (Asks.cons ?_ (Asks.zero _))))))))))))
 exact Ask.plain rfl rfl fun aq wq hNq hO hR hT => does_move (V := Value.bool ((reachO msg one).2)) ((hO 8 rfl).trans s8_10) ⟨Ext.refl _, rfl⟩
 exact Ask.plain rfl rfl fun aq wq hNq hO hR hT => does_move (V := Value.bool ((reachO msg one).2)) (hT 31 rfl rfl) ⟨Ext.refl _, rfl⟩
 refine Ask.guarded (B := (reachO msg one).2) (want := true) (t := 32) rfl rfl rfl rfl (by decide) (fun aq wq hO hR hT => hT 32 rfl rfl) (fun hG aq wq hNq hO hR hT => ?_) (fun hno _ => fun hc => absurd hc hno)
 exact does_loadD (o := 0) (n := 4) (mid := [w32 (pub).a, w32 (pub).b, w32 (pub).c, w32 (pub).d]) ((hO 3 rfl).trans s3_10) (hbb3_10.ext' hR) rfl rfl (Nat.le_of_ble_eq_true rfl) row_27 rfl ⟨Ext.refl _, fun _ => rfl⟩
 refine Ask.guarded (B := (reachO msg one).2) (want := true) (t := 32) rfl rfl rfl rfl (by decide) (fun aq wq hO hR hT => hT 32 rfl rfl) (fun hG aq wq hNq hO hR hT => ?_) (fun hno _ => fun hc => absurd hc hno)
 exact does_move (V := i64 ((pw k : Nat) : Int)) ((hO 9 rfl).trans s9_10) ⟨Ext.refl _, fun _ => rfl⟩
 refine Ask.guarded (B := (reachO msg one).2) (want := true) (t := 32) rfl rfl rfl rfl (by decide) (fun aq wq hO hR hT => hT 32 rfl rfl) (fun hG aq wq hNq hO hR hT => ?_) (fun hno _ => fun hc => absurd hc hno)
 exact does_field (o' := 0) fld_57_0 ((hO 5 rfl).trans s5_10) rfl ⟨Ext.refl _, fun _ => rfl⟩
 refine Ask.guarded (B := (reachO msg one).2) (want := true) (t := 32) rfl rfl rfl rfl (by decide) (fun aq wq hO hR hT => hT 32 rfl rfl) (fun hG aq wq hNq hO hR hT => ?_) (fun hno _ => fun hc => absurd hc hno)
 exact does_loadD1 (o := 0) (V := i64 (i)) (hT 35 rfl rfl hG) (hbb5_10.ext' hR) rfl one_3 ⟨Ext.refl _, fun _ => rfl⟩
 refine Ask.guarded (B := (reachO msg one).2) (want := true) (t := 32) rfl rfl rfl rfl (by decide) (fun aq wq hO hR hT => hT 32 rfl rfl) (fun hG aq wq hNq hO hR hT => ?_) (fun hno _ => fun hc => absurd hc hno)
 exact does_loadD (o := 0) (n := 4) (mid := [w32 ((reachO msg one).1).a, w32 ((reachO msg one).1).b, w32 ((reachO msg one).1).c, w32 ((reachO msg one).1).d]) ((hO 7 rfl).trans s7_10) (hbb7_10.ext' hR) rfl rfl (Nat.le_of_ble_eq_true rfl) row_27 rfl ⟨Ext.refl _, fun _ => rfl⟩
 refine Ask.guarded (B := (reachO msg one).2) (want := true) (t := 32) rfl rfl rfl rfl (by decide) (fun aq wq hO hR hT => hT 32 rfl rfl) (fun hG aq wq hNq hO hR hT => ?_) (fun hno _ => fun hc => absurd hc hno)
 exact does_field (o' := 2) fld_57_2 ((hO 5 rfl).trans s5_10) rfl ⟨Ext.refl _, fun _ => rfl⟩
 refine Ask.guarded (B := (reachO msg one).2) (want := true) (t := 32) rfl rfl rfl rfl (by decide) (fun aq wq hO hR hT => hT 32 rfl rfl) (fun hG aq wq hNq hO hR hT => ?_) (fun hno _ => fun hc => absurd hc hno)
 exact does_loadD1 (o := 2) (V := x2) (hT 38 rfl rfl hG) (hbb5_10.ext' hR) rfl one_41 ⟨Ext.refl _, fun _ => rfl⟩
 refine Ask.guarded (B := (reachO msg one).2) (want := true) (t := 32) rfl rfl rfl rfl (by decide) (fun aq wq hO hR hT => hT 32 rfl rfl) (fun hG aq wq hNq hO hR hT => ?_) (fun hno _ => fun hc => absurd hc hno)
 exact does_ret (vs := #[Dg.val (pub), i64 ((pw k : Nat) : Int), i64 (i), Dg.val ((reachO msg one).1), x2]) call_76 (args5 (hT 33 rfl rfl hG) (hT 34 rfl rfl hG) (hT 36 rfl rfl hG) (hT 37 rfl rfl hG) (hT 39 rfl rfl hG)) rfl ((checkR (pub) (((pw k : Nat) : Int)) (i) ((reachO msg one).1) (path) (x2) wq ((hsx2_10.ext' hR).wide (Nat.zero_le _) (.inl rfl)) hpn).mono fun v w2 h => ⟨h.2, fun _ => h.1⟩)
 exact Ask.plain rfl rfl fun aq wq hNq hO hR hT => does_and (B := (reachO msg one).2) (X := checks pub (((pw k : Nat) : Int)) (i) ((reachO msg one).1) path) (hT 32 rfl rfl) (fun hB => (hT 40 rfl rfl hB)) rfl ⟨Ext.refl _, rfl⟩
 exact Ask.plain rfl rfl fun aq wq hNq hO hR hT => does_assign (V := Value.bool (((reachO msg one).2) && (checks pub (((pw k : Nat) : Int)) (i) ((reachO msg one).1) path))) (hT 41 rfl rfl) ⟨Ext.refl _, rfl⟩
 intro a15 wd15 hN_15 hD_15 hO hR hA hU
 obtain ⟨_, _, _, _, _, _, _, _, _, _, _, t6, _⟩ := hA
 have hE_15 := hE_10.trans hR
 have hbb3_15 := hbb3_10.ext' hR
 have hbb4_15 := hbb4_10.ext' hR
 have hbb5_15 := hbb5_10.ext' hR
 have hbb7_15 := hbb7_10.ext' hR
 have hsx1_15 := hsx1_10.ext' hR
 have hsx2_15 := hsx2_10.ext' hR
 have s6_15 : get a15 6 = Value.bool (((reachO msg one).2) && (checks pub (((pw k : Nat) : Int)) (i) ((reachO msg one).1) path)) := t6
 clear hE_10 hN_10 hD_10 s3_10 s5_10 s7_10 s8_10 s9_10 s10_10 s26_10 hbb3_10 hbb4_10 hbb5_10 hbb7_10 hsx1_10 hsx2_10
 refine tail_nil ?_
 refine wp_ret ?_
 refine res_one (V := Value.bool (((reachO msg one).2) && (checks pub (((pw k : Nat) : Int)) (i) ((reachO msg one).1) path))) rfl hD_15 s6_15 ?_
 subst hkp
 exact ⟨by show Value.bool _ = Value.bool _; rw [keyCheck_yes hp4], hE_15⟩

end Go.Proofs.YtijfjpbahepegaaDoor
