/- The walks of functions of the program: printed. -/
import Derived.Test.YtaeohnkfmachfabDoorK
import Derived.Test.YtaeohnkfmachfabDoorG3
import Derived.Test.YtaeohnkfmachfabDoorF0
set_option maxRecDepth 100000
namespace Go.Proofs.YtaeohnkfmachfabDoor
open Go Go.RowKit Sk Sd
theorem steps_ (m : Dg) (w0 : World) :
    Gives Tryd.prog 32 #[Dg.val (m)] w0 (Pr.own' NI w0.heap.size 3 (steps m)) := by
 refine enter (N := 43) Tryd.func32 rfl rfl ?_
 intro a0 hN_0 hD_0 hA
 have s0_0 : get a0 0 = Dg.val (m) := hA 0 _ rfl
 clear hA
 have hE_0 : Ext w0 w0 := Ext.refl w0
 refine wp_seq ?_
 refine region_lex [1] [(1, Pr.box' w0.heap.size 24 [w32 (m).a, w32 (m).b, w32 (m).c, w32 (m).d]), (2, Pr.ex (Value.slice none 0 0))] 2 hN_0 hD_0 (by kernel_rfl) (by kernel_rfl) ?_ ?_
 refine Asks.cons ?_ (Asks.cons ?_ (Asks.zero _))
 refine Ask.fresh rfl rfl ?_
 intro aq wq hNq hO hR hT
 exact does_box (V := Dg.val (m)) ((hO 0 rfl).trans s0_0) (fun b w2 he hlo hb => ⟨he, ⟨b, rfl, Nat.le_trans hR.size' hlo, hb⟩, ⟨b, rfl, hlo, hb.lt⟩⟩)
 exact Ask.plain rfl rfl fun aq wq hNq hO hR hT => does_assign (V := Value.slice none 0 0) rfl ⟨Ext.refl _, rfl⟩
 intro a1 wd1 hN_1 hD_1 hO hR hA hU
 obtain ⟨t1, _, _⟩ := hA
 have hE_1 := hE_0.trans hR
 obtain ⟨b1, s1_1, lo_b1, hbb1_1⟩ := t1
 have fr_b1 : w0.heap.size ≤ b1 := Nat.le_trans hE_0.size' lo_b1
 clear hE_0 hN_0 hD_0 s0_0
 refine tail_nil ?_
 refine wp_seq ?_
 refine region_lex [] [(9, Pr.own' NI wd1.heap.size 3 ([])), (3, Pr.own' NI wd1.heap.size 3 ([]))] 2 hN_1 hD_1 (by kernel_rfl) (by kernel_rfl) ?_ ?_
 refine Asks.cons ?_ (Asks.cons ?_ (Asks.zero _))
 exact Ask.plain rfl rfl fun aq wq hNq hO hR hT => does_make0 (T := NI) (c := 35) app_61 rfl rfl rfl (by omega) (by unfold maxLen; omega) (fun v w2 he _ ho => ⟨he, OwnT.base ho hR.size'⟩)
 exact Ask.plain rfl rfl fun aq wq hNq hO hR hT => does_assign rfl ⟨Ext.refl _, (hT 9 rfl rfl)⟩
 intro a2 wd2 hN_2 hD_2 hO hR hA hU
 obtain ⟨_, t3, _⟩ := hA
 have hE_2 := hE_1.trans hR
 have s1_2 := (hO 1 rfl).trans s1_1
 have hbb1_2 := hbb1_1.ext' hR
 obtain ⟨x3, s3_2⟩ : ∃ x, get a2 3 = x := ⟨_, rfl⟩
 replace t3 : OwnT NI wd1.heap.size 3 ([]) x3 wd2 := by rw [← s3_2]; exact t3
 have nbo_x3_b1 : x3.ownBlock ≠ some b1 := fun e => Nat.lt_irrefl _ (Nat.lt_of_lt_of_le hbb1_1.lt (OwnT.block_lt t3 e).1)
 have hsx3_2 := t3.sl.wide (Nat.zero_le _) (.inl rfl)
 have hox3_2 := OwnT.base t3 hE_1.size'
 clear hE_1 hN_1 hD_1 s1_1 hbb1_1
 refine tail_nil ?_
 refine wp_seq ?_
 refine region_lex [] [(4, Pr.ex (i64 ((0 : Nat) : Int)))] 1 hN_2 hD_2 (by kernel_rfl) (by kernel_rfl) ?_ ?_
 refine Asks.cons ?_ (Asks.zero _)
 exact Ask.plain rfl rfl fun aq wq hNq hO hR hT => does_assign (V := i64 ((0 : Nat) : Int)) rfl ⟨Ext.refl _, rfl⟩
 intro a3 wd3 hN_3 hD_3 hO hR hA hU
 obtain ⟨t4, _⟩ := hA
 have hE_3 := hE_2.trans hR
 have s1_3 := (hO 1 rfl).trans s1_2
 have s3_3 := (hO 3 rfl).trans s3_2
 have hbb1_3 := hbb1_2.ext' hR
 have hsx3_3 := hsx3_2.ext' hR
 have hox3_3 := hox3_2.ext' hR
 have s4_3 : get a3 4 = i64 ((0 : Nat) : Int) := t4
 clear hE_2 hN_2 hD_2 s1_2 s3_2 hbb1_2 hsx3_2 hox3_2
 refine tail_nil ?_
 refine wp_seq ?_
 refine wp_seq ?_
 refine region_lex [] [(10, Pr.ex (Dg.val (m))), (11, Pr.ex (i64 ((0 : Nat) : Int)))] 2 hN_3 hD_3 (by kernel_rfl) (by kernel_rfl) ?_ ?_
 refine Asks.cons ?_ (Asks.cons ?_ (Asks.zero _))
 exact Ask.plain rfl rfl fun aq wq hNq hO hR hT => does_loadD (o := 0) (n := 4) (mid := [w32 (m).a, w32 (m).b, w32 (m).c, w32 (m).d]) ((hO 1 rfl).trans s1_3) (hbb1_3.ext' hR) rfl rfl (Nat.le_of_ble_eq_true rfl) row_24 rfl ⟨Ext.refl _, rfl⟩
 exact Ask.plain rfl rfl fun aq wq hNq hO hR hT => does_move (V := i64 ((0 : Nat) : Int)) rfl ⟨Ext.refl _, rfl⟩
 intro a4 wd4 hN_4 hD_4 hO hR hA hU
 obtain ⟨t10, t11, _⟩ := hA
 have hE_4 := hE_3.trans hR
 have s3_4 := (hO 3 rfl).trans s3_3
 have s4_4 := (hO 4 rfl).trans s4_3
 have hbb1_4 := hbb1_3.ext' hR
 have hsx3_4 := hsx3_3.ext' hR
 have hox3_4 := hox3_3.ext' hR
 have s10_4 : get a4 10 = Dg.val (m) := t10
 have s11_4 : get a4 11 = i64 ((0 : Nat) : Int) := t11
 clear hE_3 hN_3 hD_3 s1_3 s3_3 s4_3 hbb1_3 hsx3_3 hox3_3
 refine tail_nil ?_
 refine wp_block ?_
 refine loop_g (fun mz az wz => ∃ k : Nat, ∃ xo : Value, mz = 4 - k ∧ (az.tmps.size = 43) ∧ (az.defers = []) ∧ (get az 3 = xo) ∧ (get az 4 = i64 ((lacks ((digits m).take (8 * k)) : Nat) : Int)) ∧ (get az 10 = Dg.val (m)) ∧ (get az 11 = i64 ((k : Nat) : Int)) ∧ (Ext w0 wz) ∧ (Has wz b1 24 [w32 (m).a, w32 (m).b, w32 (m).c, w32 (m).d]) ∧ (OwnT NI w0.heap.size 3 ((digits m).take (8 * k)) xo wz) ∧ (xo.ownBlock ≠ some b1) ∧ (k ≤ 4)) ?_ ?_
 exact ⟨_, 0, x3, rfl, hN_4, hD_4, s3_4, s4_4, s10_4, s11_4, hE_4, hbb1_4, hox3_4, nbo_x3_b1, Nat.zero_le _⟩
 rintro mz a5 wd5 ⟨k, xo, rfl, hN_5, hD_5, s3_5, s4_5, s10_5, s11_5, hE_5, hbb1_5, hoxo_5, nbo_xo_b1, hk⟩
 have hsxo_5 := hoxo_5.sl.wide (Nat.zero_le _) (.inl rfl)
 refine wp_seq ?_
 refine region_lex [] [(12, Pr.ex (Value.bool (decide (((k : Nat) : Int) < ((4 : Nat) : Int)))))] 1 hN_5 hD_5 (by kernel_rfl) (by kernel_rfl) ?_ ?_
 refine Asks.cons ?_ (Asks.zero _)
 exact Ask.plain rfl rfl fun aq wq hNq hO hR hT => does_lss (a := ((k : Nat) : Int)) (b := ((4 : Nat) : Int)) ((hO 11 rfl).trans s11_5) rfl ⟨Ext.refl _, rfl⟩
 intro a6 wd6 hN_6 hD_6 hO hR hA hU
 obtain ⟨t12, _⟩ := hA
 have hE_6 := hE_5.trans hR
 have s3_6 := (hO 3 rfl).trans s3_5
 have s4_6 := (hO 4 rfl).trans s4_5
 have s10_6 := (hO 10 rfl).trans s10_5
 have s11_6 := (hO 11 rfl).trans s11_5
 have hbb1_6 := hbb1_5.ext' hR
 have hsxo_6 := hsxo_5.ext' hR
 have hoxo_6 := hoxo_5.ext' hR
 have s12_6 : get a6 12 = Value.bool (decide (((k : Nat) : Int) < ((4 : Nat) : Int))) := t12
 clear hE_5 hN_5 hD_5 s3_5 s4_5 s10_5 s11_5 hbb1_5 hsxo_5 hoxo_5
 refine tail_nil ?_
 refine wp_seq ?_
 refine wp_if (B := decide (((k : Nat) : Int) < ((4 : Nat) : Int))) s12_6 (fun hc0 => ?_) (fun hc0 => ?_)
 have hc0 := of_decide_eq_true hc0
 have hk4 : k < 4 := by omega
 refine wp_skip ?_
 refine wp_seq ?_
 refine wp_block ?_
 refine wp_seq ?_
 refine region_lex [] [(13, Pr.ex (w32 (Dg.at m k))), (6, Pr.ex (w32 (Dg.at m k)))] 2 hN_6 hD_6 (by kernel_rfl) (by kernel_rfl) ?_ ?_
 refine Asks.cons ?_ (Asks.cons ?_ (Asks.zero _))
 exact Ask.plain rfl rfl fun aq wq hNq hO hR hT => does_indexDg (m := m) (i := ((k : Nat) : Int)) arr_24 one_22 ((hO 10 rfl).trans s10_6) ((hO 11 rfl).trans s11_6) (by omega) (by omega) ⟨Ext.refl _, rfl⟩
 exact Ask.plain rfl rfl fun aq wq hNq hO hR hT => does_assign (V := w32 (Dg.at m k)) (hT 13 rfl rfl) ⟨Ext.refl _, rfl⟩
 intro a7 wd7 hN_7 hD_7 hO hR hA hU
 obtain ⟨_, t6, _⟩ := hA
 have hE_7 := hE_6.trans hR
 have s3_7 := (hO 3 rfl).trans s3_6
 have s4_7 := (hO 4 rfl).trans s4_6
 have s10_7 := (hO 10 rfl).trans s10_6
 have s11_7 := (hO 11 rfl).trans s11_6
 have hbb1_7 := hbb1_6.ext' hR
 have hsxo_7 := hsxo_6.ext' hR
 have hoxo_7 := hoxo_6.ext' hR
 have s6_7 : get a7 6 = w32 (Dg.at m k) := t6
 clear hE_6 hN_6 hD_6 s3_6 s4_6 s10_6 s11_6 s12_6 hbb1_6 hsxo_6 hoxo_6
 refine tail_nil ?_
 refine wp_seq ?_
 refine region_lex [] [(7, Pr.ex (i64 ((28 : Nat) : Int)))] 1 hN_7 hD_7 (by kernel_rfl) (by kernel_rfl) ?_ ?_
 refine Asks.cons ?_ (Asks.zero _)
 exact Ask.plain rfl rfl fun aq wq hNq hO hR hT => does_assign (V := i64 ((28 : Nat) : Int)) rfl ⟨Ext.refl _, rfl⟩
 intro a8 wd8 hN_8 hD_8 hO hR hA hU
 obtain ⟨t7, _⟩ := hA
 have hE_8 := hE_7.trans hR
 have s3_8 := (hO 3 rfl).trans s3_7
 have s4_8 := (hO 4 rfl).trans s4_7
 have s6_8 := (hO 6 rfl).trans s6_7
 have s10_8 := (hO 10 rfl).trans s10_7
 have s11_8 := (hO 11 rfl).trans s11_7
 have hbb1_8 := hbb1_7.ext' hR
 have hsxo_8 := hsxo_7.ext' hR
 have hoxo_8 := hoxo_7.ext' hR
 have s7_8 : get a8 7 = i64 ((28 : Nat) : Int) := t7
 clear hE_7 hN_7 hD_7 s3_7 s4_7 s6_7 s10_7 s11_7 hbb1_7 hsxo_7 hoxo_7
 refine tail_nil ?_
 refine wp_block ?_
 refine loop_g (fun mz az wz => ∃ j : Nat, ∃ xp : Value, mz = 8 - j ∧ (az.tmps.size = 43) ∧ (az.defers = []) ∧ (get az 3 = xp) ∧ (get az 4 = i64 ((lacks ((digits m).take (8 * k + j)) : Nat) : Int)) ∧ (get az 6 = w32 (Dg.at m k)) ∧ (get az 7 = i64 (28 - 4 * ((j : Nat) : Int))) ∧ (get az 10 = Dg.val (m)) ∧ (get az 11 = i64 ((k : Nat) : Int)) ∧ (Ext w0 wz) ∧ (Has wz b1 24 [w32 (m).a, w32 (m).b, w32 (m).c, w32 (m).d]) ∧ (OwnT NI w0.heap.size 3 ((digits m).take (8 * k + j)) xp wz) ∧ (xp.ownBlock ≠ some b1) ∧ (j ≤ 8)) ?_ ?_
 exact ⟨_, 0, xo, rfl, hN_8, hD_8, s3_8, s4_8, s6_8, s7_8, s10_8, s11_8, hE_8, hbb1_8, hoxo_8, nbo_xo_b1, Nat.zero_le _⟩
 rintro mz a9 wd9 ⟨j, xp, rfl, hN_9, hD_9, s3_9, s4_9, s6_9, s7_9, s10_9, s11_9, hE_9, hbb1_9, hoxp_9, nbo_xp_b1, hj⟩
 have hsxp_9 := hoxp_9.sl.wide (Nat.zero_le _) (.inl rfl)
 refine wp_seq ?_
 refine wp_seq ?_
 refine region_lex [] [(14, Pr.ex (i64 (28 - 4 * ((j : Nat) : Int)))), (15, Pr.ex (Value.bool (decide (((0 : Nat) : Int) ≤ 28 - 4 * ((j : Nat) : Int)))))] 2 hN_9 hD_9 (by kernel_rfl) (by kernel_rfl) ?_ ?_
 refine Asks.cons ?_ (Asks.cons ?_ (Asks.zero _))
 exact Ask.plain rfl rfl fun aq wq hNq hO hR hT => does_move (V := i64 (28 - 4 * ((j : Nat) : Int))) ((hO 7 rfl).trans s7_9) ⟨Ext.refl _, rfl⟩
 exact Ask.plain rfl rfl fun aq wq hNq hO hR hT => does_geq (a := 28 - 4 * ((j : Nat) : Int)) (b := ((0 : Nat) : Int)) (hT 14 rfl rfl) rfl ⟨Ext.refl _, rfl⟩
 intro a10 wd10 hN_10 hD_10 hO hR hA hU
 obtain ⟨_, t15, _⟩ := hA
 have hE_10 := hE_9.trans hR
 have s3_10 := (hO 3 rfl).trans s3_9
 have s4_10 := (hO 4 rfl).trans s4_9
 have s6_10 := (hO 6 rfl).trans s6_9
 have s7_10 := (hO 7 rfl).trans s7_9
 have s10_10 := (hO 10 rfl).trans s10_9
 have s11_10 := (hO 11 rfl).trans s11_9
 have hbb1_10 := hbb1_9.ext' hR
 have hsxp_10 := hsxp_9.ext' hR
 have hoxp_10 := hoxp_9.ext' hR
 have s15_10 : get a10 15 = Value.bool (decide (((0 : Nat) : Int) ≤ 28 - 4 * ((j : Nat) : Int))) := t15
 clear hE_9 hN_9 hD_9 s3_9 s4_9 s6_9 s7_9 s10_9 s11_9 hbb1_9 hsxp_9 hoxp_9
 refine tail_nil ?_
 refine wp_if (B := decide (((0 : Nat) : Int) ≤ 28 - 4 * ((j : Nat) : Int))) s15_10 (fun hc1 => ?_) (fun hc1 => ?_)
 have hc1 := of_decide_eq_true hc1
 have hj8 : j < 8 := by omega
 have hdl := dig_le m k j
 have hls := lacks_small m (8 * k + j)
 have hls2 := lacks_dig m hk4 hj8
 have hls3 := lacks_small m (8 * k + (j + 1))
 refine wp_skip ?_
 refine wp_seq ?_
 refine wp_block ?_
 refine wp_seq ?_
 refine region_lex [] [(18, Pr.ex (w32 (Dg.at m k))), (19, Pr.ex (i64 (28 - 4 * ((j : Nat) : Int)))), (20, Pr.ex (w32 (UInt32.ofNat ((Dg.at m k).toNat / 2 ^ (28 - 4 * j))))), (21, Pr.ex (Value.int .u32 (((dig m k j : Nat) : Int)))), (22, Pr.ex (i64 ((dig m k j : Nat) : Int))), (8, Pr.ex (i64 ((dig m k j : Nat) : Int)))] 6 hN_10 hD_10 (by kernel_rfl) (by kernel_rfl) ?_ ?_
 refine Asks.cons ?_ (Asks.cons ?_ (Asks.cons ?_ (Asks.cons ?_ (Asks.cons ?_ (Asks.cons ?_ (Asks.zero _))))))
 exact Ask.plain rfl rfl fun aq wq hNq hO hR hT => does_move (V := w32 (Dg.at m k)) ((hO 6 rfl).trans s6_10) ⟨Ext.refl _, rfl⟩
 exact Ask.plain rfl rfl fun aq wq hNq hO hR hT => does_move (V := i64 (28 - 4 * ((j : Nat) : Int))) ((hO 7 rfl).trans s7_10) ⟨Ext.refl _, rfl⟩
 exact Ask.plain rfl rfl fun aq wq hNq hO hR hT => does_shr32 (b := 28 - 4 * j) (hT 18 rfl rfl) ((hT 19 rfl rfl).trans (congrArg (Value.int .i64) (by omega))) (by omega) ⟨Ext.refl _, rfl⟩
 exact Ask.plain rfl rfl fun aq wq hNq hO hR hT => does_band (r := ((dig m k j : Nat) : Int)) (hT 20 rfl rfl) rfl (by rw [u32_div, and15_32 _ (by have h1 := (Dg.at m k).toNat_lt; have h2 := Nat.div_le_self (Dg.at m k).toNat (2 ^ (28 - 4 * j)); omega)]; rfl) ⟨Ext.refl _, rfl⟩
 exact Ask.plain rfl rfl fun aq wq hNq hO hR hT => does_conv ⟨_, Tryd.underlying22⟩ Tryd.underlying3 (hT 21 rfl rfl) (IntWalk.i64_in _ ⟨by have := dig_le m k j; omega, by have := dig_le m k j; omega⟩) ⟨Ext.refl _, rfl⟩
 exact Ask.plain rfl rfl fun aq wq hNq hO hR hT => does_assign (V := i64 ((dig m k j : Nat) : Int)) (hT 22 rfl rfl) ⟨Ext.refl _, rfl⟩
 intro a11 wd11 hN_11 hD_11 hO hR hA hU
 obtain ⟨_, _, _, _, _, t8, _⟩ := hA
 have hE_11 := hE_10.trans hR
 have s3_11 := (hO 3 rfl).trans s3_10
 have s4_11 := (hO 4 rfl).trans s4_10
 have s6_11 := (hO 6 rfl).trans s6_10
 have s7_11 := (hO 7 rfl).trans s7_10
 have s10_11 := (hO 10 rfl).trans s10_10
 have s11_11 := (hO 11 rfl).trans s11_10
 have hbb1_11 := hbb1_10.ext' hR
 have hsxp_11 := hsxp_10.ext' hR
 have hoxp_11 := hoxp_10.ext' hR
 have s8_11 : get a11 8 = i64 ((dig m k j : Nat) : Int) := t8
 clear hE_10 hN_10 hD_10 s3_10 s4_10 s6_10 s7_10 s10_10 s11_10 s15_10 hbb1_10 hsxp_10 hoxp_10
 refine tail_nil ?_
 refine wp_seq ?_
 refine region_lex [] [(23, Pr.ex (xp)), (24, Pr.ex (i64 ((dig m k j : Nat) : Int))), (25, Pr.own' NI wd11.heap.size 3 ([dig m k j]))] 3 hN_11 hD_11 (by kernel_rfl) (by kernel_rfl) ?_ ?_
 refine Asks.cons ?_ (Asks.cons ?_ (Asks.cons ?_ (Asks.zero _)))
 exact Ask.plain rfl rfl fun aq wq hNq hO hR hT => does_move (V := xp) ((hO 3 rfl).trans s3_11) ⟨Ext.refl _, rfl⟩
 exact Ask.plain rfl rfl fun aq wq hNq hO hR hT => does_move (V := i64 ((dig m k j : Nat) : Int)) ((hO 8 rfl).trans s8_11) ⟨Ext.refl _, rfl⟩
 exact Ask.plain rfl rfl fun aq wq hNq hO hR hT => does_slice1 (T := NI) (X := dig m k j) (V := i64 ((dig m k j : Nat) : Int)) app_61 rfl (by decide) (hT 24 rfl rfl) rfl (fun v w2 he _ ho => ⟨he, OwnT.base ho hR.size'⟩)
 intro a12 wd12 hN_12 hD_12 hO hR hA hU
 obtain ⟨t23, _, t25, _⟩ := hA
 have hE_12 := hE_11.trans hR
 have s3_12 := (hO 3 rfl).trans s3_11
 have s4_12 := (hO 4 rfl).trans s4_11
 have s6_12 := (hO 6 rfl).trans s6_11
 have s7_12 := (hO 7 rfl).trans s7_11
 have s8_12 := (hO 8 rfl).trans s8_11
 have s10_12 := (hO 10 rfl).trans s10_11
 have s11_12 := (hO 11 rfl).trans s11_11
 have hbb1_12 := hbb1_11.ext' hR
 have hsxp_12 := hsxp_11.ext' hR
 have hoxp_12 := hoxp_11.ext' hR
 have s23_12 : get a12 23 = xp := t23
 obtain ⟨x25, s25_12⟩ : ∃ x, get a12 25 = x := ⟨_, rfl⟩
 replace t25 : OwnT NI wd11.heap.size 3 ([dig m k j]) x25 wd12 := by rw [← s25_12]; exact t25
 have nbo_x25_b1 : x25.ownBlock ≠ some b1 := fun e => Nat.lt_irrefl _ (Nat.lt_of_lt_of_le hbb1_11.lt (OwnT.block_lt t25 e).1)
 have no_x25_xp : ∀ k, x25.ownBlock = some k → xp.ownBlock ≠ some k := fun k e e' => Nat.lt_irrefl _ (Nat.lt_of_lt_of_le (OwnT.block_lt hoxp_11 e').2 (OwnT.block_lt t25 e).1)
 have hsx25_12 := t25.sl.wide (Nat.zero_le _) (.inl rfl)
 have hox25_12 := OwnT.base t25 hE_11.size'
 clear hE_11 hN_11 hD_11 s3_11 s4_11 s6_11 s7_11 s8_11 s10_11 s11_11 hbb1_11 hsxp_11 hoxp_11
 refine tail_put rfl rfl hN_12 hD_12 (by decide) (does_append (T := NI) (base := w0.heap.size) (xs := (digits m).take (8 * k + j)) (ys := [dig m k j]) (v := xp) app_61 s23_12 hoxp_12 (SlT.at s25_12 hsx25_12) (by simp) (by simp only [List.length_take, List.length_cons, List.length_nil, digits_length]; omega) (by simp only [List.length_take, List.length_cons, List.length_nil, digits_length]; omega) hE_12.size' (fun x26 wd13 hX hox26_13 hk a13 hN_13 hD_13 hv hO => ?_))
 have hE_13 := hE_12.since hX (fun b hb => Nat.le_trans (Nat.le_refl _) (OwnT.block_lt hoxp_12 hb).1)
 have hbb1_13 := hbb1_12.ext hX nbo_xp_b1
 have nbo_x26_b1 : x26.ownBlock ≠ some b1 := fun e => (hk _ e).elim nbo_xp_b1 (fun h => Nat.lt_irrefl _ (Nat.lt_of_lt_of_le hbb1_12.lt h))
 have hox25_13 := OwnT.ext hox25_12 hX (fun k hk e => no_x25_xp k hk e)
 have no_x26_x25 : ∀ k, x26.ownBlock = some k → x25.ownBlock ≠ some k := fun k e e' => (hk k e).elim (fun h => no_x25_xp k e' h) (fun h => Nat.lt_irrefl _ (Nat.lt_of_lt_of_le (OwnT.block_lt hox25_12 e').2 h))
 have hsx25_13 := hox25_13.sl.wide (Nat.zero_le _) (.inl rfl)
 have hsx26_13 := hox26_13.sl.wide (Nat.zero_le _) (.inl rfl)
 rw [take_dig m hk4 hj8] at hox26_13 hsx26_13
 have s26_13 := hv
 have s3_13 := (hO 3 rfl).trans s3_12
 have s4_13 := (hO 4 rfl).trans s4_12
 have s6_13 := (hO 6 rfl).trans s6_12
 have s7_13 := (hO 7 rfl).trans s7_12
 have s8_13 := (hO 8 rfl).trans s8_12
 have s10_13 := (hO 10 rfl).trans s10_12
 have s11_13 := (hO 11 rfl).trans s11_12
 clear hO hv hX hk hN_12 hD_12 hE_12 hbb1_12 hox25_12 s3_12 s4_12 s6_12 s7_12 s8_12 s10_12 s11_12 s23_12 s25_12
 refine tail_put rfl rfl hN_13 hD_13 (by decide) (does_assign (V := x26) s26_13 (fun a14 hN_14 hD_14 hv hO => ?_))
 have s3_14 := hv
 have s4_14 := (hO 4 rfl).trans s4_13
 have s6_14 := (hO 6 rfl).trans s6_13
 have s7_14 := (hO 7 rfl).trans s7_13
 have s8_14 := (hO 8 rfl).trans s8_13
 have s10_14 := (hO 10 rfl).trans s10_13
 have s11_14 := (hO 11 rfl).trans s11_13
 clear hO hv hN_13 hD_13 s4_13 s6_13 s7_13 s8_13 s10_13 s11_13 s26_13 s3_13
 refine tail_nil ?_
 refine region_lex [] [(27, Pr.ex (i64 ((lacks ((digits m).take (8 * k + j)) : Nat) : Int))), (28, Pr.ex (i64 ((dig m k j : Nat) : Int))), (29, Pr.ex (i64 ((15 - (dig m k j) : Nat) : Int))), (30, Pr.ex (i64 (((lacks ((digits m).take (8 * k + j))) + (15 - (dig m k j)) : Nat) : Int)))] 4 hN_14 hD_14 (by kernel_rfl) (by kernel_rfl) ?_ ?_
 refine Asks.cons ?_ (Asks.cons ?_ (Asks.cons ?_ (Asks.cons ?_ (Asks.zero _))))
 exact Ask.plain rfl rfl fun aq wq hNq hO hR hT => does_move (V := i64 ((lacks ((digits m).take (8 * k + j)) : Nat) : Int)) ((hO 4 rfl).trans s4_14) ⟨Ext.refl _, rfl⟩
 exact Ask.plain rfl rfl fun aq wq hNq hO hR hT => does_move (V := i64 ((dig m k j : Nat) : Int)) ((hO 8 rfl).trans s8_14) ⟨Ext.refl _, rfl⟩
 exact Ask.plain rfl rfl fun aq wq hNq hO hR hT => does_sub (a := ((15 : Nat) : Int)) (b := ((dig m k j : Nat) : Int)) (r := ((15 - (dig m k j) : Nat) : Int)) rfl (hT 28 rfl rfl) (by omega) (by omega) (by omega) ⟨Ext.refl _, rfl⟩
 exact Ask.plain rfl rfl fun aq wq hNq hO hR hT => does_add (a := ((lacks ((digits m).take (8 * k + j)) : Nat) : Int)) (b := ((15 - (dig m k j) : Nat) : Int)) (r := (((lacks ((digits m).take (8 * k + j))) + (15 - (dig m k j)) : Nat) : Int)) (hT 27 rfl rfl) (hT 29 rfl rfl) (by omega) (by omega) (by omega) ⟨Ext.refl _, rfl⟩
 intro a15 wd15 hN_15 hD_15 hO hR hA hU
 obtain ⟨_, _, _, t30, _⟩ := hA
 have hE_15 := hE_13.trans hR
 have s3_15 := (hO 3 rfl).trans s3_14
 have s4_15 := (hO 4 rfl).trans s4_14
 have s6_15 := (hO 6 rfl).trans s6_14
 have s7_15 := (hO 7 rfl).trans s7_14
 have s10_15 := (hO 10 rfl).trans s10_14
 have s11_15 := (hO 11 rfl).trans s11_14
 have hbb1_15 := hbb1_13.ext' hR
 have hsx25_15 := hsx25_13.ext' hR
 have hsx26_15 := hsx26_13.ext' hR
 have hox25_15 := hox25_13.ext' hR
 have hox26_15 := hox26_13.ext' hR
 have s30_15 : get a15 30 = i64 (((lacks ((digits m).take (8 * k + j))) + (15 - (dig m k j)) : Nat) : Int) := t30
 clear hE_13 hN_14 hD_14 s3_14 s4_14 s6_14 s7_14 s8_14 s10_14 s11_14 hbb1_13 hsx25_13 hsx26_13 hox25_13 hox26_13
 refine tail_put rfl rfl hN_15 hD_15 (by decide) (does_assign (V := i64 (((lacks ((digits m).take (8 * k + j))) + (15 - (dig m k j)) : Nat) : Int)) s30_15 (fun a16 hN_16 hD_16 hv hO => ?_))
 have s4_16 := hv
 have s3_16 := (hO 3 rfl).trans s3_15
 have s6_16 := (hO 6 rfl).trans s6_15
 have s7_16 := (hO 7 rfl).trans s7_15
 have s10_16 := (hO 10 rfl).trans s10_15
 have s11_16 := (hO 11 rfl).trans s11_15
 clear hO hv hN_15 hD_15 s3_15 s6_15 s7_15 s10_15 s11_15 s30_15 s4_15
 refine tail_nil ?_
 refine region_lex [] [(16, Pr.ex (i64 (28 - 4 * ((j : Nat) : Int)))), (17, Pr.ex (i64 ((28 - 4 * ((j : Nat) : Int)) - (((4 : Nat) : Int)))))] 2 hN_16 hD_16 (by kernel_rfl) (by kernel_rfl) ?_ ?_
 refine Asks.cons ?_ (Asks.cons ?_ (Asks.zero _))
 exact Ask.plain rfl rfl fun aq wq hNq hO hR hT => does_move (V := i64 (28 - 4 * ((j : Nat) : Int))) ((hO 7 rfl).trans s7_16) ⟨Ext.refl _, rfl⟩
 exact Ask.plain rfl rfl fun aq wq hNq hO hR hT => does_sub (a := 28 - 4 * ((j : Nat) : Int)) (b := ((4 : Nat) : Int)) (r := (28 - 4 * ((j : Nat) : Int)) - (((4 : Nat) : Int))) (hT 16 rfl rfl) rfl rfl (by omega) (by omega) ⟨Ext.refl _, rfl⟩
 intro a17 wd17 hN_17 hD_17 hO hR hA hU
 obtain ⟨_, t17, _⟩ := hA
 have hE_17 := hE_15.trans hR
 have s3_17 := (hO 3 rfl).trans s3_16
 have s4_17 := (hO 4 rfl).trans s4_16
 have s6_17 := (hO 6 rfl).trans s6_16
 have s7_17 := (hO 7 rfl).trans s7_16
 have s10_17 := (hO 10 rfl).trans s10_16
 have s11_17 := (hO 11 rfl).trans s11_16
 have hbb1_17 := hbb1_15.ext' hR
 have hsx25_17 := hsx25_15.ext' hR
 have hsx26_17 := hsx26_15.ext' hR
 have hox25_17 := hox25_15.ext' hR
 have hox26_17 := hox26_15.ext' hR
 have s17_17 : get a17 17 = i64 ((28 - 4 * ((j : Nat) : Int)) - (((4 : Nat) : Int))) := t17
 clear hE_15 hN_16 hD_16 s3_16 s4_16 s6_16 s7_16 s10_16 s11_16 hbb1_15 hsx25_15 hsx26_15 hox25_15 hox26_15
 refine tail_put rfl rfl hN_17 hD_17 (by decide) (does_assign (V := i64 ((28 - 4 * ((j : Nat) : Int)) - (((4 : Nat) : Int)))) s17_17 (fun a18 hN_18 hD_18 hv hO => ?_))
 have s7_18 := hv
 have s3_18 := (hO 3 rfl).trans s3_17
 have s4_18 := (hO 4 rfl).trans s4_17
 have s6_18 := (hO 6 rfl).trans s6_17
 have s10_18 := (hO 10 rfl).trans s10_17
 have s11_18 := (hO 11 rfl).trans s11_17
 clear hO hv hN_17 hD_17 s3_17 s4_17 s6_17 s10_17 s11_17 s17_17 s7_17
 refine tail_nil ?_
 exact ⟨_, by omega, j + 1, x26, rfl, hN_18, hD_18, s3_18, (by rw [← hls2]; exact s4_18), s6_18, (by rw [s7_18]; congr 1; omega), s10_18, s11_18, hE_17, hbb1_17, hox26_17, nbo_x26_b1, by omega⟩
 have hc1 := of_decide_eq_false hc1
 have hj8 : j = 8 := by omega
 refine wp_exit ?_
 refine region_lex [] [(31, Pr.ex (i64 ((k + 1 : Nat) : Int)))] 1 hN_10 hD_10 (by kernel_rfl) (by kernel_rfl) ?_ ?_
 refine Asks.cons ?_ (Asks.zero _)
 exact Ask.plain rfl rfl fun aq wq hNq hO hR hT => does_add (a := ((k : Nat) : Int)) (b := ((1 : Nat) : Int)) (r := ((k + 1 : Nat) : Int)) ((hO 11 rfl).trans s11_10) rfl (by omega) (by omega) (by omega) ⟨Ext.refl _, rfl⟩
 intro a19 wd19 hN_19 hD_19 hO hR hA hU
 obtain ⟨t31, _⟩ := hA
 have hE_19 := hE_10.trans hR
 have s3_19 := (hO 3 rfl).trans s3_10
 have s4_19 := (hO 4 rfl).trans s4_10
 have s10_19 := (hO 10 rfl).trans s10_10
 have s11_19 := (hO 11 rfl).trans s11_10
 have hbb1_19 := hbb1_10.ext' hR
 have hsxp_19 := hsxp_10.ext' hR
 have hoxp_19 := hoxp_10.ext' hR
 have s31_19 : get a19 31 = i64 ((k + 1 : Nat) : Int) := t31
 clear hE_10 hN_10 hD_10 s3_10 s4_10 s6_10 s7_10 s10_10 s11_10 s15_10 hbb1_10 hsxp_10 hoxp_10
 refine tail_put rfl rfl hN_19 hD_19 (by decide) (does_move (V := i64 ((k + 1 : Nat) : Int)) s31_19 (fun a20 hN_20 hD_20 hv hO => ?_))
 have s11_20 := hv
 have s3_20 := (hO 3 rfl).trans s3_19
 have s4_20 := (hO 4 rfl).trans s4_19
 have s10_20 := (hO 10 rfl).trans s10_19
 clear hO hv hN_19 hD_19 s3_19 s4_19 s10_19 s31_19 s11_19
 refine tail_nil ?_
 exact ⟨_, by omega, k + 1, xp, rfl, hN_20, hD_20, s3_20, (by rw [show 8 * (k + 1) = 8 * k + j by omega]; exact s4_20), s10_20, s11_20, hE_19, hbb1_19, (by rw [show 8 * (k + 1) = 8 * k + j by omega]; exact hoxp_19), nbo_xp_b1, by omega⟩
 have hc0 := of_decide_eq_false hc0
 have hdt := digits_all m (n := 8 * k) (by omega)
 have hda : lacks ((digits m).take (8 * k)) = lacks (digits m) := by rw [hdt]
 have hlt := lacks_small m (8 * k)
 rw [hda] at hlt
 refine wp_exit ?_
 refine wp_seq ?_
 refine region_lex [] [(32, Pr.ex (xo)), (33, Pr.ex (i64 ((lacks ((digits m).take (8 * k)) : Nat) : Int))), (34, Pr.ex (i64 ((lacks (digits m) / 256 : Nat) : Int))), (35, Pr.ex (i64 ((lacks (digits m) / 256 % 16 : Nat) : Int))), (36, Pr.ex (i64 ((lacks ((digits m).take (8 * k)) : Nat) : Int))), (37, Pr.ex (i64 ((lacks (digits m) / 16 : Nat) : Int))), (38, Pr.ex (i64 ((lacks (digits m) / 16 % 16 : Nat) : Int))), (39, Pr.ex (i64 ((lacks ((digits m).take (8 * k)) : Nat) : Int))), (40, Pr.ex (i64 ((lacks (digits m) % 16 : Nat) : Int))), (41, Pr.own' NI wd6.heap.size 3 ([lacks (digits m) / 256 % 16, lacks (digits m) / 16 % 16, lacks (digits m) % 16]))] 10 hN_6 hD_6 (by kernel_rfl) (by kernel_rfl) ?_ ?_
 refine Asks.cons ?_ (Asks.cons ?_ (Asks.cons ?_ (Asks.cons ?_ (Asks.cons ?_ (Asks.cons ?_ (Asks.cons ?_ (Asks.cons ?_ (Asks.cons ?_ (Asks.cons ?_ (Asks.zero _))))))))))
 exact Ask.plain rfl rfl fun aq wq hNq hO hR hT => does_move (V := xo) ((hO 3 rfl).trans s3_6) ⟨Ext.refl _, rfl⟩
 exact Ask.plain rfl rfl fun aq wq hNq hO hR hT => does_move (V := i64 ((lacks ((digits m).take (8 * k)) : Nat) : Int)) ((hO 4 rfl).trans s4_6) ⟨Ext.refl _, rfl⟩
 exact Ask.plain rfl rfl fun aq wq hNq hO hR hT => does_shr (a := ((lacks ((digits m).take (8 * k)) : Nat) : Int)) (b := 8) (r := ((lacks (digits m) / 256 : Nat) : Int)) (hT 33 rfl rfl) rfl (by decide) (by decide) (by rw [hda, show (2 : Int) ^ (8 : Int).toNat = 256 from rfl]; omega) ⟨Ext.refl _, rfl⟩
 exact Ask.plain rfl rfl fun aq wq hNq hO hR hT => does_band (r := ((lacks (digits m) / 256 % 16 : Nat) : Int)) (hT 34 rfl rfl) rfl (and15_64 _ (by omega)) ⟨Ext.refl _, rfl⟩
 exact Ask.plain rfl rfl fun aq wq hNq hO hR hT => does_move (V := i64 ((lacks ((digits m).take (8 * k)) : Nat) : Int)) ((hO 4 rfl).trans s4_6) ⟨Ext.refl _, rfl⟩
 exact Ask.plain rfl rfl fun aq wq hNq hO hR hT => does_shr (a := ((lacks ((digits m).take (8 * k)) : Nat) : Int)) (b := 4) (r := ((lacks (digits m) / 16 : Nat) : Int)) (hT 36 rfl rfl) rfl (by decide) (by decide) (by rw [hda, show (2 : Int) ^ (4 : Int).toNat = 16 from rfl]; omega) ⟨Ext.refl _, rfl⟩
 exact Ask.plain rfl rfl fun aq wq hNq hO hR hT => does_band (r := ((lacks (digits m) / 16 % 16 : Nat) : Int)) (hT 37 rfl rfl) rfl (and15_64 _ (by omega)) ⟨Ext.refl _, rfl⟩
 exact Ask.plain rfl rfl fun aq wq hNq hO hR hT => does_move (V := i64 ((lacks ((digits m).take (8 * k)) : Nat) : Int)) ((hO 4 rfl).trans s4_6) ⟨Ext.refl _, rfl⟩
 exact Ask.plain rfl rfl fun aq wq hNq hO hR hT => does_band (r := ((lacks (digits m) % 16 : Nat) : Int)) (hT 39 rfl rfl) rfl (by rw [hda]; exact and15_64 _ (by omega)) ⟨Ext.refl _, rfl⟩
 exact Ask.plain rfl rfl fun aq wq hNq hO hR hT => does_sliceN (T := NI) (xs := [lacks (digits m) / 256 % 16, lacks (digits m) / 16 % 16, lacks (digits m) % 16]) (vs := [i64 ((lacks (digits m) / 256 % 16 : Nat) : Int), i64 ((lacks (digits m) / 16 % 16 : Nat) : Int), i64 ((lacks (digits m) % 16 : Nat) : Int)]) app_61 rfl (parts3 (hT 35 rfl rfl) (hT 38 rfl rfl) (hT 40 rfl rfl)) rfl (by decide) (by decide) rfl (fun v w2 he _ ho => ⟨he, OwnT.base ho hR.size'⟩)
 intro a21 wd21 hN_21 hD_21 hO hR hA hU
 obtain ⟨t32, _, _, _, _, _, _, _, _, t41, _⟩ := hA
 have hE_21 := hE_6.trans hR
 have hbb1_21 := hbb1_6.ext' hR
 have hsxo_21 := hsxo_6.ext' hR
 have hoxo_21 := hoxo_6.ext' hR
 have s32_21 : get a21 32 = xo := t32
 obtain ⟨x41, s41_21⟩ : ∃ x, get a21 41 = x := ⟨_, rfl⟩
 replace t41 : OwnT NI wd6.heap.size 3 ([lacks (digits m) / 256 % 16, lacks (digits m) / 16 % 16, lacks (digits m) % 16]) x41 wd21 := by rw [← s41_21]; exact t41
 have nbo_x41_b1 : x41.ownBlock ≠ some b1 := fun e => Nat.lt_irrefl _ (Nat.lt_of_lt_of_le hbb1_6.lt (OwnT.block_lt t41 e).1)
 have no_x41_xo : ∀ k, x41.ownBlock = some k → xo.ownBlock ≠ some k := fun k e e' => Nat.lt_irrefl _ (Nat.lt_of_lt_of_le (OwnT.block_lt hoxo_6 e').2 (OwnT.block_lt t41 e).1)
 have hsx41_21 := t41.sl.wide (Nat.zero_le _) (.inl rfl)
 have hox41_21 := OwnT.base t41 hE_6.size'
 clear hE_6 hN_6 hD_6 s3_6 s4_6 s10_6 s11_6 s12_6 hbb1_6 hsxo_6 hoxo_6
 refine tail_put rfl rfl hN_21 hD_21 (by decide) (does_append (T := NI) (base := w0.heap.size) (xs := (digits m).take (8 * k)) (ys := [lacks (digits m) / 256 % 16, lacks (digits m) / 16 % 16, lacks (digits m) % 16]) (v := xo) app_61 s32_21 hoxo_21 (SlT.at s41_21 hsx41_21) (by simp) (by simp only [List.length_take, List.length_cons, List.length_nil, digits_length]; omega) (by simp only [List.length_take, List.length_cons, List.length_nil, digits_length]; omega) hE_21.size' (fun x42 wd22 hX hox42_22 hk a22 hN_22 hD_22 hv hO => ?_))
 have hE_22 := hE_21.since hX (fun b hb => Nat.le_trans (Nat.le_refl _) (OwnT.block_lt hoxo_21 hb).1)
 have hbb1_22 := hbb1_21.ext hX nbo_xo_b1
 have nbo_x42_b1 : x42.ownBlock ≠ some b1 := fun e => (hk _ e).elim nbo_xo_b1 (fun h => Nat.lt_irrefl _ (Nat.lt_of_lt_of_le hbb1_21.lt h))
 have hox41_22 := OwnT.ext hox41_21 hX (fun k hk e => no_x41_xo k hk e)
 have no_x42_x41 : ∀ k, x42.ownBlock = some k → x41.ownBlock ≠ some k := fun k e e' => (hk k e).elim (fun h => no_x41_xo k e' h) (fun h => Nat.lt_irrefl _ (Nat.lt_of_lt_of_le (OwnT.block_lt hox41_21 e').2 h))
 have hsx41_22 := hox41_22.sl.wide (Nat.zero_le _) (.inl rfl)
 have hsx42_22 := hox42_22.sl.wide (Nat.zero_le _) (.inl rfl)
 rw [(show (digits m).take (8 * k) ++ [lacks (digits m) / 256 % 16, lacks (digits m) / 16 % 16, lacks (digits m) % 16] = steps m from by rw [hdt]; rfl)] at hox42_22 hsx42_22
 have s42_22 := hv
 clear hO hv hX hk hN_21 hD_21 hE_21 hbb1_21 hox41_21 s32_21 s41_21
 refine tail_put rfl rfl hN_22 hD_22 (by decide) (does_assign (V := x42) s42_22 (fun a23 hN_23 hD_23 hv hO => ?_))
 have s2_23 := hv
 clear hO hv hN_22 hD_22 s42_22
 refine tail_nil ?_
 refine wp_ret ?_
 refine res_one (V := x42) rfl hD_23 s2_23 ?_
 exact ⟨hox42_22, hE_22⟩

end Go.Proofs.YtaeohnkfmachfabDoor
