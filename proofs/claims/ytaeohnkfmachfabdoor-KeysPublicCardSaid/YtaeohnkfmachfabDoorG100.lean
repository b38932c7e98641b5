/- The walks of functions of the program: printed. -/
import Derived.Test.YtaeohnkfmachfabDoorKB
import Derived.Test.YtaeohnkfmachfabDoorG98
import Derived.Test.YtaeohnkfmachfabDoorF0
set_option maxRecDepth 100000
namespace Go.Proofs.YtaeohnkfmachfabDoor
open Go Go.RowKit Sk Sd
theorem keysR (seed : Dg) (h : Nat) (w0 : World) (hh : h ≤ 4) :
    Gives Tryd.prog 26 #[Dg.val (seed), i64 ((h : Nat) : Int)] w0 (Pr.own' DG w0.heap.size 24 (publics seed (pw h))) := by
 refine enter (N := 29) Tryd.func26 rfl rfl ?_
 intro a0 hN_0 hD_0 hA
 have s0_0 : get a0 0 = Dg.val (seed) := hA 0 _ rfl
 have s1_0 : get a0 1 = i64 ((h : Nat) : Int) := hA 1 _ rfl
 clear hA
 have hE_0 : Ext w0 w0 := Ext.refl w0
 refine wp_seq ?_
 refine region_lex [2] [(2, Pr.box' w0.heap.size 24 [w32 (seed).a, w32 (seed).b, w32 (seed).c, w32 (seed).d]), (4, Pr.ex (Value.slice none 0 0))] 2 hN_0 hD_0 (by kernel_rfl) (by kernel_rfl) ?_ ?_
 refine Asks.cons ?_ (Asks.cons ?_ (Asks.zero _))
 refine Ask.fresh rfl rfl ?_
 intro aq wq hNq hO hR hT
 exact does_box (V := Dg.val (seed)) ((hO 0 rfl).trans s0_0) (fun b w2 he hlo hb => ⟨he, ⟨b, rfl, Nat.le_trans hR.size' hlo, hb⟩, ⟨b, rfl, hlo, hb.lt⟩⟩)
 exact Ask.plain rfl rfl fun aq wq hNq hO hR hT => does_assign (V := Value.slice none 0 0) rfl ⟨Ext.refl _, rfl⟩
 intro a1 wd1 hN_1 hD_1 hO hR hA hU
 obtain ⟨t2, _, _⟩ := hA
 have hE_1 := hE_0.trans hR
 have s1_1 := (hO 1 rfl).trans s1_0
 obtain ⟨b2, s2_1, lo_b2, hbb2_1⟩ := t2
 have fr_b2 : w0.heap.size ≤ b2 := Nat.le_trans hE_0.size' lo_b2
 clear hE_0 hN_0 hD_0 s0_0 s1_0
 refine tail_nil ?_
 refine wp_seq ?_
 refine region_lex [] [(5, Pr.ex (i64 ((1 : Nat) : Int)))] 1 hN_1 hD_1 (by kernel_rfl) (by kernel_rfl) ?_ ?_
 refine Asks.cons ?_ (Asks.zero _)
 exact Ask.plain rfl rfl fun aq wq hNq hO hR hT => does_assign (V := i64 ((1 : Nat) : Int)) rfl ⟨Ext.refl _, rfl⟩
 intro a2 wd2 hN_2 hD_2 hO hR hA hU
 obtain ⟨t5, _⟩ := hA
 have hE_2 := hE_1.trans hR
 have s1_2 := (hO 1 rfl).trans s1_1
 have s2_2 := (hO 2 rfl).trans s2_1
 have hbb2_2 := hbb2_1.ext' hR
 have s5_2 : get a2 5 = i64 ((1 : Nat) : Int) := t5
 clear hE_1 hN_1 hD_1 s1_1 s2_1 hbb2_1
 refine tail_nil ?_
 refine wp_seq ?_
 refine wp_seq ?_
 refine region_lex [] [(6, Pr.ex (i64 ((0 : Nat) : Int)))] 1 hN_2 hD_2 (by kernel_rfl) (by kernel_rfl) ?_ ?_
 refine Asks.cons ?_ (Asks.zero _)
 exact Ask.plain rfl rfl fun aq wq hNq hO hR hT => does_assign (V := i64 ((0 : Nat) : Int)) rfl ⟨Ext.refl _, rfl⟩
 intro a3 wd3 hN_3 hD_3 hO hR hA hU
 obtain ⟨t6, _⟩ := hA
 have hE_3 := hE_2.trans hR
 have s1_3 := (hO 1 rfl).trans s1_2
 have s2_3 := (hO 2 rfl).trans s2_2
 have s5_3 := (hO 5 rfl).trans s5_2
 have hbb2_3 := hbb2_2.ext' hR
 have s6_3 : get a3 6 = i64 ((0 : Nat) : Int) := t6
 clear hE_2 hN_2 hD_2 s1_2 s2_2 s5_2 hbb2_2
 refine tail_nil ?_
 refine wp_block ?_
 refine loop_g (fun mz az wz => ∃ k : Nat, mz = h - k ∧ (az.tmps.size = 29) ∧ (az.defers = []) ∧ (get az 1 = i64 ((h : Nat) : Int)) ∧ (get az 2 = Value.pointer (some ⟨b2, 0, none⟩)) ∧ (get az 5 = i64 ((pw k : Nat) : Int)) ∧ (get az 6 = i64 ((k : Nat) : Int)) ∧ (Ext w0 wz) ∧ (Has wz b2 24 [w32 (seed).a, w32 (seed).b, w32 (seed).c, w32 (seed).d]) ∧ (k ≤ h)) ?_ ?_
 exact ⟨_, 0, rfl, hN_3, hD_3, s1_3, s2_3, s5_3, s6_3, hE_3, hbb2_3, Nat.zero_le _⟩
 rintro mz a4 wd4 ⟨k, rfl, hN_4, hD_4, s1_4, s2_4, s5_4, s6_4, hE_4, hbb2_4, hk⟩
 refine wp_seq ?_
 refine wp_seq ?_
 refine region_lex [] [(9, Pr.ex (i64 ((k : Nat) : Int))), (10, Pr.ex (i64 ((h : Nat) : Int))), (11, Pr.ex (Value.bool (decide (((k : Nat) : Int) < ((h : Nat) : Int)))))] 3 hN_4 hD_4 (by kernel_rfl) (by kernel_rfl) ?_ ?_
 refine Asks.cons ?_ (Asks.cons ?_ (Asks.cons ?_ (Asks.zero _)))
 exact Ask.plain rfl rfl fun aq wq hNq hO hR hT => does_move (V := i64 ((k : Nat) : Int)) ((hO 6 rfl).trans s6_4) ⟨Ext.refl _, rfl⟩
 exact Ask.plain rfl rfl fun aq wq hNq hO hR hT => does_move (V := i64 ((h : Nat) : Int)) ((hO 1 rfl).trans s1_4) ⟨Ext.refl _, rfl⟩
 exact Ask.plain rfl rfl fun aq wq hNq hO hR hT => does_lss (a := ((k : Nat) : Int)) (b := ((h : Nat) : Int)) (hT 9 rfl rfl) (hT 10 rfl rfl) ⟨Ext.refl _, rfl⟩
 intro a5 wd5 hN_5 hD_5 hO hR hA hU
 obtain ⟨_, _, t11, _⟩ := hA
 have hE_5 := hE_4.trans hR
 have s1_5 := (hO 1 rfl).trans s1_4
 have s2_5 := (hO 2 rfl).trans s2_4
 have s5_5 := (hO 5 rfl).trans s5_4
 have s6_5 := (hO 6 rfl).trans s6_4
 have hbb2_5 := hbb2_4.ext' hR
 have s11_5 : get a5 11 = Value.bool (decide (((k : Nat) : Int) < ((h : Nat) : Int))) := t11
 clear hE_4 hN_4 hD_4 s1_4 s2_4 s5_4 s6_4 hbb2_4
 refine tail_nil ?_
 refine wp_if (B := decide (((k : Nat) : Int) < ((h : Nat) : Int))) s11_5 (fun hc0 => ?_) (fun hc0 => ?_)
 have hc0 := of_decide_eq_true hc0
 have hpk := pw_small (k := k) (by omega)
 refine wp_skip ?_
 refine wp_seq ?_
 refine wp_block ?_
 refine region_lex [] [(14, Pr.ex (i64 ((pw k : Nat) : Int))), (15, Pr.ex (i64 (((pw k) * 2 : Nat) : Int)))] 2 hN_5 hD_5 (by kernel_rfl) (by kernel_rfl) ?_ ?_
 refine Asks.cons ?_ (Asks.cons ?_ (Asks.zero _))
 exact Ask.plain rfl rfl fun aq wq hNq hO hR hT => does_move (V := i64 ((pw k : Nat) : Int)) ((hO 5 rfl).trans s5_5) ⟨Ext.refl _, rfl⟩
 exact Ask.plain rfl rfl fun aq wq hNq hO hR hT => does_mul (a := ((pw k : Nat) : Int)) (b := ((2 : Nat) : Int)) (r := (((pw k) * 2 : Nat) : Int)) (hT 14 rfl rfl) rfl (by simp) (by omega) (by omega) ⟨Ext.refl _, rfl⟩
 intro a6 wd6 hN_6 hD_6 hO hR hA hU
 obtain ⟨_, t15, _⟩ := hA
 have hE_6 := hE_5.trans hR
 have s1_6 := (hO 1 rfl).trans s1_5
 have s2_6 := (hO 2 rfl).trans s2_5
 have s5_6 := (hO 5 rfl).trans s5_5
 have s6_6 := (hO 6 rfl).trans s6_5
 have hbb2_6 := hbb2_5.ext' hR
 have s15_6 : get a6 15 = i64 (((pw k) * 2 : Nat) : Int) := t15
 clear hE_5 hN_5 hD_5 s1_5 s2_5 s5_5 s6_5 s11_5 hbb2_5
 refine tail_put rfl rfl hN_6 hD_6 (by decide) (does_assign (V := i64 (((pw k) * 2 : Nat) : Int)) s15_6 (fun a7 hN_7 hD_7 hv hO => ?_))
 have s5_7 := hv
 have s1_7 := (hO 1 rfl).trans s1_6
 have s2_7 := (hO 2 rfl).trans s2_6
 have s6_7 := (hO 6 rfl).trans s6_6
 clear hO hv hN_6 hD_6 s1_6 s2_6 s6_6 s15_6 s5_6
 refine tail_nil ?_
 refine region_lex [] [(12, Pr.ex (i64 ((k : Nat) : Int))), (13, Pr.ex (i64 ((k + 1 : Nat) : Int)))] 2 hN_7 hD_7 (by kernel_rfl) (by kernel_rfl) ?_ ?_
 refine Asks.cons ?_ (Asks.cons ?_ (Asks.zero _))
 exact Ask.plain rfl rfl fun aq wq hNq hO hR hT => does_move (V := i64 ((k : Nat) : Int)) ((hO 6 rfl).trans s6_7) ⟨Ext.refl _, rfl⟩
 exact Ask.plain rfl rfl fun aq wq hNq hO hR hT => does_add (a := ((k : Nat) : Int)) (b := ((1 : Nat) : Int)) (r := ((k + 1 : Nat) : Int)) (hT 12 rfl rfl) rfl (by omega) (by omega) (by omega) ⟨Ext.refl _, rfl⟩
 intro a8 wd8 hN_8 hD_8 hO hR hA hU
 obtain ⟨_, t13, _⟩ := hA
 have hE_8 := hE_6.trans hR
 have s1_8 := (hO 1 rfl).trans s1_7
 have s2_8 := (hO 2 rfl).trans s2_7
 have s5_8 := (hO 5 rfl).trans s5_7
 have s6_8 := (hO 6 rfl).trans s6_7
 have hbb2_8 := hbb2_6.ext' hR
 have s13_8 : get a8 13 = i64 ((k + 1 : Nat) : Int) := t13
 clear hE_6 hN_7 hD_7 s1_7 s2_7 s5_7 s6_7 hbb2_6
 refine tail_put rfl rfl hN_8 hD_8 (by decide) (does_assign (V := i64 ((k + 1 : Nat) : Int)) s13_8 (fun a9 hN_9 hD_9 hv hO => ?_))
 have s6_9 := hv
 have s1_9 := (hO 1 rfl).trans s1_8
 have s2_9 := (hO 2 rfl).trans s2_8
 have s5_9 := (hO 5 rfl).trans s5_8
 clear hO hv hN_8 hD_8 s1_8 s2_8 s5_8 s13_8 s6_8
 refine tail_nil ?_
 exact ⟨_, by omega, k + 1, rfl, hN_9, hD_9, s1_9, s2_9, (by rw [pw_succ]; exact s5_9), s6_9, hE_8, hbb2_8, by omega⟩
 have hc0 := of_decide_eq_false hc0
 have hkh : k = h := by omega
 have hp16 := pw_small hh
 refine wp_exit ?_
 refine wp_seq ?_
 rw [hkh] at s5_5
 refine region_lex [] [(7, Pr.ex (Value.slice none 0 0))] 1 hN_5 hD_5 (by kernel_rfl) (by kernel_rfl) ?_ ?_
 refine Asks.cons ?_ (Asks.zero _)
 exact Ask.plain rfl rfl fun aq wq hNq hO hR hT => does_assign (V := Value.slice none 0 0) rfl ⟨Ext.refl _, rfl⟩
 intro a10 wd10 hN_10 hD_10 hO hR hA hU
 obtain ⟨t7, _⟩ := hA
 have hE_10 := hE_5.trans hR
 have s2_10 := (hO 2 rfl).trans s2_5
 have s5_10 := (hO 5 rfl).trans s5_5
 have hbb2_10 := hbb2_5.ext' hR
 have s7_10 : get a10 7 = Value.slice none 0 0 := t7
 clear hE_5 hN_5 hD_5 s1_5 s2_5 s5_5 s6_5 s11_5 hbb2_5
 refine tail_nil ?_
 refine wp_seq ?_
 refine wp_seq ?_
 refine region_lex [] [(8, Pr.ex (i64 ((0 : Nat) : Int)))] 1 hN_10 hD_10 (by kernel_rfl) (by kernel_rfl) ?_ ?_
 refine Asks.cons ?_ (Asks.zero _)
 exact Ask.plain rfl rfl fun aq wq hNq hO hR hT => does_assign (V := i64 ((0 : Nat) : Int)) rfl ⟨Ext.refl _, rfl⟩
 intro a11 wd11 hN_11 hD_11 hO hR hA hU
 obtain ⟨t8, _⟩ := hA
 have hE_11 := hE_10.trans hR
 have s2_11 := (hO 2 rfl).trans s2_10
 have s5_11 := (hO 5 rfl).trans s5_10
 have s7_11 := (hO 7 rfl).trans s7_10
 have hbb2_11 := hbb2_10.ext' hR
 have s8_11 : get a11 8 = i64 ((0 : Nat) : Int) := t8
 clear hE_10 hN_10 hD_10 s2_10 s5_10 s7_10 hbb2_10
 refine tail_nil ?_
 refine wp_block ?_
 refine loop_g (fun mz az wz => ∃ j : Nat, ∃ xo : Value, mz = pw h - j ∧ (az.tmps.size = 29) ∧ (az.defers = []) ∧ (get az 2 = Value.pointer (some ⟨b2, 0, none⟩)) ∧ (get az 5 = i64 ((pw h : Nat) : Int)) ∧ (get az 7 = xo) ∧ (get az 8 = i64 ((j : Nat) : Int)) ∧ (Ext w0 wz) ∧ (Has wz b2 24 [w32 (seed).a, w32 (seed).b, w32 (seed).c, w32 (seed).d]) ∧ (OwnT DG w0.heap.size 24 ((List.range j).map (pubAt seed)) xo wz) ∧ (xo.ownBlock ≠ some b2) ∧ (j ≤ pw h)) ?_ ?_
 exact ⟨_, 0, (Value.slice none 0 0), rfl, hN_11, hD_11, s2_11, s5_11, s7_11, s8_11, hE_11, hbb2_11, (OwnT.nil DG w0.heap.size 24 _), (by intro e; cases e), Nat.zero_le _⟩
 rintro mz a12 wd12 ⟨j, xo, rfl, hN_12, hD_12, s2_12, s5_12, s7_12, s8_12, hE_12, hbb2_12, hoxo_12, nbo_xo_b2, hkj⟩
 have hsxo_12 := hoxo_12.sl.wide (Nat.zero_le _) (.inl rfl)
 refine wp_seq ?_
 refine wp_seq ?_
 refine region_lex [] [(16, Pr.ex (i64 ((j : Nat) : Int))), (17, Pr.ex (i64 ((pw h : Nat) : Int))), (18, Pr.ex (Value.bool (decide (((j : Nat) : Int) < ((pw h : Nat) : Int)))))] 3 hN_12 hD_12 (by kernel_rfl) (by kernel_rfl) ?_ ?_
 refine Asks.cons ?_ (Asks.cons ?_ (Asks.cons ?_ (Asks.zero _)))
 exact Ask.plain rfl rfl fun aq wq hNq hO hR hT => does_move (V := i64 ((j : Nat) : Int)) ((hO 8 rfl).trans s8_12) ⟨Ext.refl _, rfl⟩
 exact Ask.plain rfl rfl fun aq wq hNq hO hR hT => does_move (V := i64 ((pw h : Nat) : Int)) ((hO 5 rfl).trans s5_12) ⟨Ext.refl _, rfl⟩
 exact Ask.plain rfl rfl fun aq wq hNq hO hR hT => does_lss (a := ((j : Nat) : Int)) (b := ((pw h : Nat) : Int)) (hT 16 rfl rfl) (hT 17 rfl rfl) ⟨Ext.refl _, rfl⟩
 intro a13 wd13 hN_13 hD_13 hO hR hA hU
 obtain ⟨_, _, t18, _⟩ := hA
 have hE_13 := hE_12.trans hR
 have s2_13 := (hO 2 rfl).trans s2_12
 have s5_13 := (hO 5 rfl).trans s5_12
 have s7_13 := (hO 7 rfl).trans s7_12
 have s8_13 := (hO 8 rfl).trans s8_12
 have hbb2_13 := hbb2_12.ext' hR
 have hsxo_13 := hsxo_12.ext' hR
 have hoxo_13 := hoxo_12.ext' hR
 have s18_13 : get a13 18 = Value.bool (decide (((j : Nat) : Int) < ((pw h : Nat) : Int))) := t18
 clear hE_12 hN_12 hD_12 s2_12 s5_12 s7_12 s8_12 hbb2_12 hsxo_12 hoxo_12
 refine tail_nil ?_
 refine wp_if (B := decide (((j : Nat) : Int) < ((pw h : Nat) : Int))) s18_13 (fun hc1 => ?_) (fun hc1 => ?_)
 have hc1 := of_decide_eq_true hc1
 refine wp_skip ?_
 refine wp_seq ?_
 refine wp_block ?_
 refine region_lex [] [(21, Pr.ex (xo)), (22, Pr.ex (Dg.val (seed))), (23, Pr.ex (i64 ((j : Nat) : Int))), (24, Pr.ex (Dg.val (seedAt seed j))), (25, Pr.ex (Dg.val (Sd.lone (seedAt seed j)))), (26, Pr.own' DG wd13.heap.size 24 ([Sd.lone (seedAt seed j)]))] 6 hN_13 hD_13 (by kernel_rfl) (by kernel_rfl) ?_ ?_
 refine Asks.cons ?_ (Asks.cons ?_ (Asks.cons ?_ (Asks.cons ?_ (Asks.cons ?_ (Asks.cons ?_ (Asks.zero _))))))
 exact Ask.plain rfl rfl fun aq wq hNq hO hR hT => does_move (V := xo) ((hO 7 rfl).trans s7_13) ⟨Ext.refl _, rfl⟩
 exact Ask.plain rfl rfl fun aq wq hNq hO hR hT => does_loadD (o := 0) (n := 4) (mid := [w32 (seed).a, w32 (seed).b, w32 (seed).c, w32 (seed).d]) ((hO 2 rfl).trans s2_13) (hbb2_13.ext' hR) rfl rfl (Nat.le_of_ble_eq_true rfl) row_24 rfl ⟨Ext.refl _, rfl⟩
 exact Ask.plain rfl rfl fun aq wq hNq hO hR hT => does_move (V := i64 ((j : Nat) : Int)) ((hO 8 rfl).trans s8_13) ⟨Ext.refl _, rfl⟩
 exact Ask.plain rfl rfl fun aq wq hNq hO hR hT => does_ret (vs := #[Dg.val (seed), i64 ((j : Nat) : Int)]) call_21 (args2 (hT 22 rfl rfl) (hT 23 rfl rfl)) rfl ((seedR seed j wq).mono fun v w2 h => ⟨h.2, h.1⟩)
 exact Ask.plain rfl rfl fun aq wq hNq hO hR hT => does_ret (vs := #[Dg.val (seedAt seed j)]) call_20 (args1 (hT 24 rfl rfl)) rfl ((publicR (seedAt seed j) wq).mono fun v w2 h => ⟨h.2, h.1⟩)
 exact Ask.plain rfl rfl fun aq wq hNq hO hR hT => does_slice1 (T := DG) (X := Sd.lone (seedAt seed j)) (V := Dg.val (Sd.lone (seedAt seed j))) app_34 rfl (by decide) (hT 25 rfl rfl) rfl (fun v w2 he _ ho => ⟨he, OwnT.base ho hR.size'⟩)
 intro a14 wd14 hN_14 hD_14 hO hR hA hU
 obtain ⟨t21, _, _, _, _, t26, _⟩ := hA
 have hE_14 := hE_13.trans hR
 have s2_14 := (hO 2 rfl).trans s2_13
 have s5_14 := (hO 5 rfl).trans s5_13
 have s7_14 := (hO 7 rfl).trans s7_13
 have s8_14 := (hO 8 rfl).trans s8_13
 have hbb2_14 := hbb2_13.ext' hR
 have hsxo_14 := hsxo_13.ext' hR
 have hoxo_14 := hoxo_13.ext' hR
 have s21_14 : get a14 21 = xo := t21
 obtain ⟨x26, s26_14⟩ : ∃ x, get a14 26 = x := ⟨_, rfl⟩
 replace t26 : OwnT DG wd13.heap.size 24 ([Sd.lone (seedAt seed j)]) x26 wd14 := by rw [← s26_14]; exact t26
 have nbo_x26_b2 : x26.ownBlock ≠ some b2 := fun e => Nat.lt_irrefl _ (Nat.lt_of_lt_of_le hbb2_13.lt (OwnT.block_lt t26 e).1)
 have no_x26_xo : ∀ k, x26.ownBlock = some k → xo.ownBlock ≠ some k := fun k e e' => Nat.lt_irrefl _ (Nat.lt_of_lt_of_le (OwnT.block_lt hoxo_13 e').2 (OwnT.block_lt t26 e).1)
 have hsx26_14 := t26.sl.wide (Nat.zero_le _) (.inl rfl)
 have hox26_14 := OwnT.base t26 hE_13.size'
 clear hE_13 hN_13 hD_13 s2_13 s5_13 s7_13 s8_13 s18_13 hbb2_13 hsxo_13 hoxo_13
 refine tail_put rfl rfl hN_14 hD_14 (by decide) (does_append (T := DG) (base := w0.heap.size) (xs := (List.range j).map (pubAt seed)) (ys := [Sd.lone (seedAt seed j)]) (v := xo) app_34 s21_14 hoxo_14 (SlT.at s26_14 hsx26_14) (by simp) (by simp only [List.length_map, List.length_range, List.length_cons, List.length_nil]; omega) (by simp only [List.length_map, List.length_range, List.length_cons, List.length_nil]; omega) hE_14.size' (fun x27 wd15 hX hox27_15 hk a15 hN_15 hD_15 hv hO => ?_))
 have hE_15 := hE_14.since hX (fun b hb => Nat.le_trans (Nat.le_refl _) (OwnT.block_lt hoxo_14 hb).1)
 have hbb2_15 := hbb2_14.ext hX nbo_xo_b2
 have nbo_x27_b2 : x27.ownBlock ≠ some b2 := fun e => (hk _ e).elim nbo_xo_b2 (fun h => Nat.lt_irrefl _ (Nat.lt_of_lt_of_le hbb2_14.lt h))
 have hox26_15 := OwnT.ext hox26_14 hX (fun k hk e => no_x26_xo k hk e)
 have no_x27_x26 : ∀ k, x27.ownBlock = some k → x26.ownBlock ≠ some k := fun k e e' => (hk k e).elim (fun h => no_x26_xo k e' h) (fun h => Nat.lt_irrefl _ (Nat.lt_of_lt_of_le (OwnT.block_lt hox26_14 e').2 h))
 have hsx26_15 := hox26_15.sl.wide (Nat.zero_le _) (.inl rfl)
 have hsx27_15 := hox27_15.sl.wide (Nat.zero_le _) (.inl rfl)
 rw [(show (List.range j).map (pubAt seed) ++ [Sd.lone (seedAt seed j)] = (List.range (j + 1)).map (pubAt seed) from range_step rfl)] at hox27_15 hsx27_15
 have s27_15 := hv
 have s2_15 := (hO 2 rfl).trans s2_14
 have s5_15 := (hO 5 rfl).trans s5_14
 have s7_15 := (hO 7 rfl).trans s7_14
 have s8_15 := (hO 8 rfl).trans s8_14
 clear hO hv hX hk hN_14 hD_14 hE_14 hbb2_14 hox26_14 s2_14 s5_14 s7_14 s8_14 s21_14 s26_14
 refine tail_put rfl rfl hN_15 hD_15 (by decide) (does_assign (V := x27) s27_15 (fun a16 hN_16 hD_16 hv hO => ?_))
 have s7_16 := hv
 have s2_16 := (hO 2 rfl).trans s2_15
 have s5_16 := (hO 5 rfl).trans s5_15
 have s8_16 := (hO 8 rfl).trans s8_15
 clear hO hv hN_15 hD_15 s2_15 s5_15 s8_15 s27_15 s7_15
 refine tail_nil ?_
 refine region_lex [] [(19, Pr.ex (i64 ((j : Nat) : Int))), (20, Pr.ex (i64 ((j + 1 : Nat) : Int)))] 2 hN_16 hD_16 (by kernel_rfl) (by kernel_rfl) ?_ ?_
 refine Asks.cons ?_ (Asks.cons ?_ (Asks.zero _))
 exact Ask.plain rfl rfl fun aq wq hNq hO hR hT => does_move (V := i64 ((j : Nat) : Int)) ((hO 8 rfl).trans s8_16) ⟨Ext.refl _, rfl⟩
 exact Ask.plain rfl rfl fun aq wq hNq hO hR hT => does_add (a := ((j : Nat) : Int)) (b := ((1 : Nat) : Int)) (r := ((j + 1 : Nat) : Int)) (hT 19 rfl rfl) rfl (by omega) (by omega) (by omega) ⟨Ext.refl _, rfl⟩
 intro a17 wd17 hN_17 hD_17 hO hR hA hU
 obtain ⟨_, t20, _⟩ := hA
 have hE_17 := hE_15.trans hR
 have s2_17 := (hO 2 rfl).trans s2_16
 have s5_17 := (hO 5 rfl).trans s5_16
 have s7_17 := (hO 7 rfl).trans s7_16
 have s8_17 := (hO 8 rfl).trans s8_16
 have hbb2_17 := hbb2_15.ext' hR
 have hsx26_17 := hsx26_15.ext' hR
 have hsx27_17 := hsx27_15.ext' hR
 have hox26_17 := hox26_15.ext' hR
 have hox27_17 := hox27_15.ext' hR
 have s20_17 : get a17 20 = i64 ((j + 1 : Nat) : Int) := t20
 clear hE_15 hN_16 hD_16 s2_16 s5_16 s7_16 s8_16 hbb2_15 hsx26_15 hsx27_15 hox26_15 hox27_15
 refine tail_put rfl rfl hN_17 hD_17 (by decide) (does_assign (V := i64 ((j + 1 : Nat) : Int)) s20_17 (fun a18 hN_18 hD_18 hv hO => ?_))
 have s8_18 := hv
 have s2_18 := (hO 2 rfl).trans s2_17
 have s5_18 := (hO 5 rfl).trans s5_17
 have s7_18 := (hO 7 rfl).trans s7_17
 clear hO hv hN_17 hD_17 s2_17 s5_17 s7_17 s20_17 s8_17
 refine tail_nil ?_
 exact ⟨_, by omega, j + 1, x27, rfl, hN_18, hD_18, s2_18, s5_18, s7_18, s8_18, hE_17, hbb2_17, hox27_17, nbo_x27_b2, by omega⟩
 have hc1 := of_decide_eq_false hc1
 have hjp : j = pw h := by omega
 refine wp_exit ?_
 refine wp_seq ?_
 refine region_lex [] [(28, Pr.ex (xo)), (4, Pr.ex (xo))] 2 hN_13 hD_13 (by kernel_rfl) (by kernel_rfl) ?_ ?_
 refine Asks.cons ?_ (Asks.cons ?_ (Asks.zero _))
 exact Ask.plain rfl rfl fun aq wq hNq hO hR hT => does_move (V := xo) ((hO 7 rfl).trans s7_13) ⟨Ext.refl _, rfl⟩
 exact Ask.plain rfl rfl fun aq wq hNq hO hR hT => does_assign (V := xo) (hT 28 rfl rfl) ⟨Ext.refl _, rfl⟩
 intro a19 wd19 hN_19 hD_19 hO hR hA hU
 obtain ⟨_, t4, _⟩ := hA
 have hE_19 := hE_13.trans hR
 have hbb2_19 := hbb2_13.ext' hR
 have hsxo_19 := hsxo_13.ext' hR
 have hoxo_19 := hoxo_13.ext' hR
 have s4_19 : get a19 4 = xo := t4
 clear hE_13 hN_13 hD_13 s2_13 s5_13 s7_13 s8_13 s18_13 hbb2_13 hsxo_13 hoxo_13
 refine tail_nil ?_
 refine wp_ret ?_
 refine res_one (V := xo) rfl hD_19 s4_19 ?_
 have ho := hoxo_19
 rw [hjp, ← publics_eq] at ho
 exact ⟨ho, hE_19⟩

end Go.Proofs.YtaeohnkfmachfabDoor
