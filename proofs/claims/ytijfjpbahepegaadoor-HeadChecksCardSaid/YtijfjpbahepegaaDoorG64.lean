/- The walks of functions of the program: printed. -/
import Derived.Test.YtijfjpbahepegaaDoorK
import Derived.Test.YtijfjpbahepegaaDoorG3
import Derived.Test.YtijfjpbahepegaaDoorG63
import Derived.Test.YtijfjpbahepegaaDoorF0
set_option maxRecDepth 100000
namespace Go.Proofs.YtijfjpbahepegaaDoor
open Go Go.RowKit Sk Sd
theorem stepsR (m : Dg) (w0 : World) :
    Gives Tryd.prog 96 #[Dg.val (m)] w0 (Pr.own' NI w0.heap.size 3 (steps m)) := by
 refine enter (N := 49) Tryd.func96 rfl rfl ?_
 intro a0 hN_0 hD_0 hA
 have s0_0 : get a0 0 = Dg.val (m) := hA 0 _ rfl
 clear hA
 have hE_0 : Ext w0 w0 := Ext.refl w0
 refine wp_seq ?_
 refine region_lex [1] [(1, Pr.box' w0.heap.size 27 [w32 (m).a, w32 (m).b, w32 (m).c, w32 (m).d]), (2, Pr.ex (Value.slice none 0 0))] 2 hN_0 hD_0 (by kernel_rfl) (by kernel_rfl) ?_ ?_
 refine Asks.cons ?_ (Asks.cons ?_ (Asks.zero _))
 refine Ask.fresh rfl rfl ?_
 intro aq wq hNq hO hR hT
 exact does_box (V := Dg.val (m)) ((hO 0 rfl).trans s0_0) (fun b w2 he hlo hb => ⟨he, ⟨b, rfl, Nat.le_trans hR.size' hlo, hb⟩, ⟨b, rfl, hlo, hb.lt⟩⟩)
 exact Ask.plain rfl rfl fun aq wq hNq hO hR hT => does_assign (V := Value.slice none 0 0) rfl ⟨Ext.refl _, rfl⟩
 intro a1 wd1 hN_1 hD_1 hO hR hA hU
 obtain ⟨t1, _, _⟩ := hA
 have hE_1 := hE_0.trans hR
 obtain ⟨b1, s1_1, lo_b1, hbb1_1⟩ := t1
 have fr_b1 : w0.heap.size ≤ b1 := Nat.le_trans hE_0.size' lo_b1
 clear hE_0 hN_0 hD_0 s0_0
 refine tail_nil ?_
 refine wp_seq ?_
 refine region_lex [] [(8, Pr.ex (Dg.val (m))), (9, Pr.ex (str ((digits m).map hexc))), (3, Pr.ex (str ((digits m).map hexc)))] 3 hN_1 hD_1 (by kernel_rfl) (by kernel_rfl) ?_ ?_
 refine Asks.cons ?_ (Asks.cons ?_ (Asks.cons ?_ (Asks.zero _)))
 exact Ask.plain rfl rfl fun aq wq hNq hO hR hT => does_loadD (o := 0) (n := 4) (mid := [w32 (m).a, w32 (m).b, w32 (m).c, w32 (m).d]) ((hO 1 rfl).trans s1_1) (hbb1_1.ext' hR) rfl rfl (Nat.le_of_ble_eq_true rfl) row_27 rfl ⟨Ext.refl _, rfl⟩
 exact Ask.plain rfl rfl fun aq wq hNq hO hR hT => does_ret (vs := #[Dg.val (m)]) call_110 (args1 (hT 8 rfl rfl)) rfl ((text3 m wq).mono fun v w2 h => ⟨h.2, h.1⟩)
 exact Ask.plain rfl rfl fun aq wq hNq hO hR hT => does_assign (V := str ((digits m).map hexc)) (hT 9 rfl rfl) ⟨Ext.refl _, rfl⟩
 intro a2 wd2 hN_2 hD_2 hO hR hA hU
 obtain ⟨_, _, t3, _⟩ := hA
 have hE_2 := hE_1.trans hR
 have hbb1_2 := hbb1_1.ext' hR
 have s3_2 : get a2 3 = str ((digits m).map hexc) := t3
 clear hE_1 hN_1 hD_1 s1_1 hbb1_1
 refine tail_nil ?_
 refine wp_seq ?_
 refine region_lex [] [(4, Pr.ex (Value.slice none 0 0))] 1 hN_2 hD_2 (by kernel_rfl) (by kernel_rfl) ?_ ?_
 refine Asks.cons ?_ (Asks.zero _)
 exact Ask.plain rfl rfl fun aq wq hNq hO hR hT => does_assign (V := Value.slice none 0 0) rfl ⟨Ext.refl _, rfl⟩
 intro a3 wd3 hN_3 hD_3 hO hR hA hU
 obtain ⟨t4, _⟩ := hA
 have hE_3 := hE_2.trans hR
 have s3_3 := (hO 3 rfl).trans s3_2
 have hbb1_3 := hbb1_2.ext' hR
 have s4_3 : get a3 4 = Value.slice none 0 0 := t4
 clear hE_2 hN_2 hD_2 s3_2 hbb1_2
 refine tail_nil ?_
 refine wp_seq ?_
 refine region_lex [] [(5, Pr.ex (i64 ((0 : Nat) : Int)))] 1 hN_3 hD_3 (by kernel_rfl) (by kernel_rfl) ?_ ?_
 refine Asks.cons ?_ (Asks.zero _)
 exact Ask.plain rfl rfl fun aq wq hNq hO hR hT => does_assign (V := i64 ((0 : Nat) : Int)) rfl ⟨Ext.refl _, rfl⟩
 intro a4 wd4 hN_4 hD_4 hO hR hA hU
 obtain ⟨t5, _⟩ := hA
 have hE_4 := hE_3.trans hR
 have s3_4 := (hO 3 rfl).trans s3_3
 have s4_4 := (hO 4 rfl).trans s4_3
 have hbb1_4 := hbb1_3.ext' hR
 have s5_4 : get a4 5 = i64 ((0 : Nat) : Int) := t5
 clear hE_3 hN_3 hD_3 s3_3 s4_3 hbb1_3
 refine tail_nil ?_
 refine wp_seq ?_
 refine wp_seq ?_
 refine region_lex [] [(6, Pr.ex (i64 ((0 : Nat) : Int)))] 1 hN_4 hD_4 (by kernel_rfl) (by kernel_rfl) ?_ ?_
 refine Asks.cons ?_ (Asks.zero _)
 exact Ask.plain rfl rfl fun aq wq hNq hO hR hT => does_assign (V := i64 ((0 : Nat) : Int)) rfl ⟨Ext.refl _, rfl⟩
 intro a5 wd5 hN_5 hD_5 hO hR hA hU
 obtain ⟨t6, _⟩ := hA
 have hE_5 := hE_4.trans hR
 have s3_5 := (hO 3 rfl).trans s3_4
 have s4_5 := (hO 4 rfl).trans s4_4
 have s5_5 := (hO 5 rfl).trans s5_4
 have hbb1_5 := hbb1_4.ext' hR
 have s6_5 : get a5 6 = i64 ((0 : Nat) : Int) := t6
 clear hE_4 hN_4 hD_4 s3_4 s4_4 s5_4 hbb1_4
 refine tail_nil ?_
 refine wp_block ?_
 refine loop_g (fun mz az wz => ∃ k : Nat, ∃ xo : Value, mz = 32 - k ∧ (az.tmps.size = 49) ∧ (az.defers = []) ∧ (get az 3 = str ((digits m).map hexc)) ∧ (get az 4 = xo) ∧ (get az 5 = i64 ((lacks ((digits m).take k) : Nat) : Int)) ∧ (get az 6 = i64 ((k : Nat) : Int)) ∧ (Ext w0 wz) ∧ (Has wz b1 27 [w32 (m).a, w32 (m).b, w32 (m).c, w32 (m).d]) ∧ (OwnT NI w0.heap.size 3 ((digits m).take k) xo wz) ∧ (xo.ownBlock ≠ some b1) ∧ (k ≤ 32)) ?_ ?_
 exact ⟨_, 0, (Value.slice none 0 0), rfl, hN_5, hD_5, s3_5, s4_5, s5_5, s6_5, hE_5, hbb1_5, (OwnT.nil NI w0.heap.size 3 _), (by intro e; cases e), by decide⟩
 rintro mz a6 wd6 ⟨k, xo, rfl, hN_6, hD_6, s3_6, s4_6, s5_6, s6_6, hE_6, hbb1_6, hoxo_6, nbo_xo_b1, hk⟩
 have hsxo_6 := hoxo_6.sl.wide (Nat.zero_le _) (.inl rfl)
 refine wp_seq ?_
 refine wp_seq ?_
 refine region_lex [] [(10, Pr.ex (i64 ((k : Nat) : Int))), (11, Pr.ex (str ((digits m).map hexc))), (12, Pr.ex (i64 ((((digits m).map hexc).length : Nat) : Int))), (13, Pr.ex (Value.bool (decide (((k : Nat) : Int) < ((((digits m).map hexc).length : Nat) : Int)))))] 4 hN_6 hD_6 (by kernel_rfl) (by kernel_rfl) ?_ ?_
 refine Asks.cons ?_ (Asks.cons ?_ (Asks.cons ?_ (Asks.cons ?_ (Asks.zero _))))
 exact Ask.plain rfl rfl fun aq wq hNq hO hR hT => does_move (V := i64 ((k : Nat) : Int)) ((hO 6 rfl).trans s6_6) ⟨Ext.refl _, rfl⟩
 exact Ask.plain rfl rfl fun aq wq hNq hO hR hT => does_move (V := str ((digits m).map hexc)) ((hO 3 rfl).trans s3_6) ⟨Ext.refl _, rfl⟩
 exact Ask.plain rfl rfl fun aq wq hNq hO hR hT => does_lenStr (l := (digits m).map hexc) Tryd.underlying9 (hT 11 rfl rfl) ⟨Ext.refl _, rfl⟩
 exact Ask.plain rfl rfl fun aq wq hNq hO hR hT => does_lss (a := ((k : Nat) : Int)) (b := ((((digits m).map hexc).length : Nat) : Int)) (hT 10 rfl rfl) (hT 12 rfl rfl) ⟨Ext.refl _, rfl⟩
 intro a7 wd7 hN_7 hD_7 hO hR hA hU
 obtain ⟨_, _, _, t13, _⟩ := hA
 have hE_7 := hE_6.trans hR
 have s3_7 := (hO 3 rfl).trans s3_6
 have s4_7 := (hO 4 rfl).trans s4_6
 have s5_7 := (hO 5 rfl).trans s5_6
 have s6_7 := (hO 6 rfl).trans s6_6
 have hbb1_7 := hbb1_6.ext' hR
 have hsxo_7 := hsxo_6.ext' hR
 have hoxo_7 := hoxo_6.ext' hR
 have s13_7 : get a7 13 = Value.bool (decide (((k : Nat) : Int) < ((((digits m).map hexc).length : Nat) : Int))) := t13
 clear hE_6 hN_6 hD_6 s3_6 s4_6 s5_6 s6_6 hbb1_6 hsxo_6 hoxo_6
 refine tail_nil ?_
 refine wp_if (B := decide (((k : Nat) : Int) < ((((digits m).map hexc).length : Nat) : Int))) s13_7 (fun hc0 => ?_) (fun hc0 => ?_)
 have hc0 := of_decide_eq_true hc0
 have hk32 : k < 32 := by have := digits_length m; simp only [List.length_map] at hc0; omega
 have hdle := digits_getle m k
 have hls := lacks_small m k
 have hls2 := lacks_digit m hk32
 refine wp_skip ?_
 refine wp_seq ?_
 refine wp_block ?_
 refine wp_seq ?_
 refine region_lex [] [(16, Pr.ex (str ((digits m).map hexc))), (17, Pr.ex (i64 ((k : Nat) : Int))), (18, Pr.ex (w8 ((hexc ((digits m).getD k 0))))), (19, Pr.ex (w8 (((hexc ((digits m).getD k 0))) - 48))), (20, Pr.ex (i64 (((((hexc ((digits m).getD k 0))) - 48).toNat : Nat) : Int))), (7, Pr.ex (i64 (((((hexc ((digits m).getD k 0))) - 48).toNat : Nat) : Int)))] 6 hN_7 hD_7 (by kernel_rfl) (by kernel_rfl) ?_ ?_
 refine Asks.cons ?_ (Asks.cons ?_ (Asks.cons ?_ (Asks.cons ?_ (Asks.cons ?_ (Asks.cons ?_ (Asks.zero _))))))
 exact Ask.plain rfl rfl fun aq wq hNq hO hR hT => does_move (V := str ((digits m).map hexc)) ((hO 3 rfl).trans s3_7) ⟨Ext.refl _, rfl⟩
 exact Ask.plain rfl rfl fun aq wq hNq hO hR hT => does_move (V := i64 ((k : Nat) : Int)) ((hO 6 rfl).trans s6_7) ⟨Ext.refl _, rfl⟩
 exact Ask.plain rfl rfl fun aq wq hNq hO hR hT => does_indexStr (l := (digits m).map hexc) (i := ((k : Nat) : Int)) (c := (hexc ((digits m).getD k 0))) Tryd.underlying9 (hT 16 rfl rfl) (hT 17 rfl rfl) (by omega) (text_get m hk32) ⟨Ext.refl _, rfl⟩
 exact Ask.plain rfl rfl fun aq wq hNq hO hR hT => does_sub8 (a := ((hexc ((digits m).getD k 0)) : UInt8)) (b := (48 : UInt8)) (hT 18 rfl rfl) rfl ⟨Ext.refl _, rfl⟩
 exact Ask.plain rfl rfl fun aq wq hNq hO hR hT => does_conv ⟨_, Tryd.underlying5⟩ Tryd.underlying3 (hT 19 rfl rfl) (conv_w_i8 _) ⟨Ext.refl _, rfl⟩
 exact Ask.plain rfl rfl fun aq wq hNq hO hR hT => does_assign (V := i64 (((((hexc ((digits m).getD k 0))) - 48).toNat : Nat) : Int)) (hT 20 rfl rfl) ⟨Ext.refl _, rfl⟩
 intro a8 wd8 hN_8 hD_8 hO hR hA hU
 obtain ⟨_, _, _, _, _, t7, _⟩ := hA
 have hE_8 := hE_7.trans hR
 have s3_8 := (hO 3 rfl).trans s3_7
 have s4_8 := (hO 4 rfl).trans s4_7
 have s5_8 := (hO 5 rfl).trans s5_7
 have s6_8 := (hO 6 rfl).trans s6_7
 have hbb1_8 := hbb1_7.ext' hR
 have hsxo_8 := hsxo_7.ext' hR
 have hoxo_8 := hoxo_7.ext' hR
 have s7_8 : get a8 7 = i64 (((((hexc ((digits m).getD k 0))) - 48).toNat : Nat) : Int) := t7
 clear hE_7 hN_7 hD_7 s3_7 s4_7 s5_7 s6_7 s13_7 hbb1_7 hsxo_7 hoxo_7
 refine tail_nil ?_
 refine wp_seq ?_
 refine wp_seq ?_
 refine region_lex [] [(21, Pr.ex (str ((digits m).map hexc))), (22, Pr.ex (i64 ((k : Nat) : Int))), (23, Pr.ex (w8 ((hexc ((digits m).getD k 0))))), (24, Pr.ex (Value.bool (decide (((97 : UInt8).toNat : Int) ≤ (((hexc ((digits m).getD k 0)) : UInt8).toNat : Int)))))] 4 hN_8 hD_8 (by kernel_rfl) (by kernel_rfl) ?_ ?_
 refine Asks.cons ?_ (Asks.cons ?_ (Asks.cons ?_ (Asks.cons ?_ (Asks.zero _))))
 exact Ask.plain rfl rfl fun aq wq hNq hO hR hT => does_move (V := str ((digits m).map hexc)) ((hO 3 rfl).trans s3_8) ⟨Ext.refl _, rfl⟩
 exact Ask.plain rfl rfl fun aq wq hNq hO hR hT => does_move (V := i64 ((k : Nat) : Int)) ((hO 6 rfl).trans s6_8) ⟨Ext.refl _, rfl⟩
 exact Ask.plain rfl rfl fun aq wq hNq hO hR hT => does_indexStr (l := (digits m).map hexc) (i := ((k : Nat) : Int)) (c := (hexc ((digits m).getD k 0))) Tryd.underlying9 (hT 21 rfl rfl) (hT 22 rfl rfl) (by omega) (text_get m hk32) ⟨Ext.refl _, rfl⟩
 exact Ask.plain rfl rfl fun aq wq hNq hO hR hT => does_geq (a := (((hexc ((digits m).getD k 0)) : UInt8).toNat : Int)) (b := ((97 : UInt8).toNat : Int)) (hT 23 rfl rfl) rfl ⟨Ext.refl _, rfl⟩
 intro a9 wd9 hN_9 hD_9 hO hR hA hU
 obtain ⟨_, _, _, t24, _⟩ := hA
 have hE_9 := hE_8.trans hR
 have s3_9 := (hO 3 rfl).trans s3_8
 have s4_9 := (hO 4 rfl).trans s4_8
 have s5_9 := (hO 5 rfl).trans s5_8
 have s6_9 := (hO 6 rfl).trans s6_8
 have s7_9 := (hO 7 rfl).trans s7_8
 have hbb1_9 := hbb1_8.ext' hR
 have hsxo_9 := hsxo_8.ext' hR
 have hoxo_9 := hoxo_8.ext' hR
 have s24_9 : get a9 24 = Value.bool (decide (((97 : UInt8).toNat : Int) ≤ (((hexc ((digits m).getD k 0)) : UInt8).toNat : Int))) := t24
 clear hE_8 hN_8 hD_8 s3_8 s4_8 s5_8 s6_8 s7_8 hbb1_8 hsxo_8 hoxo_8
 refine tail_nil ?_
 refine wp_if (B := decide (((97 : UInt8).toNat : Int) ≤ (((hexc ((digits m).getD k 0)) : UInt8).toNat : Int))) s24_9 (fun hc1 => ?_) (fun hc1 => ?_)
 have hc1 := of_decide_eq_true hc1
 refine region_lex [] [(25, Pr.ex (str ((digits m).map hexc))), (26, Pr.ex (i64 ((k : Nat) : Int))), (27, Pr.ex (w8 ((hexc ((digits m).getD k 0))))), (28, Pr.ex (w8 (((hexc ((digits m).getD k 0))) - 97))), (29, Pr.ex (i64 (((((hexc ((digits m).getD k 0))) - 97).toNat : Nat) : Int))), (30, Pr.ex (i64 ((((((hexc ((digits m).getD k 0))) - 97).toNat) + 10 : Nat) : Int))), (7, Pr.ex (i64 ((((((hexc ((digits m).getD k 0))) - 97).toNat) + 10 : Nat) : Int)))] 7 hN_9 hD_9 (by kernel_rfl) (by kernel_rfl) ?_ ?_
 refine Asks.cons ?_ (Asks.cons ?_ (Asks.cons ?_ (Asks.cons ?_ (Asks.cons ?_ (Asks.cons ?_ (Asks.cons ?_ (Asks.zero _)))))))
 exact Ask.plain rfl rfl fun aq wq hNq hO hR hT => does_move (V := str ((digits m).map hexc)) ((hO 3 rfl).trans s3_9) ⟨Ext.refl _, rfl⟩
 exact Ask.plain rfl rfl fun aq wq hNq hO hR hT => does_move (V := i64 ((k : Nat) : Int)) ((hO 6 rfl).trans s6_9) ⟨Ext.refl _, rfl⟩
 exact Ask.plain rfl rfl fun aq wq hNq hO hR hT => does_indexStr (l := (digits m).map hexc) (i := ((k : Nat) : Int)) (c := (hexc ((digits m).getD k 0))) Tryd.underlying9 (hT 25 rfl rfl) (hT 26 rfl rfl) (by omega) (text_get m hk32) ⟨Ext.refl _, rfl⟩
 exact Ask.plain rfl rfl fun aq wq hNq hO hR hT => does_sub8 (a := ((hexc ((digits m).getD k 0)) : UInt8)) (b := (97 : UInt8)) (hT 27 rfl rfl) rfl ⟨Ext.refl _, rfl⟩
 exact Ask.plain rfl rfl fun aq wq hNq hO hR hT => does_conv ⟨_, Tryd.underlying5⟩ Tryd.underlying3 (hT 28 rfl rfl) (conv_w_i8 _) ⟨Ext.refl _, rfl⟩
 exact Ask.plain rfl rfl fun aq wq hNq hO hR hT => does_add (a := (((((hexc ((digits m).getD k 0))) - 97).toNat : Nat) : Int)) (b := ((10 : Nat) : Int)) (r := ((((((hexc ((digits m).getD k 0))) - 97).toNat) + 10 : Nat) : Int)) (hT 29 rfl rfl) rfl (by omega) (by omega) (by have := UInt8.toNat_lt (hexc ((digits m).getD k 0) - 97); omega) ⟨Ext.refl _, rfl⟩
 exact Ask.plain rfl rfl fun aq wq hNq hO hR hT => does_assign (V := i64 ((((((hexc ((digits m).getD k 0))) - 97).toNat) + 10 : Nat) : Int)) (hT 30 rfl rfl) ⟨Ext.refl _, rfl⟩
 intro a10 wd10 hN_10 hD_10 hO hR hA hU
 obtain ⟨_, _, _, _, _, _, t7, _⟩ := hA
 have hE_10 := hE_9.trans hR
 have s3_10 := (hO 3 rfl).trans s3_9
 have s4_10 := (hO 4 rfl).trans s4_9
 have s5_10 := (hO 5 rfl).trans s5_9
 have s6_10 := (hO 6 rfl).trans s6_9
 have hbb1_10 := hbb1_9.ext' hR
 have hsxo_10 := hsxo_9.ext' hR
 have hoxo_10 := hoxo_9.ext' hR
 have s7_10 : get a10 7 = i64 ((((((hexc ((digits m).getD k 0))) - 97).toNat) + 10 : Nat) : Int) := t7
 clear hE_9 hN_9 hD_9 s3_9 s4_9 s5_9 s6_9 s7_9 s24_9 hbb1_9 hsxo_9 hoxo_9
 refine tail_nil ?_
 refine wp_seq ?_
 rw [show ((((hexc ((digits m).getD k 0))) - 97).toNat) + 10 = (digits m).getD k 0 from hexc_T hdle (by first | exact hc1 | (intro h; exact hc1 h))] at s7_10
 refine region_lex [] [(31, Pr.ex (xo)), (32, Pr.ex (i64 (((digits m).getD k 0 : Nat) : Int))), (33, Pr.own' NI wd10.heap.size 3 ([(digits m).getD k 0]))] 3 hN_10 hD_10 (by kernel_rfl) (by kernel_rfl) ?_ ?_
 refine Asks.cons ?_ (Asks.cons ?_ (Asks.cons ?_ (Asks.zero _)))
 exact Ask.plain rfl rfl fun aq wq hNq hO hR hT => does_move (V := xo) ((hO 4 rfl).trans s4_10) ⟨Ext.refl _, rfl⟩
 exact Ask.plain rfl rfl fun aq wq hNq hO hR hT => does_move (V := i64 (((digits m).getD k 0 : Nat) : Int)) ((hO 7 rfl).trans s7_10) ⟨Ext.refl _, rfl⟩
 exact Ask.plain rfl rfl fun aq wq hNq hO hR hT => does_slice1 (T := NI) (X := (digits m).getD k 0) (V := i64 (((digits m).getD k 0 : Nat) : Int)) app_137 rfl (by decide) (hT 32 rfl rfl) rfl (fun v w2 he _ ho => ⟨he, OwnT.base ho hR.size'⟩)
 intro a11 wd11 hN_11 hD_11 hO hR hA hU
 obtain ⟨t31, _, t33, _⟩ := hA
 have hE_11 := hE_10.trans hR
 have s3_11 := (hO 3 rfl).trans s3_10
 have s4_11 := (hO 4 rfl).trans s4_10
 have s5_11 := (hO 5 rfl).trans s5_10
 have s6_11 := (hO 6 rfl).trans s6_10
 have s7_11 := (hO 7 rfl).trans s7_10
 have hbb1_11 := hbb1_10.ext' hR
 have hsxo_11 := hsxo_10.ext' hR
 have hoxo_11 := hoxo_10.ext' hR
 have s31_11 : get a11 31 = xo := t31
 obtain ⟨x33, s33_11⟩ : ∃ x, get a11 33 = x := ⟨_, rfl⟩
 replace t33 : OwnT NI wd10.heap.size 3 ([(digits m).getD k 0]) x33 wd11 := by rw [← s33_11]; exact t33
 have nbo_x33_b1 : x33.ownBlock ≠ some b1 := fun e => Nat.lt_irrefl _ (Nat.lt_of_lt_of_le hbb1_10.lt (OwnT.block_lt t33 e).1)
 have no_x33_xo : ∀ k, x33.ownBlock = some k → xo.ownBlock ≠ some k := fun k e e' => Nat.lt_irrefl _ (Nat.lt_of_lt_of_le (OwnT.block_lt hoxo_10 e').2 (OwnT.block_lt t33 e).1)
 have hsx33_11 := t33.sl.wide (Nat.zero_le _) (.inl rfl)
 have hox33_11 := OwnT.base t33 hE_10.size'
 clear hE_10 hN_10 hD_10 s3_10 s4_10 s5_10 s6_10 s7_10 hbb1_10 hsxo_10 hoxo_10
 refine tail_put rfl rfl hN_11 hD_11 (by decide) (does_append (T := NI) (base := w0.heap.size) (xs := (digits m).take k) (ys := [(digits m).getD k 0]) (v := xo) app_137 s31_11 hoxo_11 (SlT.at s33_11 hsx33_11) (by simp) (by simp only [List.length_take, List.length_cons, List.length_nil, digits_length]; omega) (by simp only [List.length_take, List.length_cons, List.length_nil, digits_length]; omega) hE_11.size' (fun x34 wd12 hX hox34_12 hk a12 hN_12 hD_12 hv hO => ?_))
 have hE_12 := hE_11.since hX (fun b hb => Nat.le_trans (Nat.le_refl _) (OwnT.block_lt hoxo_11 hb).1)
 have hbb1_12 := hbb1_11.ext hX nbo_xo_b1
 have nbo_x34_b1 : x34.ownBlock ≠ some b1 := fun e => (hk _ e).elim nbo_xo_b1 (fun h => Nat.lt_irrefl _ (Nat.lt_of_lt_of_le hbb1_11.lt h))
 have hox33_12 := OwnT.ext hox33_11 hX (fun k hk e => no_x33_xo k hk e)
 have no_x34_x33 : ∀ k, x34.ownBlock = some k → x33.ownBlock ≠ some k := fun k e e' => (hk k e).elim (fun h => no_x33_xo k e' h) (fun h => Nat.lt_irrefl _ (Nat.lt_of_lt_of_le (OwnT.block_lt hox33_11 e').2 h))
 have hsx33_12 := hox33_12.sl.wide (Nat.zero_le _) (.inl rfl)
 have hsx34_12 := hox34_12.sl.wide (Nat.zero_le _) (.inl rfl)
 rw [take_digit m hk32] at hox34_12 hsx34_12
 have s34_12 := hv
 have s3_12 := (hO 3 rfl).trans s3_11
 have s4_12 := (hO 4 rfl).trans s4_11
 have s5_12 := (hO 5 rfl).trans s5_11
 have s6_12 := (hO 6 rfl).trans s6_11
 have s7_12 := (hO 7 rfl).trans s7_11
 clear hO hv hX hk hN_11 hD_11 hE_11 hbb1_11 hox33_11 s3_11 s4_11 s5_11 s6_11 s7_11 s31_11 s33_11
 refine tail_put rfl rfl hN_12 hD_12 (by decide) (does_assign (V := x34) s34_12 (fun a13 hN_13 hD_13 hv hO => ?_))
 have s4_13 := hv
 have s3_13 := (hO 3 rfl).trans s3_12
 have s5_13 := (hO 5 rfl).trans s5_12
 have s6_13 := (hO 6 rfl).trans s6_12
 have s7_13 := (hO 7 rfl).trans s7_12
 clear hO hv hN_12 hD_12 s3_12 s5_12 s6_12 s7_12 s34_12 s4_12
 refine tail_nil ?_
 refine region_lex [] [(35, Pr.ex (i64 ((lacks ((digits m).take k) : Nat) : Int))), (36, Pr.ex (i64 (((lacks ((digits m).take k)) + 15 : Nat) : Int))), (37, Pr.ex (i64 (((digits m).getD k 0 : Nat) : Int))), (38, Pr.ex (i64 ((((lacks ((digits m).take k)) + 15) - ((digits m).getD k 0) : Nat) : Int)))] 4 hN_13 hD_13 (by kernel_rfl) (by kernel_rfl) ?_ ?_
 refine Asks.cons ?_ (Asks.cons ?_ (Asks.cons ?_ (Asks.cons ?_ (Asks.zero _))))
 exact Ask.plain rfl rfl fun aq wq hNq hO hR hT => does_move (V := i64 ((lacks ((digits m).take k) : Nat) : Int)) ((hO 5 rfl).trans s5_13) ⟨Ext.refl _, rfl⟩
 exact Ask.plain rfl rfl fun aq wq hNq hO hR hT => does_add (a := ((lacks ((digits m).take k) : Nat) : Int)) (b := ((15 : Nat) : Int)) (r := (((lacks ((digits m).take k)) + 15 : Nat) : Int)) (hT 35 rfl rfl) rfl (by omega) (by omega) (by omega) ⟨Ext.refl _, rfl⟩
 exact Ask.plain rfl rfl fun aq wq hNq hO hR hT => does_move (V := i64 (((digits m).getD k 0 : Nat) : Int)) ((hO 7 rfl).trans s7_13) ⟨Ext.refl _, rfl⟩
 exact Ask.plain rfl rfl fun aq wq hNq hO hR hT => does_sub (a := (((lacks ((digits m).take k)) + 15 : Nat) : Int)) (b := (((digits m).getD k 0 : Nat) : Int)) (r := ((((lacks ((digits m).take k)) + 15) - ((digits m).getD k 0) : Nat) : Int)) (hT 36 rfl rfl) (hT 37 rfl rfl) (by omega) (by omega) (by omega) ⟨Ext.refl _, rfl⟩
 intro a14 wd14 hN_14 hD_14 hO hR hA hU
 obtain ⟨_, _, _, t38, _⟩ := hA
 have hE_14 := hE_12.trans hR
 have s3_14 := (hO 3 rfl).trans s3_13
 have s4_14 := (hO 4 rfl).trans s4_13
 have s5_14 := (hO 5 rfl).trans s5_13
 have s6_14 := (hO 6 rfl).trans s6_13
 have hbb1_14 := hbb1_12.ext' hR
 have hsx33_14 := hsx33_12.ext' hR
 have hsx34_14 := hsx34_12.ext' hR
 have hox33_14 := hox33_12.ext' hR
 have hox34_14 := hox34_12.ext' hR
 have s38_14 : get a14 38 = i64 ((((lacks ((digits m).take k)) + 15) - ((digits m).getD k 0) : Nat) : Int) := t38
 clear hE_12 hN_13 hD_13 s3_13 s4_13 s5_13 s6_13 s7_13 hbb1_12 hsx33_12 hsx34_12 hox33_12 hox34_12
 refine tail_put rfl rfl hN_14 hD_14 (by decide) (does_assign (V := i64 ((((lacks ((digits m).take k)) + 15) - ((digits m).getD k 0) : Nat) : Int)) s38_14 (fun a15 hN_15 hD_15 hv hO => ?_))
 have s5_15 := hv
 have s3_15 := (hO 3 rfl).trans s3_14
 have s4_15 := (hO 4 rfl).trans s4_14
 have s6_15 := (hO 6 rfl).trans s6_14
 clear hO hv hN_14 hD_14 s3_14 s4_14 s6_14 s38_14 s5_14
 refine tail_nil ?_
 refine region_lex [] [(14, Pr.ex (i64 ((k : Nat) : Int))), (15, Pr.ex (i64 ((k + 1 : Nat) : Int)))] 2 hN_15 hD_15 (by kernel_rfl) (by kernel_rfl) ?_ ?_
 refine Asks.cons ?_ (Asks.cons ?_ (Asks.zero _))
 exact Ask.plain rfl rfl fun aq wq hNq hO hR hT => does_move (V := i64 ((k : Nat) : Int)) ((hO 6 rfl).trans s6_15) ⟨Ext.refl _, rfl⟩
 exact Ask.plain rfl rfl fun aq wq hNq hO hR hT => does_add (a := ((k : Nat) : Int)) (b := ((1 : Nat) : Int)) (r := ((k + 1 : Nat) : Int)) (hT 14 rfl rfl) rfl (by omega) (by omega) (by omega) ⟨Ext.refl _, rfl⟩
 intro a16 wd16 hN_16 hD_16 hO hR hA hU
 obtain ⟨_, t15, _⟩ := hA
 have hE_16 := hE_14.trans hR
 have s3_16 := (hO 3 rfl).trans s3_15
 have s4_16 := (hO 4 rfl).trans s4_15
 have s5_16 := (hO 5 rfl).trans s5_15
 have s6_16 := (hO 6 rfl).trans s6_15
 have hbb1_16 := hbb1_14.ext' hR
 have hsx33_16 := hsx33_14.ext' hR
 have hsx34_16 := hsx34_14.ext' hR
 have hox33_16 := hox33_14.ext' hR
 have hox34_16 := hox34_14.ext' hR
 have s15_16 : get a16 15 = i64 ((k + 1 : Nat) : Int) := t15
 clear hE_14 hN_15 hD_15 s3_15 s4_15 s5_15 s6_15 hbb1_14 hsx33_14 hsx34_14 hox33_14 hox34_14
 refine tail_put rfl rfl hN_16 hD_16 (by decide) (does_assign (V := i64 ((k + 1 : Nat) : Int)) s15_16 (fun a17 hN_17 hD_17 hv hO => ?_))
 have s6_17 := hv
 have s3_17 := (hO 3 rfl).trans s3_16
 have s4_17 := (hO 4 rfl).trans s4_16
 have s5_17 := (hO 5 rfl).trans s5_16
 clear hO hv hN_16 hD_16 s3_16 s4_16 s5_16 s15_16 s6_16
 refine tail_nil ?_
 exact ⟨_, by omega, k + 1, x34, rfl, hN_17, hD_17, s3_17, s4_17, (by rw [← hls2]; exact s5_17), s6_17, hE_16, hbb1_16, hox34_16, nbo_x34_b1, by omega⟩
 have hc1 := of_decide_eq_false hc1
 refine wp_skip ?_
 refine wp_seq ?_
 rw [show (((hexc ((digits m).getD k 0))) - 48).toNat = (digits m).getD k 0 from hexc_F hdle (by first | exact hc1 | (intro h; exact hc1 h))] at s7_9
 refine region_lex [] [(31, Pr.ex (xo)), (32, Pr.ex (i64 (((digits m).getD k 0 : Nat) : Int))), (33, Pr.own' NI wd9.heap.size 3 ([(digits m).getD k 0]))] 3 hN_9 hD_9 (by kernel_rfl) (by kernel_rfl) ?_ ?_
 refine Asks.cons ?_ (Asks.cons ?_ (Asks.cons ?_ (Asks.zero _)))
 exact Ask.plain rfl rfl fun aq wq hNq hO hR hT => does_move (V := xo) ((hO 4 rfl).trans s4_9) ⟨Ext.refl _, rfl⟩
 exact Ask.plain rfl rfl fun aq wq hNq hO hR hT => does_move (V := i64 (((digits m).getD k 0 : Nat) : Int)) ((hO 7 rfl).trans s7_9) ⟨Ext.refl _, rfl⟩
 exact Ask.plain rfl rfl fun aq wq hNq hO hR hT => does_slice1 (T := NI) (X := (digits m).getD k 0) (V := i64 (((digits m).getD k 0 : Nat) : Int)) app_137 rfl (by decide) (hT 32 rfl rfl) rfl (fun v w2 he _ ho => ⟨he, OwnT.base ho hR.size'⟩)
 intro a18 wd18 hN_18 hD_18 hO hR hA hU
 obtain ⟨t31, _, t33, _⟩ := hA
 have hE_18 := hE_9.trans hR
 have s3_18 := (hO 3 rfl).trans s3_9
 have s4_18 := (hO 4 rfl).trans s4_9
 have s5_18 := (hO 5 rfl).trans s5_9
 have s6_18 := (hO 6 rfl).trans s6_9
 have s7_18 := (hO 7 rfl).trans s7_9
 have hbb1_18 := hbb1_9.ext' hR
 have hsxo_18 := hsxo_9.ext' hR
 have hoxo_18 := hoxo_9.ext' hR
 have s31_18 : get a18 31 = xo := t31
 obtain ⟨x33_1, s33_18⟩ : ∃ x, get a18 33 = x := ⟨_, rfl⟩
 replace t33 : OwnT NI wd9.heap.size 3 ([(digits m).getD k 0]) x33_1 wd18 := by rw [← s33_18]; exact t33
 have nbo_x33_1_b1 : x33_1.ownBlock ≠ some b1 := fun e => Nat.lt_irrefl _ (Nat.lt_of_lt_of_le hbb1_9.lt (OwnT.block_lt t33 e).1)
 have no_x33_1_xo : ∀ k, x33_1.ownBlock = some k → xo.ownBlock ≠ some k := fun k e e' => Nat.lt_irrefl _ (Nat.lt_of_lt_of_le (OwnT.block_lt hoxo_9 e').2 (OwnT.block_lt t33 e).1)
 have hsx33_1_18 := t33.sl.wide (Nat.zero_le _) (.inl rfl)
 have hox33_1_18 := OwnT.base t33 hE_9.size'
 clear hE_9 hN_9 hD_9 s3_9 s4_9 s5_9 s6_9 s7_9 s24_9 hbb1_9 hsxo_9 hoxo_9
 refine tail_put rfl rfl hN_18 hD_18 (by decide) (does_append (T := NI) (base := w0.heap.size) (xs := (digits m).take k) (ys := [(digits m).getD k 0]) (v := xo) app_137 s31_18 hoxo_18 (SlT.at s33_18 hsx33_1_18) (by simp) (by simp only [List.length_take, List.length_cons, List.length_nil, digits_length]; omega) (by simp only [List.length_take, List.length_cons, List.length_nil, digits_length]; omega) hE_18.size' (fun x34_1 wd19 hX hox34_1_19 hk a19 hN_19 hD_19 hv hO => ?_))
 have hE_19 := hE_18.since hX (fun b hb => Nat.le_trans (Nat.le_refl _) (OwnT.block_lt hoxo_18 hb).1)
 have hbb1_19 := hbb1_18.ext hX nbo_xo_b1
 have nbo_x34_1_b1 : x34_1.ownBlock ≠ some b1 := fun e => (hk _ e).elim nbo_xo_b1 (fun h => Nat.lt_irrefl _ (Nat.lt_of_lt_of_le hbb1_18.lt h))
 have hox33_1_19 := OwnT.ext hox33_1_18 hX (fun k hk e => no_x33_1_xo k hk e)
 have no_x34_1_x33_1 : ∀ k, x34_1.ownBlock = some k → x33_1.ownBlock ≠ some k := fun k e e' => (hk k e).elim (fun h => no_x33_1_xo k e' h) (fun h => Nat.lt_irrefl _ (Nat.lt_of_lt_of_le (OwnT.block_lt hox33_1_18 e').2 h))
 have hsx33_1_19 := hox33_1_19.sl.wide (Nat.zero_le _) (.inl rfl)
 have hsx34_1_19 := hox34_1_19.sl.wide (Nat.zero_le _) (.inl rfl)
 rw [take_digit m hk32] at hox34_1_19 hsx34_1_19
 have s34_19 := hv
 have s3_19 := (hO 3 rfl).trans s3_18
 have s4_19 := (hO 4 rfl).trans s4_18
 have s5_19 := (hO 5 rfl).trans s5_18
 have s6_19 := (hO 6 rfl).trans s6_18
 have s7_19 := (hO 7 rfl).trans s7_18
 clear hO hv hX hk hN_18 hD_18 hE_18 hbb1_18 hox33_1_18 s3_18 s4_18 s5_18 s6_18 s7_18 s31_18 s33_18
 refine tail_put rfl rfl hN_19 hD_19 (by decide) (does_assign (V := x34_1) s34_19 (fun a20 hN_20 hD_20 hv hO => ?_))
 have s4_20 := hv
 have s3_20 := (hO 3 rfl).trans s3_19
 have s5_20 := (hO 5 rfl).trans s5_19
 have s6_20 := (hO 6 rfl).trans s6_19
 have s7_20 := (hO 7 rfl).trans s7_19
 clear hO hv hN_19 hD_19 s3_19 s5_19 s6_19 s7_19 s34_19 s4_19
 refine tail_nil ?_
 refine region_lex [] [(35, Pr.ex (i64 ((lacks ((digits m).take k) : Nat) : Int))), (36, Pr.ex (i64 (((lacks ((digits m).take k)) + 15 : Nat) : Int))), (37, Pr.ex (i64 (((digits m).getD k 0 : Nat) : Int))), (38, Pr.ex (i64 ((((lacks ((digits m).take k)) + 15) - ((digits m).getD k 0) : Nat) : Int)))] 4 hN_20 hD_20 (by kernel_rfl) (by kernel_rfl) ?_ ?_
 refine Asks.cons ?_ (Asks.cons ?_ (Asks.cons ?_ (Asks.cons ?_ (Asks.zero _))))
 exact Ask.plain rfl rfl fun aq wq hNq hO hR hT => does_move (V := i64 ((lacks ((digits m).take k) : Nat) : Int)) ((hO 5 rfl).trans s5_20) ⟨Ext.refl _, rfl⟩
 exact Ask.plain rfl rfl fun aq wq hNq hO hR hT => does_add (a := ((lacks ((digits m).take k) : Nat) : Int)) (b := ((15 : Nat) : Int)) (r := (((lacks ((digits m).take k)) + 15 : Nat) : Int)) (hT 35 rfl rfl) rfl (by omega) (by omega) (by omega) ⟨Ext.refl _, rfl⟩
 exact Ask.plain rfl rfl fun aq wq hNq hO hR hT => does_move (V := i64 (((digits m).getD k 0 : Nat) : Int)) ((hO 7 rfl).trans s7_20) ⟨Ext.refl _, rfl⟩
 exact Ask.plain rfl rfl fun aq wq hNq hO hR hT => does_sub (a := (((lacks ((digits m).take k)) + 15 : Nat) : Int)) (b := (((digits m).getD k 0 : Nat) : Int)) (r := ((((lacks ((digits m).take k)) + 15) - ((digits m).getD k 0) : Nat) : Int)) (hT 36 rfl rfl) (hT 37 rfl rfl) (by omega) (by omega) (by omega) ⟨Ext.refl _, rfl⟩
 intro a21 wd21 hN_21 hD_21 hO hR hA hU
 obtain ⟨_, _, _, t38, _⟩ := hA
 have hE_21 := hE_19.trans hR
 have s3_21 := (hO 3 rfl).trans s3_20
 have s4_21 := (hO 4 rfl).trans s4_20
 have s5_21 := (hO 5 rfl).trans s5_20
 have s6_21 := (hO 6 rfl).trans s6_20
 have hbb1_21 := hbb1_19.ext' hR
 have hsx33_1_21 := hsx33_1_19.ext' hR
 have hsx34_1_21 := hsx34_1_19.ext' hR
 have hox33_1_21 := hox33_1_19.ext' hR
 have hox34_1_21 := hox34_1_19.ext' hR
 have s38_21 : get a21 38 = i64 ((((lacks ((digits m).take k)) + 15) - ((digits m).getD k 0) : Nat) : Int) := t38
 clear hE_19 hN_20 hD_20 s3_20 s4_20 s5_20 s6_20 s7_20 hbb1_19 hsx33_1_19 hsx34_1_19 hox33_1_19 hox34_1_19
 refine tail_put rfl rfl hN_21 hD_21 (by decide) (does_assign (V := i64 ((((lacks ((digits m).take k)) + 15) - ((digits m).getD k 0) : Nat) : Int)) s38_21 (fun a22 hN_22 hD_22 hv hO => ?_))
 have s5_22 := hv
 have s3_22 := (hO 3 rfl).trans s3_21
 have s4_22 := (hO 4 rfl).trans s4_21
 have s6_22 := (hO 6 rfl).trans s6_21
 clear hO hv hN_21 hD_21 s3_21 s4_21 s6_21 s38_21 s5_21
 refine tail_nil ?_
 refine region_lex [] [(14, Pr.ex (i64 ((k : Nat) : Int))), (15, Pr.ex (i64 ((k + 1 : Nat) : Int)))] 2 hN_22 hD_22 (by kernel_rfl) (by kernel_rfl) ?_ ?_
 refine Asks.cons ?_ (Asks.cons ?_ (Asks.zero _))
 exact Ask.plain rfl rfl fun aq wq hNq hO hR hT => does_move (V := i64 ((k : Nat) : Int)) ((hO 6 rfl).trans s6_22) ⟨Ext.refl _, rfl⟩
 exact Ask.plain rfl rfl fun aq wq hNq hO hR hT => does_add (a := ((k : Nat) : Int)) (b := ((1 : Nat) : Int)) (r := ((k + 1 : Nat) : Int)) (hT 14 rfl rfl) rfl (by omega) (by omega) (by omega) ⟨Ext.refl _, rfl⟩
 intro a23 wd23 hN_23 hD_23 hO hR hA hU
 obtain ⟨_, t15, _⟩ := hA
 have hE_23 := hE_21.trans hR
 have s3_23 := (hO 3 rfl).trans s3_22
 have s4_23 := (hO 4 rfl).trans s4_22
 have s5_23 := (hO 5 rfl).trans s5_22
 have s6_23 := (hO 6 rfl).trans s6_22
 have hbb1_23 := hbb1_21.ext' hR
 have hsx33_1_23 := hsx33_1_21.ext' hR
 have hsx34_1_23 := hsx34_1_21.ext' hR
 have hox33_1_23 := hox33_1_21.ext' hR
 have hox34_1_23 := hox34_1_21.ext' hR
 have s15_23 : get a23 15 = i64 ((k + 1 : Nat) : Int) := t15
 clear hE_21 hN_22 hD_22 s3_22 s4_22 s5_22 s6_22 hbb1_21 hsx33_1_21 hsx34_1_21 hox33_1_21 hox34_1_21
 refine tail_put rfl rfl hN_23 hD_23 (by decide) (does_assign (V := i64 ((k + 1 : Nat) : Int)) s15_23 (fun a24 hN_24 hD_24 hv hO => ?_))
 have s6_24 := hv
 have s3_24 := (hO 3 rfl).trans s3_23
 have s4_24 := (hO 4 rfl).trans s4_23
 have s5_24 := (hO 5 rfl).trans s5_23
 clear hO hv hN_23 hD_23 s3_23 s4_23 s5_23 s15_23 s6_23
 refine tail_nil ?_
 exact ⟨_, by omega, k + 1, x34_1, rfl, hN_24, hD_24, s3_24, s4_24, (by rw [← hls2]; exact s5_24), s6_24, hE_23, hbb1_23, hox34_1_23, nbo_x34_1_b1, by omega⟩
 have hc0 := of_decide_eq_false hc0
 have hdt := digits_all m (n := k) (by have := digits_length m; simp only [List.length_map] at hc0; omega)
 have hda : lacks ((digits m).take k) = lacks (digits m) := by rw [hdt]
 have hlt := lacks_small m k
 refine wp_exit ?_
 refine wp_seq ?_
 refine region_lex [] [(39, Pr.ex (xo)), (40, Pr.ex (i64 ((lacks ((digits m).take k) : Nat) : Int))), (41, Pr.ex (i64 ((lacks ((digits m).take k) / 256 : Nat) : Int))), (42, Pr.ex (i64 ((lacks ((digits m).take k) : Nat) : Int))), (43, Pr.ex (i64 ((lacks ((digits m).take k) / 16 : Nat) : Int))), (44, Pr.ex (i64 ((lacks ((digits m).take k) / 16 % 16 : Nat) : Int))), (45, Pr.ex (i64 ((lacks ((digits m).take k) : Nat) : Int))), (46, Pr.ex (i64 ((lacks ((digits m).take k) % 16 : Nat) : Int))), (47, Pr.own' NI wd7.heap.size 3 ([lacks ((digits m).take k) / 256, lacks ((digits m).take k) / 16 % 16, lacks ((digits m).take k) % 16]))] 9 hN_7 hD_7 (by kernel_rfl) (by kernel_rfl) ?_ ?_
 refine Asks.cons ?_ (Asks.cons ?_ (Asks.cons ?_ (Asks.cons ?_ (Asks.cons ?_ (Asks.cons ?_ (Asks.cons ?_ (Asks.cons ?_ (Asks.cons ?_ (Asks.zero _)))))))))
 exact Ask.plain rfl rfl fun aq wq hNq hO hR hT => does_move (V := xo) ((hO 4 rfl).trans s4_7) ⟨Ext.refl _, rfl⟩
 exact Ask.plain rfl rfl fun aq wq hNq hO hR hT => does_move (V := i64 ((lacks ((digits m).take k) : Nat) : Int)) ((hO 5 rfl).trans s5_7) ⟨Ext.refl _, rfl⟩
 exact Ask.plain rfl rfl fun aq wq hNq hO hR hT => does_quo (a := ((lacks ((digits m).take k) : Nat) : Int)) (b := ((256 : Nat) : Int)) (r := ((lacks ((digits m).take k) / 256 : Nat) : Int)) (hT 40 rfl rfl) rfl (by omega) (by omega) (by omega) (by omega) ⟨Ext.refl _, rfl⟩
 exact Ask.plain rfl rfl fun aq wq hNq hO hR hT => does_move (V := i64 ((lacks ((digits m).take k) : Nat) : Int)) ((hO 5 rfl).trans s5_7) ⟨Ext.refl _, rfl⟩
 exact Ask.plain rfl rfl fun aq wq hNq hO hR hT => does_quo (a := ((lacks ((digits m).take k) : Nat) : Int)) (b := ((16 : Nat) : Int)) (r := ((lacks ((digits m).take k) / 16 : Nat) : Int)) (hT 42 rfl rfl) rfl (by omega) (by omega) (by omega) (by omega) ⟨Ext.refl _, rfl⟩
 exact Ask.plain rfl rfl fun aq wq hNq hO hR hT => does_rem (k := .i64) (a := ((lacks ((digits m).take k) / 16 : Nat) : Int)) (b := ((16 : Nat) : Int)) (r := ((lacks ((digits m).take k) / 16 % 16 : Nat) : Int)) (hT 43 rfl rfl) rfl (by omega) (by omega) (by omega) ⟨Ext.refl _, rfl⟩
 exact Ask.plain rfl rfl fun aq wq hNq hO hR hT => does_move (V := i64 ((lacks ((digits m).take k) : Nat) : Int)) ((hO 5 rfl).trans s5_7) ⟨Ext.refl _, rfl⟩
 exact Ask.plain rfl rfl fun aq wq hNq hO hR hT => does_rem (k := .i64) (a := ((lacks ((digits m).take k) : Nat) : Int)) (b := ((16 : Nat) : Int)) (r := ((lacks ((digits m).take k) % 16 : Nat) : Int)) (hT 45 rfl rfl) rfl (by omega) (by omega) (by omega) ⟨Ext.refl _, rfl⟩
 exact Ask.plain rfl rfl fun aq wq hNq hO hR hT => does_sliceN (T := NI) (xs := [lacks ((digits m).take k) / 256, lacks ((digits m).take k) / 16 % 16, lacks ((digits m).take k) % 16]) (vs := [i64 ((lacks ((digits m).take k) / 256 : Nat) : Int), i64 ((lacks ((digits m).take k) / 16 % 16 : Nat) : Int), i64 ((lacks ((digits m).take k) % 16 : Nat) : Int)]) app_137 rfl (parts3 (hT 41 rfl rfl) (hT 44 rfl rfl) (hT 46 rfl rfl)) rfl (by decide) (by decide) rfl (fun v w2 he _ ho => ⟨he, OwnT.base ho hR.size'⟩)
 intro a25 wd25 hN_25 hD_25 hO hR hA hU
 obtain ⟨t39, _, _, _, _, _, _, _, t47, _⟩ := hA
 have hE_25 := hE_7.trans hR
 have hbb1_25 := hbb1_7.ext' hR
 have hsxo_25 := hsxo_7.ext' hR
 have hoxo_25 := hoxo_7.ext' hR
 have s39_25 : get a25 39 = xo := t39
 obtain ⟨x47, s47_25⟩ : ∃ x, get a25 47 = x := ⟨_, rfl⟩
 replace t47 : OwnT NI wd7.heap.size 3 ([lacks ((digits m).take k) / 256, lacks ((digits m).take k) / 16 % 16, lacks ((digits m).take k) % 16]) x47 wd25 := by rw [← s47_25]; exact t47
 have nbo_x47_b1 : x47.ownBlock ≠ some b1 := fun e => Nat.lt_irrefl _ (Nat.lt_of_lt_of_le hbb1_7.lt (OwnT.block_lt t47 e).1)
 have no_x47_xo : ∀ k, x47.ownBlock = some k → xo.ownBlock ≠ some k := fun k e e' => Nat.lt_irrefl _ (Nat.lt_of_lt_of_le (OwnT.block_lt hoxo_7 e').2 (OwnT.block_lt t47 e).1)
 have hsx47_25 := t47.sl.wide (Nat.zero_le _) (.inl rfl)
 have hox47_25 := OwnT.base t47 hE_7.size'
 clear hE_7 hN_7 hD_7 s3_7 s4_7 s5_7 s6_7 s13_7 hbb1_7 hsxo_7 hoxo_7
 refine tail_put rfl rfl hN_25 hD_25 (by decide) (does_append (T := NI) (base := w0.heap.size) (xs := (digits m).take k) (ys := [lacks ((digits m).take k) / 256, lacks ((digits m).take k) / 16 % 16, lacks ((digits m).take k) % 16]) (v := xo) app_137 s39_25 hoxo_25 (SlT.at s47_25 hsx47_25) (by simp) (by simp only [List.length_take, List.length_cons, List.length_nil, digits_length]; omega) (by simp only [List.length_take, List.length_cons, List.length_nil, digits_length]; omega) hE_25.size' (fun x48 wd26 hX hox48_26 hk a26 hN_26 hD_26 hv hO => ?_))
 have hE_26 := hE_25.since hX (fun b hb => Nat.le_trans (Nat.le_refl _) (OwnT.block_lt hoxo_25 hb).1)
 have hbb1_26 := hbb1_25.ext hX nbo_xo_b1
 have nbo_x48_b1 : x48.ownBlock ≠ some b1 := fun e => (hk _ e).elim nbo_xo_b1 (fun h => Nat.lt_irrefl _ (Nat.lt_of_lt_of_le hbb1_25.lt h))
 have hox47_26 := OwnT.ext hox47_25 hX (fun k hk e => no_x47_xo k hk e)
 have no_x48_x47 : ∀ k, x48.ownBlock = some k → x47.ownBlock ≠ some k := fun k e e' => (hk k e).elim (fun h => no_x47_xo k e' h) (fun h => Nat.lt_irrefl _ (Nat.lt_of_lt_of_le (OwnT.block_lt hox47_25 e').2 h))
 have hsx47_26 := hox47_26.sl.wide (Nat.zero_le _) (.inl rfl)
 have hsx48_26 := hox48_26.sl.wide (Nat.zero_le _) (.inl rfl)
 rw [(show (digits m).take k ++ [lacks ((digits m).take k) / 256, lacks ((digits m).take k) / 16 % 16, lacks ((digits m).take k) % 16] = steps m from by rw [hdt, lacks_div]; rfl)] at hox48_26 hsx48_26
 have s48_26 := hv
 clear hO hv hX hk hN_25 hD_25 hE_25 hbb1_25 hox47_25 s39_25 s47_25
 refine tail_put rfl rfl hN_26 hD_26 (by decide) (does_assign (V := x48) s48_26 (fun a27 hN_27 hD_27 hv hO => ?_))
 have s2_27 := hv
 clear hO hv hN_26 hD_26 s48_26
 refine tail_nil ?_
 refine wp_ret ?_
 refine res_one (V := x48) rfl hD_27 s2_27 ?_
 exact ⟨hox48_26, hE_26⟩

end Go.Proofs.YtijfjpbahepegaaDoor
