/- The walks of functions of the program: printed. -/
import Derived.Test.YtaeohnkfmachfabDoorKB
import Derived.Test.YtaeohnkfmachfabDoorG94
import Derived.Test.YtaeohnkfmachfabDoorG101
import Derived.Test.YtaeohnkfmachfabDoorG107
import Derived.Test.YtaeohnkfmachfabDoorF0
set_option maxRecDepth 100000
namespace Go.Proofs.YtaeohnkfmachfabDoor
open Go Go.RowKit Sk Sd
theorem call_7 : Callable Tryd.prog 7 := ⟨_, Tryd.func7, by kernel_rfl, rfl⟩
theorem call_9 : Callable Tryd.prog 9 := ⟨_, Tryd.func9, by kernel_rfl, rfl⟩
theorem call_10 : Callable Tryd.prog 10 := ⟨_, Tryd.func10, by kernel_rfl, rfl⟩
theorem eq_30 : EqIs Tryd.prog 30 Signer.val := eq_signer ⟨by kernel_rfl, by kernel_rfl, by kernel_rfl, by kernel_rfl⟩ Tryd.underlying3 dgis (by kernel_rfl)
theorem keysPublic (seed : Dg) (h : Int) (w0 : World) (hL : Laid w0) :
    Gives Tryd.prog 3 #[Dg.val (seed), i64 (h)] w0 (Pr.ex (Value.bool true)) := by
 refine enter (N := 70) Tryd.func3 rfl rfl ?_
 intro a0 hN_0 hD_0 hA
 have s0_0 : get a0 0 = Dg.val (seed) := hA 0 _ rfl
 have s1_0 : get a0 1 = i64 (h) := hA 1 _ rfl
 clear hA
 have hE_0 : Ext w0 w0 := Ext.refl w0
 refine wp_seq ?_
 refine region_lex [2] [(2, Pr.box' w0.heap.size 24 [w32 (seed).a, w32 (seed).b, w32 (seed).c, w32 (seed).d]), (4, Pr.ex (Value.bool (false)))] 2 hN_0 hD_0 (by kernel_rfl) (by kernel_rfl) ?_ ?_
 refine Asks.cons ?_ (Asks.cons ?_ (Asks.zero _))
 refine Ask.fresh rfl rfl ?_
 intro aq wq hNq hO hR hT
 exact does_box (V := Dg.val (seed)) ((hO 0 rfl).trans s0_0) (fun b w2 he hlo hb => ⟨he, ⟨b, rfl, Nat.le_trans hR.size' hlo, hb⟩, ⟨b, rfl, hlo, hb.lt⟩⟩)
 exact Ask.plain rfl rfl fun aq wq hNq hO hR hT => does_assign (V := Value.bool (false)) rfl ⟨Ext.refl _, rfl⟩
 intro a1 wd1 hN_1 hD_1 hO hR hA hU
 obtain ⟨t2, _, _⟩ := hA
 have hE_1 := hE_0.trans hR
 have s1_1 := (hO 1 rfl).trans s1_0
 obtain ⟨b2, s2_1, lo_b2, hbb2_1⟩ := t2
 have fr_b2 : w0.heap.size ≤ b2 := Nat.le_trans hE_0.size' lo_b2
 clear hE_0 hN_0 hD_0 s0_0 s1_0
 refine tail_nil ?_
 refine wp_seq ?_
 refine wp_seq ?_
 refine region_lex [] [(11, Pr.ex (Value.bool (true))), (12, Pr.ex (Value.bool (false)))] 2 hN_1 hD_1 (by kernel_rfl) (by kernel_rfl) ?_ ?_
 refine Asks.cons ?_ (Asks.cons ?_ (Asks.zero _))
 exact Ask.plain rfl rfl fun aq wq hNq hO hR hT => does_ret (vs := #[]) call_7 args0 rfl ((awake06 wq (hL.ext (hE_1.trans hR))).mono fun v w2 h => ⟨h.2, h.1⟩)
 exact Ask.plain rfl rfl fun aq wq hNq hO hR hT => does_not (B := true) (hT 11 rfl rfl) ⟨Ext.refl _, rfl⟩
 intro a2 wd2 hN_2 hD_2 hO hR hA hU
 obtain ⟨_, t12, _⟩ := hA
 have hE_2 := hE_1.trans hR
 have s1_2 := (hO 1 rfl).trans s1_1
 have s2_2 := (hO 2 rfl).trans s2_1
 have hbb2_2 := hbb2_1.ext' hR
 have s12_2 : get a2 12 = Value.bool (false) := t12
 clear hE_1 hN_1 hD_1 s1_1 s2_1 hbb2_1
 refine tail_nil ?_
 refine wp_ifF s12_2 ?_
 refine wp_skip ?_
 refine wp_seq ?_
 refine wp_seq ?_
 refine region_lex [] [(13, Pr.ex (i64 (h))), (14, Pr.ex (Value.bool (decide (h = ((3 : Nat) : Int))))), (15, Pr.ex (Value.bool (decide (h = ((3 : Nat) : Int))))), (16, Pr.ifb (!(decide (h = ((3 : Nat) : Int)))) (Pr.ex (i64 (h)))), (17, Pr.ifb (!(decide (h = ((3 : Nat) : Int)))) (Pr.ex (Value.bool (decide (h = ((4 : Nat) : Int)))))), (18, Pr.ex (Value.bool ((decide (h = ((3 : Nat) : Int))) || (decide (h = ((4 : Nat) : Int))))))] 6 hN_2 hD_2 (by kernel_rfl) (by kernel_rfl) ?_ ?_
 refine Asks.cons ?_ (Asks.cons ?_ (Asks.cons ?_ (Asks.cons ?_ (Asks.cons ?_ (Asks.cons ?_ (Asks.zero _))))))
 exact Ask.plain rfl rfl fun aq wq hNq hO hR hT => does_move (V := i64 (h)) ((hO 1 rfl).trans s1_2) ⟨Ext.refl _, rfl⟩
 exact Ask.plain rfl rfl fun aq wq hNq hO hR hT => does_eql (a := h) (b := ((3 : Nat) : Int)) (hT 13 rfl rfl) rfl ⟨Ext.refl _, rfl⟩
 exact Ask.plain rfl rfl fun aq wq hNq hO hR hT => does_move (V := Value.bool (decide (h = ((3 : Nat) : Int)))) (hT 14 rfl rfl) ⟨Ext.refl _, rfl⟩
 refine Ask.guarded (B := decide (h = ((3 : Nat) : Int))) (want := false) (t := 15) rfl rfl rfl rfl (by decide) (fun aq wq hO hR hT => hT 15 rfl rfl) (fun hG aq wq hNq hO hR hT => ?_) (fun hno _ => fun hc => absurd (bn hc) hno)
 replace hG := nb hG
 exact does_move (V := i64 (h)) ((hO 1 rfl).trans s1_2) ⟨Ext.refl _, fun _ => rfl⟩
 refine Ask.guarded (B := decide (h = ((3 : Nat) : Int))) (want := false) (t := 15) rfl rfl rfl rfl (by decide) (fun aq wq hO hR hT => hT 15 rfl rfl) (fun hG aq wq hNq hO hR hT => ?_) (fun hno _ => fun hc => absurd (bn hc) hno)
 replace hG := nb hG
 exact does_eql (a := h) (b := ((4 : Nat) : Int)) (hT 16 rfl rfl hG) rfl ⟨Ext.refl _, fun _ => rfl⟩
 exact Ask.plain rfl rfl fun aq wq hNq hO hR hT => does_or (B := decide (h = ((3 : Nat) : Int))) (X := decide (h = ((4 : Nat) : Int))) (hT 15 rfl rfl) rfl (fun hB => (hT 17 rfl rfl (nb hB))) ⟨Ext.refl _, rfl⟩
 intro a3 wd3 hN_3 hD_3 hO hR hA hU
 obtain ⟨_, _, _, _, _, t18, _⟩ := hA
 have hE_3 := hE_2.trans hR
 have s1_3 := (hO 1 rfl).trans s1_2
 have s2_3 := (hO 2 rfl).trans s2_2
 have hbb2_3 := hbb2_2.ext' hR
 have s18_3 : get a3 18 = Value.bool ((decide (h = ((3 : Nat) : Int))) || (decide (h = ((4 : Nat) : Int)))) := t18
 clear hE_2 hN_2 hD_2 s1_2 s2_2 s12_2 hbb2_2
 refine tail_nil ?_
 refine wp_if (B := (decide (h = ((3 : Nat) : Int))) || (decide (h = ((4 : Nat) : Int)))) s18_3 (fun hc0 => ?_) (fun hc0 => ?_)
 refine wp_seq ?_
 refine region_lex [] [(4, Pr.ex (Value.bool (true)))] 1 hN_3 hD_3 (by kernel_rfl) (by kernel_rfl) ?_ ?_
 refine Asks.cons ?_ (Asks.zero _)
 exact Ask.plain rfl rfl fun aq wq hNq hO hR hT => does_assign (V := Value.bool (true)) rfl ⟨Ext.refl _, rfl⟩
 intro a4 wd4 hN_4 hD_4 hO hR hA hU
 obtain ⟨t4, _⟩ := hA
 have hE_4 := hE_3.trans hR
 have hbb2_4 := hbb2_3.ext' hR
 have s4_4 : get a4 4 = Value.bool (true) := t4
 clear hE_3 hN_3 hD_3 s1_3 s2_3 s18_3 hbb2_3
 refine tail_nil ?_
 refine wp_ret ?_
 refine res_one (V := Value.bool (true)) rfl hD_4 s4_4 ?_
 exact ⟨rfl, hE_4⟩
 refine wp_skip ?_
 refine wp_seq ?_
 refine region_lex [5] [(20, Pr.ex (Dg.val (seed))), (21, Pr.ex (i64 (h))), (22, Pr.ex (Value.tuple #[Dg.val ((keyPub seed h).1), i64 (((keyPub seed h).2 : Nat) : Int)])), (19, Pr.ex (Value.tuple #[Dg.val ((keyPub seed h).1), i64 (((keyPub seed h).2 : Nat) : Int)])), (23, Pr.ex (Dg.val ((keyPub seed h).1))), (24, Pr.ex (i64 (((keyPub seed h).2 : Nat) : Int))), (5, Pr.box' wd3.heap.size 24 [w32 (Dg.zero).a, w32 (Dg.zero).b, w32 (Dg.zero).c, w32 (Dg.zero).d])] 7 hN_3 hD_3 (by kernel_rfl) (by kernel_rfl) ?_ ?_
 refine Asks.cons ?_ (Asks.cons ?_ (Asks.cons ?_ (Asks.cons ?_ (Asks.cons ?_ (Asks.cons ?_ (Asks.cons ?_ (Asks.zero _)))))))
 exact Ask.plain rfl rfl fun aq wq hNq hO hR hT => does_loadD (o := 0) (n := 4) (mid := [w32 (seed).a, w32 (seed).b, w32 (seed).c, w32 (seed).d]) ((hO 2 rfl).trans s2_3) (hbb2_3.ext' hR) rfl rfl (Nat.le_of_ble_eq_true rfl) row_24 rfl ⟨Ext.refl _, rfl⟩
 exact Ask.plain rfl rfl fun aq wq hNq hO hR hT => does_move (V := i64 (h)) ((hO 1 rfl).trans s1_3) ⟨Ext.refl _, rfl⟩
 exact Ask.plain rfl rfl fun aq wq hNq hO hR hT => does_ret (vs := #[Dg.val (seed), i64 (h)]) call_8 (args2 (hT 20 rfl rfl) (hT 21 rfl rfl)) rfl ((keyPub_ seed h wq (hL.ext (hE_3.trans hR))).mono fun v w2 h => ⟨h.2, h.1⟩)
 exact Ask.plain rfl rfl fun aq wq hNq hO hR hT => does_move (V := Value.tuple #[Dg.val ((keyPub seed h).1), i64 (((keyPub seed h).2 : Nat) : Int)]) (hT 22 rfl rfl) ⟨Ext.refl _, rfl⟩
 exact Ask.plain rfl rfl fun aq wq hNq hO hR hT => does_extract (V := Dg.val ((keyPub seed h).1)) (hT 19 rfl rfl) rfl ⟨Ext.refl _, rfl⟩
 exact Ask.plain rfl rfl fun aq wq hNq hO hR hT => does_extract (V := i64 (((keyPub seed h).2 : Nat) : Int)) (hT 19 rfl rfl) rfl ⟨Ext.refl _, rfl⟩
 refine Ask.fresh rfl rfl ?_
 intro aq wq hNq hO hR hT
 exact does_alloc zero_24 (fun b w2 he hlo hb => ⟨he, ⟨b, rfl, Nat.le_trans hR.size' hlo, hb⟩, ⟨b, rfl, hlo, hb.lt⟩⟩)
 intro a5 wd5 hN_5 hD_5 hO hR hA hU
 obtain ⟨_, _, _, _, t23, t24, t5, _⟩ := hA
 have hE_5 := hE_3.trans hR
 have s1_5 := (hO 1 rfl).trans s1_3
 have s2_5 := (hO 2 rfl).trans s2_3
 have hbb2_5 := hbb2_3.ext' hR
 have s23_5 : get a5 23 = Dg.val ((keyPub seed h).1) := t23
 have s24_5 : get a5 24 = i64 (((keyPub seed h).2 : Nat) : Int) := t24
 obtain ⟨b5, s5_5, lo_b5, hbb5_5⟩ := t5
 have ne_b2_b5 : b2 ≠ b5 := fun e => Nat.lt_irrefl _ (Nat.lt_of_lt_of_le hbb2_3.lt (e ▸ lo_b5))
 have fr_b5 : w0.heap.size ≤ b5 := Nat.le_trans hE_3.size' lo_b5
 clear hE_3 hN_3 hD_3 s1_3 s2_3 s18_3 hbb2_3
 refine tail_none rfl rfl (does_storeD (o := 0) (n := 4) (cs' := [w32 ((keyPub seed h).1).a, w32 ((keyPub seed h).1).b, w32 ((keyPub seed h).1).c, w32 ((keyPub seed h).1).d]) (V := Dg.val ((keyPub seed h).1)) s5_5 s23_5 hbb5_5 (Nat.le_of_ble_eq_true rfl) rfl siz_24 rfl rfl (fun wd6 hX hz hbb5_6 => ?_))
 have hE_6 := hE_5.since hX (fun k e => e ▸ fr_b5)
 have hbb2_6 := hbb2_5.ext hX ne_b2_b5
 clear hX hz hE_5 hbb2_5 hbb5_5
 refine tail_put rfl rfl hN_5 hD_5 (by decide) (does_assign (V := i64 (((keyPub seed h).2 : Nat) : Int)) s24_5 (fun a7 hN_7 hD_7 hv hO => ?_))
 have s6_7 := hv
 have s1_7 := (hO 1 rfl).trans s1_5
 have s2_7 := (hO 2 rfl).trans s2_5
 have s5_7 := (hO 5 rfl).trans s5_5
 clear hO hv hN_5 hD_5 s1_5 s2_5 s5_5 s23_5 s24_5
 refine tail_nil ?_
 refine wp_seq ?_
 refine region_lex [7] [(26, Pr.ex (Dg.val (seed))), (27, Pr.ex (i64 (h))), (28, Pr.ex (Value.tuple #[Dg.val ((keyPub seed h).1), i64 (((keyPub seed h).2 : Nat) : Int)])), (25, Pr.ex (Value.tuple #[Dg.val ((keyPub seed h).1), i64 (((keyPub seed h).2 : Nat) : Int)])), (29, Pr.ex (Dg.val ((keyPub seed h).1))), (30, Pr.ex (i64 (((keyPub seed h).2 : Nat) : Int))), (7, Pr.box' wd6.heap.size 24 [w32 (Dg.zero).a, w32 (Dg.zero).b, w32 (Dg.zero).c, w32 (Dg.zero).d])] 7 hN_7 hD_7 (by kernel_rfl) (by kernel_rfl) ?_ ?_
 refine Asks.cons ?_ (Asks.cons ?_ (Asks.cons ?_ (Asks.cons ?_ (Asks.cons ?_ (Asks.cons ?_ (Asks.cons ?_ (Asks.zero _)))))))
 exact Ask.plain rfl rfl fun aq wq hNq hO hR hT => does_loadD (o := 0) (n := 4) (mid := [w32 (seed).a, w32 (seed).b, w32 (seed).c, w32 (seed).d]) ((hO 2 rfl).trans s2_7) (hbb2_6.ext' hR) rfl rfl (Nat.le_of_ble_eq_true rfl) row_24 rfl ⟨Ext.refl _, rfl⟩
 exact Ask.plain rfl rfl fun aq wq hNq hO hR hT => does_move (V := i64 (h)) ((hO 1 rfl).trans s1_7) ⟨Ext.refl _, rfl⟩
 exact Ask.plain rfl rfl fun aq wq hNq hO hR hT => does_ret (vs := #[Dg.val (seed), i64 (h)]) call_9 (args2 (hT 26 rfl rfl) (hT 27 rfl rfl)) rfl ((keyPubR seed h wq).mono fun v w2 h => ⟨h.2, h.1⟩)
 exact Ask.plain rfl rfl fun aq wq hNq hO hR hT => does_move (V := Value.tuple #[Dg.val ((keyPub seed h).1), i64 (((keyPub seed h).2 : Nat) : Int)]) (hT 28 rfl rfl) ⟨Ext.refl _, rfl⟩
 exact Ask.plain rfl rfl fun aq wq hNq hO hR hT => does_extract (V := Dg.val ((keyPub seed h).1)) (hT 25 rfl rfl) rfl ⟨Ext.refl _, rfl⟩
 exact Ask.plain rfl rfl fun aq wq hNq hO hR hT => does_extract (V := i64 (((keyPub seed h).2 : Nat) : Int)) (hT 25 rfl rfl) rfl ⟨Ext.refl _, rfl⟩
 refine Ask.fresh rfl rfl ?_
 intro aq wq hNq hO hR hT
 exact does_alloc zero_24 (fun b w2 he hlo hb => ⟨he, ⟨b, rfl, Nat.le_trans hR.size' hlo, hb⟩, ⟨b, rfl, hlo, hb.lt⟩⟩)
 intro a8 wd8 hN_8 hD_8 hO hR hA hU
 obtain ⟨_, _, _, _, t29, t30, t7, _⟩ := hA
 have hE_8 := hE_6.trans hR
 have s1_8 := (hO 1 rfl).trans s1_7
 have s2_8 := (hO 2 rfl).trans s2_7
 have s5_8 := (hO 5 rfl).trans s5_7
 have s6_8 := (hO 6 rfl).trans s6_7
 have hbb2_8 := hbb2_6.ext' hR
 have hbb5_8 := hbb5_6.ext' hR
 have s29_8 : get a8 29 = Dg.val ((keyPub seed h).1) := t29
 have s30_8 : get a8 30 = i64 (((keyPub seed h).2 : Nat) : Int) := t30
 obtain ⟨b7, s7_8, lo_b7, hbb7_8⟩ := t7
 have ne_b2_b7 : b2 ≠ b7 := fun e => Nat.lt_irrefl _ (Nat.lt_of_lt_of_le hbb2_6.lt (e ▸ lo_b7))
 have ne_b5_b7 : b5 ≠ b7 := fun e => Nat.lt_irrefl _ (Nat.lt_of_lt_of_le hbb5_6.lt (e ▸ lo_b7))
 have fr_b7 : w0.heap.size ≤ b7 := Nat.le_trans hE_6.size' lo_b7
 clear hE_6 hN_7 hD_7 s1_7 s2_7 s5_7 s6_7 hbb2_6 hbb5_6
 refine tail_none rfl rfl (does_storeD (o := 0) (n := 4) (cs' := [w32 ((keyPub seed h).1).a, w32 ((keyPub seed h).1).b, w32 ((keyPub seed h).1).c, w32 ((keyPub seed h).1).d]) (V := Dg.val ((keyPub seed h).1)) s7_8 s29_8 hbb7_8 (Nat.le_of_ble_eq_true rfl) rfl siz_24 rfl rfl (fun wd9 hX hz hbb7_9 => ?_))
 have hE_9 := hE_8.since hX (fun k e => e ▸ fr_b7)
 have hbb2_9 := hbb2_8.ext hX ne_b2_b7
 have hbb5_9 := hbb5_8.ext hX ne_b5_b7
 clear hX hz hE_8 hbb2_8 hbb5_8 hbb7_8
 refine tail_put rfl rfl hN_8 hD_8 (by decide) (does_assign (V := i64 (((keyPub seed h).2 : Nat) : Int)) s30_8 (fun a10 hN_10 hD_10 hv hO => ?_))
 have s8_10 := hv
 have s1_10 := (hO 1 rfl).trans s1_8
 have s2_10 := (hO 2 rfl).trans s2_8
 have s5_10 := (hO 5 rfl).trans s5_8
 have s6_10 := (hO 6 rfl).trans s6_8
 have s7_10 := (hO 7 rfl).trans s7_8
 clear hO hv hN_8 hD_8 s1_8 s2_8 s5_8 s6_8 s7_8 s29_8 s30_8
 refine tail_nil ?_
 refine wp_seq ?_
 refine region_lex [9] [(32, Pr.ex (Dg.val (seed))), (33, Pr.ex (i64 (h))), (34, Pr.ex (Value.tuple #[Value.agg #[w32 ((keyNew seed h).1).a, w32 ((keyNew seed h).1).b, w32 ((keyNew seed h).1).c, w32 ((keyNew seed h).1).d, i64 ((keyNew seed h).2.1), i64 (0)], i64 (((keyNew seed h).2.2 : Nat) : Int)])), (31, Pr.ex (Value.tuple #[Value.agg #[w32 ((keyNew seed h).1).a, w32 ((keyNew seed h).1).b, w32 ((keyNew seed h).1).c, w32 ((keyNew seed h).1).d, i64 ((keyNew seed h).2.1), i64 (0)], i64 (((keyNew seed h).2.2 : Nat) : Int)])), (35, Pr.ex (Value.agg #[w32 ((keyNew seed h).1).a, w32 ((keyNew seed h).1).b, w32 ((keyNew seed h).1).c, w32 ((keyNew seed h).1).d, i64 ((keyNew seed h).2.1), i64 (0)])), (36, Pr.ex (i64 (((keyNew seed h).2.2 : Nat) : Int))), (9, Pr.box' wd9.heap.size 30 [w32 (Dg.zero).a, w32 (Dg.zero).b, w32 (Dg.zero).c, w32 (Dg.zero).d, i64 ((0 : Nat) : Int), i64 ((0 : Nat) : Int)])] 7 hN_10 hD_10 (by kernel_rfl) (by kernel_rfl) ?_ ?_
 refine Asks.cons ?_ (Asks.cons ?_ (Asks.cons ?_ (Asks.cons ?_ (Asks.cons ?_ (Asks.cons ?_ (Asks.cons ?_ (Asks.zero _)))))))
 exact Ask.plain rfl rfl fun aq wq hNq hO hR hT => does_loadD (o := 0) (n := 4) (mid := [w32 (seed).a, w32 (seed).b, w32 (seed).c, w32 (seed).d]) ((hO 2 rfl).trans s2_10) (hbb2_9.ext' hR) rfl rfl (Nat.le_of_ble_eq_true rfl) row_24 rfl ⟨Ext.refl _, rfl⟩
 exact Ask.plain rfl rfl fun aq wq hNq hO hR hT => does_move (V := i64 (h)) ((hO 1 rfl).trans s1_10) ⟨Ext.refl _, rfl⟩
 exact Ask.plain rfl rfl fun aq wq hNq hO hR hT => does_ret (vs := #[Dg.val (seed), i64 (h)]) call_10 (args2 (hT 32 rfl rfl) (hT 33 rfl rfl)) rfl ((keyNew_ seed h wq).mono fun v w2 h => ⟨h.2, h.1⟩)
 exact Ask.plain rfl rfl fun aq wq hNq hO hR hT => does_move (V := Value.tuple #[Value.agg #[w32 ((keyNew seed h).1).a, w32 ((keyNew seed h).1).b, w32 ((keyNew seed h).1).c, w32 ((keyNew seed h).1).d, i64 ((keyNew seed h).2.1), i64 (0)], i64 (((keyNew seed h).2.2 : Nat) : Int)]) (hT 34 rfl rfl) ⟨Ext.refl _, rfl⟩
 exact Ask.plain rfl rfl fun aq wq hNq hO hR hT => does_extract (V := Value.agg #[w32 ((keyNew seed h).1).a, w32 ((keyNew seed h).1).b, w32 ((keyNew seed h).1).c, w32 ((keyNew seed h).1).d, i64 ((keyNew seed h).2.1), i64 (0)]) (hT 31 rfl rfl) rfl ⟨Ext.refl _, rfl⟩
 exact Ask.plain rfl rfl fun aq wq hNq hO hR hT => does_extract (V := i64 (((keyNew seed h).2.2 : Nat) : Int)) (hT 31 rfl rfl) rfl ⟨Ext.refl _, rfl⟩
 refine Ask.fresh rfl rfl ?_
 intro aq wq hNq hO hR hT
 exact does_alloc zero_30 (fun b w2 he hlo hb => ⟨he, ⟨b, rfl, Nat.le_trans hR.size' hlo, hb⟩, ⟨b, rfl, hlo, hb.lt⟩⟩)
 intro a11 wd11 hN_11 hD_11 hO hR hA hU
 obtain ⟨_, _, _, _, t35, t36, t9, _⟩ := hA
 have hE_11 := hE_9.trans hR
 have s1_11 := (hO 1 rfl).trans s1_10
 have s2_11 := (hO 2 rfl).trans s2_10
 have s5_11 := (hO 5 rfl).trans s5_10
 have s6_11 := (hO 6 rfl).trans s6_10
 have s7_11 := (hO 7 rfl).trans s7_10
 have s8_11 := (hO 8 rfl).trans s8_10
 have hbb2_11 := hbb2_9.ext' hR
 have hbb5_11 := hbb5_9.ext' hR
 have hbb7_11 := hbb7_9.ext' hR
 have s35_11 : get a11 35 = Value.agg #[w32 ((keyNew seed h).1).a, w32 ((keyNew seed h).1).b, w32 ((keyNew seed h).1).c, w32 ((keyNew seed h).1).d, i64 ((keyNew seed h).2.1), i64 (0)] := t35
 have s36_11 : get a11 36 = i64 (((keyNew seed h).2.2 : Nat) : Int) := t36
 obtain ⟨b9, s9_11, lo_b9, hbb9_11⟩ := t9
 have ne_b2_b9 : b2 ≠ b9 := fun e => Nat.lt_irrefl _ (Nat.lt_of_lt_of_le hbb2_9.lt (e ▸ lo_b9))
 have ne_b5_b9 : b5 ≠ b9 := fun e => Nat.lt_irrefl _ (Nat.lt_of_lt_of_le hbb5_9.lt (e ▸ lo_b9))
 have ne_b7_b9 : b7 ≠ b9 := fun e => Nat.lt_irrefl _ (Nat.lt_of_lt_of_le hbb7_9.lt (e ▸ lo_b9))
 have fr_b9 : w0.heap.size ≤ b9 := Nat.le_trans hE_9.size' lo_b9
 clear hE_9 hN_10 hD_10 s1_10 s2_10 s5_10 s6_10 s7_10 s8_10 hbb2_9 hbb5_9 hbb7_9
 refine tail_none rfl rfl (does_storeD (o := 0) (n := 6) (cs' := [w32 ((keyNew seed h).1).a, w32 ((keyNew seed h).1).b, w32 ((keyNew seed h).1).c, w32 ((keyNew seed h).1).d, i64 ((keyNew seed h).2.1), i64 (0)]) (V := Value.agg #[w32 ((keyNew seed h).1).a, w32 ((keyNew seed h).1).b, w32 ((keyNew seed h).1).c, w32 ((keyNew seed h).1).d, i64 ((keyNew seed h).2.1), i64 (0)]) s9_11 s35_11 hbb9_11 (Nat.le_of_ble_eq_true rfl) rfl siz_30 rfl rfl (fun wd12 hX hz hbb9_12 => ?_))
 have hE_12 := hE_11.since hX (fun k e => e ▸ fr_b9)
 have hbb2_12 := hbb2_11.ext hX ne_b2_b9
 have hbb5_12 := hbb5_11.ext hX ne_b5_b9
 have hbb7_12 := hbb7_11.ext hX ne_b7_b9
 clear hX hz hE_11 hbb2_11 hbb5_11 hbb7_11 hbb9_11
 refine tail_put rfl rfl hN_11 hD_11 (by decide) (does_assign (V := i64 (((keyNew seed h).2.2 : Nat) : Int)) s36_11 (fun a13 hN_13 hD_13 hv hO => ?_))
 have s10_13 := hv
 have s1_13 := (hO 1 rfl).trans s1_11
 have s2_13 := (hO 2 rfl).trans s2_11
 have s5_13 := (hO 5 rfl).trans s5_11
 have s6_13 := (hO 6 rfl).trans s6_11
 have s7_13 := (hO 7 rfl).trans s7_11
 have s8_13 := (hO 8 rfl).trans s8_11
 have s9_13 := (hO 9 rfl).trans s9_11
 clear hO hv hN_11 hD_11 s1_11 s2_11 s5_11 s6_11 s7_11 s8_11 s9_11 s35_11 s36_11
 refine tail_nil ?_
 refine wp_seq ?_
 refine region_lex [] [(37, Pr.ex (Dg.val ((keyPub seed h).1))), (38, Pr.ex (Dg.val ((keyPub seed h).1))), (39, Pr.ex (Value.bool (decide ((keyPub seed h).1 = (keyPub seed h).1)))), (40, Pr.ex (Value.bool (decide ((keyPub seed h).1 = (keyPub seed h).1)))), (41, Pr.ifb (decide ((keyPub seed h).1 = (keyPub seed h).1)) (Pr.ex (i64 (((keyPub seed h).2 : Nat) : Int)))), (42, Pr.ifb (decide ((keyPub seed h).1 = (keyPub seed h).1)) (Pr.ex (i64 (((keyPub seed h).2 : Nat) : Int)))), (43, Pr.ifb (decide ((keyPub seed h).1 = (keyPub seed h).1)) (Pr.ex (Value.bool (decide ((((keyPub seed h).2 : Nat) : Int) = (((keyPub seed h).2 : Nat) : Int)))))), (44, Pr.ex (Value.bool ((decide ((keyPub seed h).1 = (keyPub seed h).1)) && (decide ((((keyPub seed h).2 : Nat) : Int) = (((keyPub seed h).2 : Nat) : Int)))))), (45, Pr.ex (Value.bool ((decide ((keyPub seed h).1 = (keyPub seed h).1)) && (decide ((((keyPub seed h).2 : Nat) : Int) = (((keyPub seed h).2 : Nat) : Int)))))), (46, Pr.ifb ((decide ((keyPub seed h).1 = (keyPub seed h).1)) && (decide ((((keyPub seed h).2 : Nat) : Int) = (((keyPub seed h).2 : Nat) : Int)))) (Pr.ex (i64 (((keyNew seed h).2.2 : Nat) : Int)))), (47, Pr.ifb ((decide ((keyPub seed h).1 = (keyPub seed h).1)) && (decide ((((keyPub seed h).2 : Nat) : Int) = (((keyPub seed h).2 : Nat) : Int)))) (Pr.ex (i64 (((keyPub seed h).2 : Nat) : Int)))), (48, Pr.ifb ((decide ((keyPub seed h).1 = (keyPub seed h).1)) && (decide ((((keyPub seed h).2 : Nat) : Int) = (((keyPub seed h).2 : Nat) : Int)))) (Pr.ex (Value.bool (decide ((((keyNew seed h).2.2 : Nat) : Int) = (((keyPub seed h).2 : Nat) : Int)))))), (49, Pr.ex (Value.bool (((decide ((keyPub seed h).1 = (keyPub seed h).1)) && (decide ((((keyPub seed h).2 : Nat) : Int) = (((keyPub seed h).2 : Nat) : Int)))) && (decide ((((keyNew seed h).2.2 : Nat) : Int) = (((keyPub seed h).2 : Nat) : Int)))))), (50, Pr.ex (Value.bool (((decide ((keyPub seed h).1 = (keyPub seed h).1)) && (decide ((((keyPub seed h).2 : Nat) : Int) = (((keyPub seed h).2 : Nat) : Int)))) && (decide ((((keyNew seed h).2.2 : Nat) : Int) = (((keyPub seed h).2 : Nat) : Int)))))), (51, Pr.ifb (((decide ((keyPub seed h).1 = (keyPub seed h).1)) && (decide ((((keyPub seed h).2 : Nat) : Int) = (((keyPub seed h).2 : Nat) : Int)))) && (decide ((((keyNew seed h).2.2 : Nat) : Int) = (((keyPub seed h).2 : Nat) : Int)))) (Pr.ex (i64 (((keyNew seed h).2.2 : Nat) : Int)))), (52, Pr.ifb (((decide ((keyPub seed h).1 = (keyPub seed h).1)) && (decide ((((keyPub seed h).2 : Nat) : Int) = (((keyPub seed h).2 : Nat) : Int)))) && (decide ((((keyNew seed h).2.2 : Nat) : Int) = (((keyPub seed h).2 : Nat) : Int)))) (Pr.ex (Value.bool (!decide ((((keyNew seed h).2.2 : Nat) : Int) = ((0 : Nat) : Int)))))), (53, Pr.ifu (((decide ((keyPub seed h).1 = (keyPub seed h).1)) && (decide ((((keyPub seed h).2 : Nat) : Int) = (((keyPub seed h).2 : Nat) : Int)))) && (decide ((((keyNew seed h).2.2 : Nat) : Int) = (((keyPub seed h).2 : Nat) : Int)))) (Pr.ex (Value.bool (!decide ((((keyNew seed h).2.2 : Nat) : Int) = ((0 : Nat) : Int)))))), (54, Pr.ifb ((((decide ((keyPub seed h).1 = (keyPub seed h).1)) && (decide ((((keyPub seed h).2 : Nat) : Int) = (((keyPub seed h).2 : Nat) : Int)))) && (decide ((((keyNew seed h).2.2 : Nat) : Int) = (((keyPub seed h).2 : Nat) : Int)))) && (!(!decide ((((keyNew seed h).2.2 : Nat) : Int) = ((0 : Nat) : Int))))) (Pr.ex (Value.agg #[w32 ((keyNew seed h).1).a, w32 ((keyNew seed h).1).b, w32 ((keyNew seed h).1).c, w32 ((keyNew seed h).1).d, i64 ((keyNew seed h).2.1), i64 (0)]))), (55, Pr.ifb ((((decide ((keyPub seed h).1 = (keyPub seed h).1)) && (decide ((((keyPub seed h).2 : Nat) : Int) = (((keyPub seed h).2 : Nat) : Int)))) && (decide ((((keyNew seed h).2.2 : Nat) : Int) = (((keyPub seed h).2 : Nat) : Int)))) && (!(!decide ((((keyNew seed h).2.2 : Nat) : Int) = ((0 : Nat) : Int))))) (Pr.ex (Dg.val (seed)))), (56, Pr.ifb ((((decide ((keyPub seed h).1 = (keyPub seed h).1)) && (decide ((((keyPub seed h).2 : Nat) : Int) = (((keyPub seed h).2 : Nat) : Int)))) && (decide ((((keyNew seed h).2.2 : Nat) : Int) = (((keyPub seed h).2 : Nat) : Int)))) && (!(!decide ((((keyNew seed h).2.2 : Nat) : Int) = ((0 : Nat) : Int))))) (Pr.ex (i64 (h)))), (57, Pr.ifb ((((decide ((keyPub seed h).1 = (keyPub seed h).1)) && (decide ((((keyPub seed h).2 : Nat) : Int) = (((keyPub seed h).2 : Nat) : Int)))) && (decide ((((keyNew seed h).2.2 : Nat) : Int) = (((keyPub seed h).2 : Nat) : Int)))) && (!(!decide ((((keyNew seed h).2.2 : Nat) : Int) = ((0 : Nat) : Int))))) (Pr.ex (Value.agg #[w32 (seed).a, w32 (seed).b, w32 (seed).c, w32 (seed).d, i64 (h), i64 ((0 : Nat) : Int)]))), (58, Pr.ifb ((((decide ((keyPub seed h).1 = (keyPub seed h).1)) && (decide ((((keyPub seed h).2 : Nat) : Int) = (((keyPub seed h).2 : Nat) : Int)))) && (decide ((((keyNew seed h).2.2 : Nat) : Int) = (((keyPub seed h).2 : Nat) : Int)))) && (!(!decide ((((keyNew seed h).2.2 : Nat) : Int) = ((0 : Nat) : Int))))) (Pr.ex (Value.bool (decide ((⟨(keyNew seed h).1, (keyNew seed h).2.1, 0⟩ : Signer) = (⟨seed, h, ((0 : Nat) : Int)⟩ : Signer)))))), (59, Pr.ifb (((decide ((keyPub seed h).1 = (keyPub seed h).1)) && (decide ((((keyPub seed h).2 : Nat) : Int) = (((keyPub seed h).2 : Nat) : Int)))) && (decide ((((keyNew seed h).2.2 : Nat) : Int) = (((keyPub seed h).2 : Nat) : Int)))) (Pr.ex (Value.bool ((!decide ((((keyNew seed h).2.2 : Nat) : Int) = ((0 : Nat) : Int))) || (decide ((⟨(keyNew seed h).1, (keyNew seed h).2.1, 0⟩ : Signer) = (⟨seed, h, ((0 : Nat) : Int)⟩ : Signer))))))), (60, Pr.ex (Value.bool ((((decide ((keyPub seed h).1 = (keyPub seed h).1)) && (decide ((((keyPub seed h).2 : Nat) : Int) = (((keyPub seed h).2 : Nat) : Int)))) && (decide ((((keyNew seed h).2.2 : Nat) : Int) = (((keyPub seed h).2 : Nat) : Int)))) && ((!decide ((((keyNew seed h).2.2 : Nat) : Int) = ((0 : Nat) : Int))) || (decide ((⟨(keyNew seed h).1, (keyNew seed h).2.1, 0⟩ : Signer) = (⟨seed, h, ((0 : Nat) : Int)⟩ : Signer))))))), (61, Pr.ex (Value.bool ((((decide ((keyPub seed h).1 = (keyPub seed h).1)) && (decide ((((keyPub seed h).2 : Nat) : Int) = (((keyPub seed h).2 : Nat) : Int)))) && (decide ((((keyNew seed h).2.2 : Nat) : Int) = (((keyPub seed h).2 : Nat) : Int)))) && ((!decide ((((keyNew seed h).2.2 : Nat) : Int) = ((0 : Nat) : Int))) || (decide ((⟨(keyNew seed h).1, (keyNew seed h).2.1, 0⟩ : Signer) = (⟨seed, h, ((0 : Nat) : Int)⟩ : Signer))))))), (62, Pr.ifb ((((decide ((keyPub seed h).1 = (keyPub seed h).1)) && (decide ((((keyPub seed h).2 : Nat) : Int) = (((keyPub seed h).2 : Nat) : Int)))) && (decide ((((keyNew seed h).2.2 : Nat) : Int) = (((keyPub seed h).2 : Nat) : Int)))) && ((!decide ((((keyNew seed h).2.2 : Nat) : Int) = ((0 : Nat) : Int))) || (decide ((⟨(keyNew seed h).1, (keyNew seed h).2.1, 0⟩ : Signer) = (⟨seed, h, ((0 : Nat) : Int)⟩ : Signer))))) (Pr.ex (i64 (((keyNew seed h).2.2 : Nat) : Int)))), (63, Pr.ifb ((((decide ((keyPub seed h).1 = (keyPub seed h).1)) && (decide ((((keyPub seed h).2 : Nat) : Int) = (((keyPub seed h).2 : Nat) : Int)))) && (decide ((((keyNew seed h).2.2 : Nat) : Int) = (((keyPub seed h).2 : Nat) : Int)))) && ((!decide ((((keyNew seed h).2.2 : Nat) : Int) = ((0 : Nat) : Int))) || (decide ((⟨(keyNew seed h).1, (keyNew seed h).2.1, 0⟩ : Signer) = (⟨seed, h, ((0 : Nat) : Int)⟩ : Signer))))) (Pr.ex (Value.bool (decide ((((keyNew seed h).2.2 : Nat) : Int) = ((0 : Nat) : Int)))))), (64, Pr.ifu ((((decide ((keyPub seed h).1 = (keyPub seed h).1)) && (decide ((((keyPub seed h).2 : Nat) : Int) = (((keyPub seed h).2 : Nat) : Int)))) && (decide ((((keyNew seed h).2.2 : Nat) : Int) = (((keyPub seed h).2 : Nat) : Int)))) && ((!decide ((((keyNew seed h).2.2 : Nat) : Int) = ((0 : Nat) : Int))) || (decide ((⟨(keyNew seed h).1, (keyNew seed h).2.1, 0⟩ : Signer) = (⟨seed, h, ((0 : Nat) : Int)⟩ : Signer))))) (Pr.ex (Value.bool (decide ((((keyNew seed h).2.2 : Nat) : Int) = ((0 : Nat) : Int)))))), (65, Pr.ifb (((((decide ((keyPub seed h).1 = (keyPub seed h).1)) && (decide ((((keyPub seed h).2 : Nat) : Int) = (((keyPub seed h).2 : Nat) : Int)))) && (decide ((((keyNew seed h).2.2 : Nat) : Int) = (((keyPub seed h).2 : Nat) : Int)))) && ((!decide ((((keyNew seed h).2.2 : Nat) : Int) = ((0 : Nat) : Int))) || (decide ((⟨(keyNew seed h).1, (keyNew seed h).2.1, 0⟩ : Signer) = (⟨seed, h, ((0 : Nat) : Int)⟩ : Signer))))) && (!(decide ((((keyNew seed h).2.2 : Nat) : Int) = ((0 : Nat) : Int))))) (Pr.ex (Value.agg #[w32 ((keyNew seed h).1).a, w32 ((keyNew seed h).1).b, w32 ((keyNew seed h).1).c, w32 ((keyNew seed h).1).d, i64 ((keyNew seed h).2.1), i64 (0)]))), (66, Pr.ifb (((((decide ((keyPub seed h).1 = (keyPub seed h).1)) && (decide ((((keyPub seed h).2 : Nat) : Int) = (((keyPub seed h).2 : Nat) : Int)))) && (decide ((((keyNew seed h).2.2 : Nat) : Int) = (((keyPub seed h).2 : Nat) : Int)))) && ((!decide ((((keyNew seed h).2.2 : Nat) : Int) = ((0 : Nat) : Int))) || (decide ((⟨(keyNew seed h).1, (keyNew seed h).2.1, 0⟩ : Signer) = (⟨seed, h, ((0 : Nat) : Int)⟩ : Signer))))) && (!(decide ((((keyNew seed h).2.2 : Nat) : Int) = ((0 : Nat) : Int))))) (Pr.ex (Value.agg #[w32 (Dg.zero).a, w32 (Dg.zero).b, w32 (Dg.zero).c, w32 (Dg.zero).d, i64 ((0 : Nat) : Int), i64 ((0 : Nat) : Int)]))), (67, Pr.ifb (((((decide ((keyPub seed h).1 = (keyPub seed h).1)) && (decide ((((keyPub seed h).2 : Nat) : Int) = (((keyPub seed h).2 : Nat) : Int)))) && (decide ((((keyNew seed h).2.2 : Nat) : Int) = (((keyPub seed h).2 : Nat) : Int)))) && ((!decide ((((keyNew seed h).2.2 : Nat) : Int) = ((0 : Nat) : Int))) || (decide ((⟨(keyNew seed h).1, (keyNew seed h).2.1, 0⟩ : Signer) = (⟨seed, h, ((0 : Nat) : Int)⟩ : Signer))))) && (!(decide ((((keyNew seed h).2.2 : Nat) : Int) = ((0 : Nat) : Int))))) (Pr.ex (Value.bool (decide ((⟨(keyNew seed h).1, (keyNew seed h).2.1, 0⟩ : Signer) = (⟨Dg.zero, ((0 : Nat) : Int), ((0 : Nat) : Int)⟩ : Signer)))))), (68, Pr.ifb ((((decide ((keyPub seed h).1 = (keyPub seed h).1)) && (decide ((((keyPub seed h).2 : Nat) : Int) = (((keyPub seed h).2 : Nat) : Int)))) && (decide ((((keyNew seed h).2.2 : Nat) : Int) = (((keyPub seed h).2 : Nat) : Int)))) && ((!decide ((((keyNew seed h).2.2 : Nat) : Int) = ((0 : Nat) : Int))) || (decide ((⟨(keyNew seed h).1, (keyNew seed h).2.1, 0⟩ : Signer) = (⟨seed, h, ((0 : Nat) : Int)⟩ : Signer))))) (Pr.ex (Value.bool ((decide ((((keyNew seed h).2.2 : Nat) : Int) = ((0 : Nat) : Int))) || (decide ((⟨(keyNew seed h).1, (keyNew seed h).2.1, 0⟩ : Signer) = (⟨Dg.zero, ((0 : Nat) : Int), ((0 : Nat) : Int)⟩ : Signer))))))), (69, Pr.ex (Value.bool (((((decide ((keyPub seed h).1 = (keyPub seed h).1)) && (decide ((((keyPub seed h).2 : Nat) : Int) = (((keyPub seed h).2 : Nat) : Int)))) && (decide ((((keyNew seed h).2.2 : Nat) : Int) = (((keyPub seed h).2 : Nat) : Int)))) && ((!decide ((((keyNew seed h).2.2 : Nat) : Int) = ((0 : Nat) : Int))) || (decide ((⟨(keyNew seed h).1, (keyNew seed h).2.1, 0⟩ : Signer) = (⟨seed, h, ((0 : Nat) : Int)⟩ : Signer))))) && ((decide ((((keyNew seed h).2.2 : Nat) : Int) = ((0 : Nat) : Int))) || (decide ((⟨(keyNew seed h).1, (keyNew seed h).2.1, 0⟩ : Signer) = (⟨Dg.zero, ((0 : Nat) : Int), ((0 : Nat) : Int)⟩ : Signer))))))), (4, Pr.ex (Value.bool (((((decide ((keyPub seed h).1 = (keyPub seed h).1)) && (decide ((((keyPub seed h).2 : Nat) : Int) = (((keyPub seed h).2 : Nat) : Int)))) && (decide ((((keyNew seed h).2.2 : Nat) : Int) = (((keyPub seed h).2 : Nat) : Int)))) && ((!decide ((((keyNew seed h).2.2 : Nat) : Int) = ((0 : Nat) : Int))) || (decide ((⟨(keyNew seed h).1, (keyNew seed h).2.1, 0⟩ : Signer) = (⟨seed, h, ((0 : Nat) : Int)⟩ : Signer))))) && ((decide ((((keyNew seed h).2.2 : Nat) : Int) = ((0 : Nat) : Int))) || (decide ((⟨(keyNew seed h).1, (keyNew seed h).2.1, 0⟩ : Signer) = (⟨Dg.zero, ((0 : Nat) : Int), ((0 : Nat) : Int)⟩ : Signer)))))))] 34 hN_13 hD_13 (by kernel_rfl) (by kernel_rfl) ?_ ?_
 refine Asks.cons ?_ (Asks.cons ?_ (Asks.cons ?_ (Asks.cons ?_ (Asks.cons ?_ (Asks.cons ?_ (Asks.cons ?_ (Asks.cons ?_ (Asks.cons ?_ (Asks.cons ?_ (Asks.cons ?_ (Asks.cons ?_ (Asks.cons ?_ (Asks.cons ?_ (Asks.cons ?_ (Asks.cons ?_ (Asks.cons ?_ (Asks.cons ?_ (Asks.cons ?_ (Asks.cons ?_ (Asks.cons ?_ (Asks.cons ?_ (Asks.cons ?_ (Asks.cons ?_ (Asks.cons ?_ (Asks.cons ?_ (Asks.cons ?_ (Asks.cons ?_ (Asks.cons ?_ (Asks.cons ?_ (Asks.cons ?_ (Asks.cons ?_ (Asks.cons ?_ (Asks.cons ?_ (Asks.zero _))))))))))))))))))))))))))))))))))
 exact Ask.plain rfl rfl fun aq wq hNq hO hR hT => does_loadD (o := 0) (n := 4) (mid := [w32 ((keyPub seed h).1).a, w32 ((keyPub seed h).1).b, w32 ((keyPub seed h).1).c, w32 ((keyPub seed h).1).d]) ((hO 5 rfl).trans s5_13) (hbb5_12.ext' hR) rfl rfl (Nat.le_of_ble_eq_true rfl) row_24 rfl ⟨Ext.refl _, rfl⟩
 exact Ask.plain rfl rfl fun aq wq hNq hO hR hT => does_loadD (o := 0) (n := 4) (mid := [w32 ((keyPub seed h).1).a, w32 ((keyPub seed h).1).b, w32 ((keyPub seed h).1).c, w32 ((keyPub seed h).1).d]) ((hO 7 rfl).trans s7_13) (hbb7_12.ext' hR) rfl rfl (Nat.le_of_ble_eq_true rfl) row_24 rfl ⟨Ext.refl _, rfl⟩
 exact Ask.plain rfl rfl fun aq wq hNq hO hR hT => does_eqT (a := (keyPub seed h).1) (b := (keyPub seed h).1) eq_24 (hT 37 rfl rfl) (hT 38 rfl rfl) ⟨Ext.refl _, rfl⟩
 exact Ask.plain rfl rfl fun aq wq hNq hO hR hT => does_move (V := Value.bool (decide ((keyPub seed h).1 = (keyPub seed h).1))) (hT 39 rfl rfl) ⟨Ext.refl _, rfl⟩
 refine Ask.guarded (B := decide ((keyPub seed h).1 = (keyPub seed h).1)) (want := true) (t := 40) rfl rfl rfl rfl (by decide) (fun aq wq hO hR hT => hT 40 rfl rfl) (fun hG aq wq hNq hO hR hT => ?_) (fun hno _ => fun hc => absurd hc hno)
 exact does_move (V := i64 (((keyPub seed h).2 : Nat) : Int)) ((hO 6 rfl).trans s6_13) ⟨Ext.refl _, fun _ => rfl⟩
 refine Ask.guarded (B := decide ((keyPub seed h).1 = (keyPub seed h).1)) (want := true) (t := 40) rfl rfl rfl rfl (by decide) (fun aq wq hO hR hT => hT 40 rfl rfl) (fun hG aq wq hNq hO hR hT => ?_) (fun hno _ => fun hc => absurd hc hno)
 exact does_move (V := i64 (((keyPub seed h).2 : Nat) : Int)) ((hO 8 rfl).trans s8_13) ⟨Ext.refl _, fun _ => rfl⟩
 refine Ask.guarded (B := decide ((keyPub seed h).1 = (keyPub seed h).1)) (want := true) (t := 40) rfl rfl rfl rfl (by decide) (fun aq wq hO hR hT => hT 40 rfl rfl) (fun hG aq wq hNq hO hR hT => ?_) (fun hno _ => fun hc => absurd hc hno)
 exact does_eql (a := (((keyPub seed h).2 : Nat) : Int)) (b := (((keyPub seed h).2 : Nat) : Int)) (hT 41 rfl rfl hG) (hT 42 rfl rfl hG) ⟨Ext.refl _, fun _ => rfl⟩
 exact Ask.plain rfl rfl fun aq wq hNq hO hR hT => does_and (B := decide ((keyPub seed h).1 = (keyPub seed h).1)) (X := decide ((((keyPub seed h).2 : Nat) : Int) = (((keyPub seed h).2 : Nat) : Int))) (hT 40 rfl rfl) (fun hB => (hT 43 rfl rfl hB)) rfl ⟨Ext.refl _, rfl⟩
 exact Ask.plain rfl rfl fun aq wq hNq hO hR hT => does_move (V := Value.bool ((decide ((keyPub seed h).1 = (keyPub seed h).1)) && (decide ((((keyPub seed h).2 : Nat) : Int) = (((keyPub seed h).2 : Nat) : Int))))) (hT 44 rfl rfl) ⟨Ext.refl _, rfl⟩
 refine Ask.guarded (B := (decide ((keyPub seed h).1 = (keyPub seed h).1)) && (decide ((((keyPub seed h).2 : Nat) : Int) = (((keyPub seed h).2 : Nat) : Int)))) (want := true) (t := 45) rfl rfl rfl rfl (by decide) (fun aq wq hO hR hT => hT 45 rfl rfl) (fun hG aq wq hNq hO hR hT => ?_) (fun hno _ => fun hc => absurd hc hno)
 exact does_move (V := i64 (((keyNew seed h).2.2 : Nat) : Int)) ((hO 10 rfl).trans s10_13) ⟨Ext.refl _, fun _ => rfl⟩
 refine Ask.guarded (B := (decide ((keyPub seed h).1 = (keyPub seed h).1)) && (decide ((((keyPub seed h).2 : Nat) : Int) = (((keyPub seed h).2 : Nat) : Int)))) (want := true) (t := 45) rfl rfl rfl rfl (by decide) (fun aq wq hO hR hT => hT 45 rfl rfl) (fun hG aq wq hNq hO hR hT => ?_) (fun hno _ => fun hc => absurd hc hno)
 exact does_move (V := i64 (((keyPub seed h).2 : Nat) : Int)) ((hO 8 rfl).trans s8_13) ⟨Ext.refl _, fun _ => rfl⟩
 refine Ask.guarded (B := (decide ((keyPub seed h).1 = (keyPub seed h).1)) && (decide ((((keyPub seed h).2 : Nat) : Int) = (((keyPub seed h).2 : Nat) : Int)))) (want := true) (t := 45) rfl rfl rfl rfl (by decide) (fun aq wq hO hR hT => hT 45 rfl rfl) (fun hG aq wq hNq hO hR hT => ?_) (fun hno _ => fun hc => absurd hc hno)
 exact does_eql (a := (((keyNew seed h).2.2 : Nat) : Int)) (b := (((keyPub seed h).2 : Nat) : Int)) (hT 46 rfl rfl hG) (hT 47 rfl rfl hG) ⟨Ext.refl _, fun _ => rfl⟩
 exact Ask.plain rfl rfl fun aq wq hNq hO hR hT => does_and (B := (decide ((keyPub seed h).1 = (keyPub seed h).1)) && (decide ((((keyPub seed h).2 : Nat) : Int) = (((keyPub seed h).2 : Nat) : Int)))) (X := decide ((((keyNew seed h).2.2 : Nat) : Int) = (((keyPub seed h).2 : Nat) : Int))) (hT 45 rfl rfl) (fun hB => (hT 48 rfl rfl hB)) rfl ⟨Ext.refl _, rfl⟩
 exact Ask.plain rfl rfl fun aq wq hNq hO hR hT => does_move (V := Value.bool (((decide ((keyPub seed h).1 = (keyPub seed h).1)) && (decide ((((keyPub seed h).2 : Nat) : Int) = (((keyPub seed h).2 : Nat) : Int)))) && (decide ((((keyNew seed h).2.2 : Nat) : Int) = (((keyPub seed h).2 : Nat) : Int))))) (hT 49 rfl rfl) ⟨Ext.refl _, rfl⟩
 refine Ask.guarded (B := ((decide ((keyPub seed h).1 = (keyPub seed h).1)) && (decide ((((keyPub seed h).2 : Nat) : Int) = (((keyPub seed h).2 : Nat) : Int)))) && (decide ((((keyNew seed h).2.2 : Nat) : Int) = (((keyPub seed h).2 : Nat) : Int)))) (want := true) (t := 50) rfl rfl rfl rfl (by decide) (fun aq wq hO hR hT => hT 50 rfl rfl) (fun hG aq wq hNq hO hR hT => ?_) (fun hno _ => fun hc => absurd hc hno)
 exact does_move (V := i64 (((keyNew seed h).2.2 : Nat) : Int)) ((hO 10 rfl).trans s10_13) ⟨Ext.refl _, fun _ => rfl⟩
 refine Ask.guarded (B := ((decide ((keyPub seed h).1 = (keyPub seed h).1)) && (decide ((((keyPub seed h).2 : Nat) : Int) = (((keyPub seed h).2 : Nat) : Int)))) && (decide ((((keyNew seed h).2.2 : Nat) : Int) = (((keyPub seed h).2 : Nat) : Int)))) (want := true) (t := 50) rfl rfl rfl rfl (by decide) (fun aq wq hO hR hT => hT 50 rfl rfl) (fun hG aq wq hNq hO hR hT => ?_) (fun hno _ => fun hc => absurd hc hno)
 exact does_neq (a := (((keyNew seed h).2.2 : Nat) : Int)) (b := ((0 : Nat) : Int)) (hT 51 rfl rfl hG) rfl ⟨Ext.refl _, fun _ => rfl⟩
 refine Ask.guarded (B := ((decide ((keyPub seed h).1 = (keyPub seed h).1)) && (decide ((((keyPub seed h).2 : Nat) : Int) = (((keyPub seed h).2 : Nat) : Int)))) && (decide ((((keyNew seed h).2.2 : Nat) : Int) = (((keyPub seed h).2 : Nat) : Int)))) (want := true) (t := 50) rfl rfl rfl rfl (by decide) (fun aq wq hO hR hT => hT 50 rfl rfl) (fun hG aq wq hNq hO hR hT => ?_) (fun hno _ => ⟨fun hc => absurd hc hno, fun _ => rfl⟩)
 exact does_move (V := Value.bool (!decide ((((keyNew seed h).2.2 : Nat) : Int) = ((0 : Nat) : Int)))) (hT 52 rfl rfl hG) ⟨Ext.refl _, fun _ => rfl, fun hc => (by rw [hG] at hc; cases hc)⟩
 refine Ask.guarded2 (C := ((decide ((keyPub seed h).1 = (keyPub seed h).1)) && (decide ((((keyPub seed h).2 : Nat) : Int) = (((keyPub seed h).2 : Nat) : Int)))) && (decide ((((keyNew seed h).2.2 : Nat) : Int) = (((keyPub seed h).2 : Nat) : Int)))) (B := !decide ((((keyNew seed h).2.2 : Nat) : Int) = ((0 : Nat) : Int))) (want := false) (t := 53) rfl rfl rfl rfl (by decide) (fun aq wq hO hR hT => hT 53 rfl rfl) (fun hC hG aq wq hNq hO hR hT => ?_) (fun hno _ => fun hc => absurd ⟨andl hc, bn (andr hc)⟩ hno)
 replace hG := andi hC (nb hG)
 exact does_loadD (o := 0) (n := 6) (mid := [w32 ((keyNew seed h).1).a, w32 ((keyNew seed h).1).b, w32 ((keyNew seed h).1).c, w32 ((keyNew seed h).1).d, i64 ((keyNew seed h).2.1), i64 (0)]) ((hO 9 rfl).trans s9_13) (hbb9_12.ext' hR) rfl rfl (Nat.le_of_ble_eq_true rfl) row_30 rfl ⟨Ext.refl _, fun _ => rfl⟩
 refine Ask.guarded2 (C := ((decide ((keyPub seed h).1 = (keyPub seed h).1)) && (decide ((((keyPub seed h).2 : Nat) : Int) = (((keyPub seed h).2 : Nat) : Int)))) && (decide ((((keyNew seed h).2.2 : Nat) : Int) = (((keyPub seed h).2 : Nat) : Int)))) (B := !decide ((((keyNew seed h).2.2 : Nat) : Int) = ((0 : Nat) : Int))) (want := false) (t := 53) rfl rfl rfl rfl (by decide) (fun aq wq hO hR hT => hT 53 rfl rfl) (fun hC hG aq wq hNq hO hR hT => ?_) (fun hno _ => fun hc => absurd ⟨andl hc, bn (andr hc)⟩ hno)
 replace hG := andi hC (nb hG)
 exact does_loadD (o := 0) (n := 4) (mid := [w32 (seed).a, w32 (seed).b, w32 (seed).c, w32 (seed).d]) ((hO 2 rfl).trans s2_13) (hbb2_12.ext' hR) rfl rfl (Nat.le_of_ble_eq_true rfl) row_24 rfl ⟨Ext.refl _, fun _ => rfl⟩
 refine Ask.guarded2 (C := ((decide ((keyPub seed h).1 = (keyPub seed h).1)) && (decide ((((keyPub seed h).2 : Nat) : Int) = (((keyPub seed h).2 : Nat) : Int)))) && (decide ((((keyNew seed h).2.2 : Nat) : Int) = (((keyPub seed h).2 : Nat) : Int)))) (B := !decide ((((keyNew seed h).2.2 : Nat) : Int) = ((0 : Nat) : Int))) (want := false) (t := 53) rfl rfl rfl rfl (by decide) (fun aq wq hO hR hT => hT 53 rfl rfl) (fun hC hG aq wq hNq hO hR hT => ?_) (fun hno _ => fun hc => absurd ⟨andl hc, bn (andr hc)⟩ hno)
 replace hG := andi hC (nb hG)
 exact does_move (V := i64 (h)) ((hO 1 rfl).trans s1_13) ⟨Ext.refl _, fun _ => rfl⟩
 refine Ask.guarded2 (C := ((decide ((keyPub seed h).1 = (keyPub seed h).1)) && (decide ((((keyPub seed h).2 : Nat) : Int) = (((keyPub seed h).2 : Nat) : Int)))) && (decide ((((keyNew seed h).2.2 : Nat) : Int) = (((keyPub seed h).2 : Nat) : Int)))) (B := !decide ((((keyNew seed h).2.2 : Nat) : Int) = ((0 : Nat) : Int))) (want := false) (t := 53) rfl rfl rfl rfl (by decide) (fun aq wq hO hR hT => hT 53 rfl rfl) (fun hC hG aq wq hNq hO hR hT => ?_) (fun hno _ => fun hc => absurd ⟨andl hc, bn (andr hc)⟩ hno)
 replace hG := andi hC (nb hG)
 exact does_build (vs := #[(0, Dg.val (seed)), (1, i64 (h))]) (V := Value.agg #[w32 (seed).a, w32 (seed).b, w32 (seed).c, w32 (seed).d, i64 (h), i64 ((0 : Nat) : Int)]) (parts2 (hT 55 rfl rfl hG) (hT 56 rfl rfl hG)) (by kernel_rfl) ⟨Ext.refl _, fun _ => rfl⟩
 refine Ask.guarded2 (C := ((decide ((keyPub seed h).1 = (keyPub seed h).1)) && (decide ((((keyPub seed h).2 : Nat) : Int) = (((keyPub seed h).2 : Nat) : Int)))) && (decide ((((keyNew seed h).2.2 : Nat) : Int) = (((keyPub seed h).2 : Nat) : Int)))) (B := !decide ((((keyNew seed h).2.2 : Nat) : Int) = ((0 : Nat) : Int))) (want := false) (t := 53) rfl rfl rfl rfl (by decide) (fun aq wq hO hR hT => hT 53 rfl rfl) (fun hC hG aq wq hNq hO hR hT => ?_) (fun hno _ => fun hc => absurd ⟨andl hc, bn (andr hc)⟩ hno)
 replace hG := andi hC (nb hG)
 exact does_eqT (a := (⟨(keyNew seed h).1, (keyNew seed h).2.1, 0⟩ : Signer)) (b := (⟨seed, h, ((0 : Nat) : Int)⟩ : Signer)) eq_30 (hT 54 rfl rfl hG) (hT 57 rfl rfl hG) ⟨Ext.refl _, fun _ => rfl⟩
 refine Ask.guarded (B := ((decide ((keyPub seed h).1 = (keyPub seed h).1)) && (decide ((((keyPub seed h).2 : Nat) : Int) = (((keyPub seed h).2 : Nat) : Int)))) && (decide ((((keyNew seed h).2.2 : Nat) : Int) = (((keyPub seed h).2 : Nat) : Int)))) (want := true) (t := 50) rfl rfl rfl rfl (by decide) (fun aq wq hO hR hT => hT 50 rfl rfl) (fun hG aq wq hNq hO hR hT => ?_) (fun hno _ => fun hc => absurd hc hno)
 exact does_or (B := !decide ((((keyNew seed h).2.2 : Nat) : Int) = ((0 : Nat) : Int))) (X := decide ((⟨(keyNew seed h).1, (keyNew seed h).2.1, 0⟩ : Signer) = (⟨seed, h, ((0 : Nat) : Int)⟩ : Signer))) (And.left (hT 53 rfl rfl) hG) rfl (fun hB => (hT 58 rfl rfl (andi hG (nb hB)))) ⟨Ext.refl _, fun _ => rfl⟩
 exact Ask.plain rfl rfl fun aq wq hNq hO hR hT => does_and (B := ((decide ((keyPub seed h).1 = (keyPub seed h).1)) && (decide ((((keyPub seed h).2 : Nat) : Int) = (((keyPub seed h).2 : Nat) : Int)))) && (decide ((((keyNew seed h).2.2 : Nat) : Int) = (((keyPub seed h).2 : Nat) : Int)))) (X := (!decide ((((keyNew seed h).2.2 : Nat) : Int) = ((0 : Nat) : Int))) || (decide ((⟨(keyNew seed h).1, (keyNew seed h).2.1, 0⟩ : Signer) = (⟨seed, h, ((0 : Nat) : Int)⟩ : Signer)))) (hT 50 rfl rfl) (fun hB => (hT 59 rfl rfl hB)) rfl ⟨Ext.refl _, rfl⟩
 exact Ask.plain rfl rfl fun aq wq hNq hO hR hT => does_move (V := Value.bool ((((decide ((keyPub seed h).1 = (keyPub seed h).1)) && (decide ((((keyPub seed h).2 : Nat) : Int) = (((keyPub seed h).2 : Nat) : Int)))) && (decide ((((keyNew seed h).2.2 : Nat) : Int) = (((keyPub seed h).2 : Nat) : Int)))) && ((!decide ((((keyNew seed h).2.2 : Nat) : Int) = ((0 : Nat) : Int))) || (decide ((⟨(keyNew seed h).1, (keyNew seed h).2.1, 0⟩ : Signer) = (⟨seed, h, ((0 : Nat) : Int)⟩ : Signer)))))) (hT 60 rfl rfl) ⟨Ext.refl _, rfl⟩
 refine Ask.guarded (B := (((decide ((keyPub seed h).1 = (keyPub seed h).1)) && (decide ((((keyPub seed h).2 : Nat) : Int) = (((keyPub seed h).2 : Nat) : Int)))) && (decide ((((keyNew seed h).2.2 : Nat) : Int) = (((keyPub seed h).2 : Nat) : Int)))) && ((!decide ((((keyNew seed h).2.2 : Nat) : Int) = ((0 : Nat) : Int))) || (decide ((⟨(keyNew seed h).1, (keyNew seed h).2.1, 0⟩ : Signer) = (⟨seed, h, ((0 : Nat) : Int)⟩ : Signer))))) (want := true) (t := 61) rfl rfl rfl rfl (by decide) (fun aq wq hO hR hT => hT 61 rfl rfl) (fun hG aq wq hNq hO hR hT => ?_) (fun hno _ => fun hc => absurd hc hno)
 exact does_move (V := i64 (((keyNew seed h).2.2 : Nat) : Int)) ((hO 10 rfl).trans s10_13) ⟨Ext.refl _, fun _ => rfl⟩
 refine Ask.guarded (B := (((decide ((keyPub seed h).1 = (keyPub seed h).1)) && (decide ((((keyPub seed h).2 : Nat) : Int) = (((keyPub seed h).2 : Nat) : Int)))) && (decide ((((keyNew seed h).2.2 : Nat) : Int) = (((keyPub seed h).2 : Nat) : Int)))) && ((!decide ((((keyNew seed h).2.2 : Nat) : Int) = ((0 : Nat) : Int))) || (decide ((⟨(keyNew seed h).1, (keyNew seed h).2.1, 0⟩ : Signer) = (⟨seed, h, ((0 : Nat) : Int)⟩ : Signer))))) (want := true) (t := 61) rfl rfl rfl rfl (by decide) (fun aq wq hO hR hT => hT 61 rfl rfl) (fun hG aq wq hNq hO hR hT => ?_) (fun hno _ => fun hc => absurd hc hno)
 exact does_eql (a := (((keyNew seed h).2.2 : Nat) : Int)) (b := ((0 : Nat) : Int)) (hT 62 rfl rfl hG) rfl ⟨Ext.refl _, fun _ => rfl⟩
 refine Ask.guarded (B := (((decide ((keyPub seed h).1 = (keyPub seed h).1)) && (decide ((((keyPub seed h).2 : Nat) : Int) = (((keyPub seed h).2 : Nat) : Int)))) && (decide ((((keyNew seed h).2.2 : Nat) : Int) = (((keyPub seed h).2 : Nat) : Int)))) && ((!decide ((((keyNew seed h).2.2 : Nat) : Int) = ((0 : Nat) : Int))) || (decide ((⟨(keyNew seed h).1, (keyNew seed h).2.1, 0⟩ : Signer) = (⟨seed, h, ((0 : Nat) : Int)⟩ : Signer))))) (want := true) (t := 61) rfl rfl rfl rfl (by decide) (fun aq wq hO hR hT => hT 61 rfl rfl) (fun hG aq wq hNq hO hR hT => ?_) (fun hno _ => ⟨fun hc => absurd hc hno, fun _ => rfl⟩)
 exact does_move (V := Value.bool (decide ((((keyNew seed h).2.2 : Nat) : Int) = ((0 : Nat) : Int)))) (hT 63 rfl rfl hG) ⟨Ext.refl _, fun _ => rfl, fun hc => (by rw [hG] at hc; cases hc)⟩
 refine Ask.guarded2 (C := (((decide ((keyPub seed h).1 = (keyPub seed h).1)) && (decide ((((keyPub seed h).2 : Nat) : Int) = (((keyPub seed h).2 : Nat) : Int)))) && (decide ((((keyNew seed h).2.2 : Nat) : Int) = (((keyPub seed h).2 : Nat) : Int)))) && ((!decide ((((keyNew seed h).2.2 : Nat) : Int) = ((0 : Nat) : Int))) || (decide ((⟨(keyNew seed h).1, (keyNew seed h).2.1, 0⟩ : Signer) = (⟨seed, h, ((0 : Nat) : Int)⟩ : Signer))))) (B := decide ((((keyNew seed h).2.2 : Nat) : Int) = ((0 : Nat) : Int))) (want := false) (t := 64) rfl rfl rfl rfl (by decide) (fun aq wq hO hR hT => hT 64 rfl rfl) (fun hC hG aq wq hNq hO hR hT => ?_) (fun hno _ => fun hc => absurd ⟨andl hc, bn (andr hc)⟩ hno)
 replace hG := andi hC (nb hG)
 exact does_loadD (o := 0) (n := 6) (mid := [w32 ((keyNew seed h).1).a, w32 ((keyNew seed h).1).b, w32 ((keyNew seed h).1).c, w32 ((keyNew seed h).1).d, i64 ((keyNew seed h).2.1), i64 (0)]) ((hO 9 rfl).trans s9_13) (hbb9_12.ext' hR) rfl rfl (Nat.le_of_ble_eq_true rfl) row_30 rfl ⟨Ext.refl _, fun _ => rfl⟩
 refine Ask.guarded2 (C := (((decide ((keyPub seed h).1 = (keyPub seed h).1)) && (decide ((((keyPub seed h).2 : Nat) : Int) = (((keyPub seed h).2 : Nat) : Int)))) && (decide ((((keyNew seed h).2.2 : Nat) : Int) = (((keyPub seed h).2 : Nat) : Int)))) && ((!decide ((((keyNew seed h).2.2 : Nat) : Int) = ((0 : Nat) : Int))) || (decide ((⟨(keyNew seed h).1, (keyNew seed h).2.1, 0⟩ : Signer) = (⟨seed, h, ((0 : Nat) : Int)⟩ : Signer))))) (B := decide ((((keyNew seed h).2.2 : Nat) : Int) = ((0 : Nat) : Int))) (want := false) (t := 64) rfl rfl rfl rfl (by decide) (fun aq wq hO hR hT => hT 64 rfl rfl) (fun hC hG aq wq hNq hO hR hT => ?_) (fun hno _ => fun hc => absurd ⟨andl hc, bn (andr hc)⟩ hno)
 replace hG := andi hC (nb hG)
 exact does_build (vs := #[]) (V := Value.agg #[w32 (Dg.zero).a, w32 (Dg.zero).b, w32 (Dg.zero).c, w32 (Dg.zero).d, i64 ((0 : Nat) : Int), i64 ((0 : Nat) : Int)]) parts0 (by kernel_rfl) ⟨Ext.refl _, fun _ => rfl⟩
 refine Ask.guarded2 (C := (((decide ((keyPub seed h).1 = (keyPub seed h).1)) && (decide ((((keyPub seed h).2 : Nat) : Int) = (((keyPub seed h).2 : Nat) : Int)))) && (decide ((((keyNew seed h).2.2 : Nat) : Int) = (((keyPub seed h).2 : Nat) : Int)))) && ((!decide ((((keyNew seed h).2.2 : Nat) : Int) = ((0 : Nat) : Int))) || (decide ((⟨(keyNew seed h).1, (keyNew seed h).2.1, 0⟩ : Signer) = (⟨seed, h, ((0 : Nat) : Int)⟩ : Signer))))) (B := decide ((((keyNew seed h).2.2 : Nat) : Int) = ((0 : Nat) : Int))) (want := false) (t := 64) rfl rfl rfl rfl (by decide) (fun aq wq hO hR hT => hT 64 rfl rfl) (fun hC hG aq wq hNq hO hR hT => ?_) (fun hno _ => fun hc => absurd ⟨andl hc, bn (andr hc)⟩ hno)
 replace hG := andi hC (nb hG)
 exact does_eqT (a := (⟨(keyNew seed h).1, (keyNew seed h).2.1, 0⟩ : Signer)) (b := (⟨Dg.zero, ((0 : Nat) : Int), ((0 : Nat) : Int)⟩ : Signer)) eq_30 (hT 65 rfl rfl hG) (hT 66 rfl rfl hG) ⟨Ext.refl _, fun _ => rfl⟩
 refine Ask.guarded (B := (((decide ((keyPub seed h).1 = (keyPub seed h).1)) && (decide ((((keyPub seed h).2 : Nat) : Int) = (((keyPub seed h).2 : Nat) : Int)))) && (decide ((((keyNew seed h).2.2 : Nat) : Int) = (((keyPub seed h).2 : Nat) : Int)))) && ((!decide ((((keyNew seed h).2.2 : Nat) : Int) = ((0 : Nat) : Int))) || (decide ((⟨(keyNew seed h).1, (keyNew seed h).2.1, 0⟩ : Signer) = (⟨seed, h, ((0 : Nat) : Int)⟩ : Signer))))) (want := true) (t := 61) rfl rfl rfl rfl (by decide) (fun aq wq hO hR hT => hT 61 rfl rfl) (fun hG aq wq hNq hO hR hT => ?_) (fun hno _ => fun hc => absurd hc hno)
 exact does_or (B := decide ((((keyNew seed h).2.2 : Nat) : Int) = ((0 : Nat) : Int))) (X := decide ((⟨(keyNew seed h).1, (keyNew seed h).2.1, 0⟩ : Signer) = (⟨Dg.zero, ((0 : Nat) : Int), ((0 : Nat) : Int)⟩ : Signer))) (And.left (hT 64 rfl rfl) hG) rfl (fun hB => (hT 67 rfl rfl (andi hG (nb hB)))) ⟨Ext.refl _, fun _ => rfl⟩
 exact Ask.plain rfl rfl fun aq wq hNq hO hR hT => does_and (B := (((decide ((keyPub seed h).1 = (keyPub seed h).1)) && (decide ((((keyPub seed h).2 : Nat) : Int) = (((keyPub seed h).2 : Nat) : Int)))) && (decide ((((keyNew seed h).2.2 : Nat) : Int) = (((keyPub seed h).2 : Nat) : Int)))) && ((!decide ((((keyNew seed h).2.2 : Nat) : Int) = ((0 : Nat) : Int))) || (decide ((⟨(keyNew seed h).1, (keyNew seed h).2.1, 0⟩ : Signer) = (⟨seed, h, ((0 : Nat) : Int)⟩ : Signer))))) (X := (decide ((((keyNew seed h).2.2 : Nat) : Int) = ((0 : Nat) : Int))) || (decide ((⟨(keyNew seed h).1, (keyNew seed h).2.1, 0⟩ : Signer) = (⟨Dg.zero, ((0 : Nat) : Int), ((0 : Nat) : Int)⟩ : Signer)))) (hT 61 rfl rfl) (fun hB => (hT 68 rfl rfl hB)) rfl ⟨Ext.refl _, rfl⟩
 exact Ask.plain rfl rfl fun aq wq hNq hO hR hT => does_assign (V := Value.bool (((((decide ((keyPub seed h).1 = (keyPub seed h).1)) && (decide ((((keyPub seed h).2 : Nat) : Int) = (((keyPub seed h).2 : Nat) : Int)))) && (decide ((((keyNew seed h).2.2 : Nat) : Int) = (((keyPub seed h).2 : Nat) : Int)))) && ((!decide ((((keyNew seed h).2.2 : Nat) : Int) = ((0 : Nat) : Int))) || (decide ((⟨(keyNew seed h).1, (keyNew seed h).2.1, 0⟩ : Signer) = (⟨seed, h, ((0 : Nat) : Int)⟩ : Signer))))) && ((decide ((((keyNew seed h).2.2 : Nat) : Int) = ((0 : Nat) : Int))) || (decide ((⟨(keyNew seed h).1, (keyNew seed h).2.1, 0⟩ : Signer) = (⟨Dg.zero, ((0 : Nat) : Int), ((0 : Nat) : Int)⟩ : Signer)))))) (hT 69 rfl rfl) ⟨Ext.refl _, rfl⟩
 intro a14 wd14 hN_14 hD_14 hO hR hA hU
 obtain ⟨_, _, _, _, _, _, _, _, _, _, _, _, _, _, _, _, _, _, _, _, _, _, _, _, _, _, _, _, _, _, _, _, _, t4, _⟩ := hA
 have hE_14 := hE_12.trans hR
 have hbb2_14 := hbb2_12.ext' hR
 have hbb5_14 := hbb5_12.ext' hR
 have hbb7_14 := hbb7_12.ext' hR
 have hbb9_14 := hbb9_12.ext' hR
 have s4_14 : get a14 4 = Value.bool (((((decide ((keyPub seed h).1 = (keyPub seed h).1)) && (decide ((((keyPub seed h).2 : Nat) : Int) = (((keyPub seed h).2 : Nat) : Int)))) && (decide ((((keyNew seed h).2.2 : Nat) : Int) = (((keyPub seed h).2 : Nat) : Int)))) && ((!decide ((((keyNew seed h).2.2 : Nat) : Int) = ((0 : Nat) : Int))) || (decide ((⟨(keyNew seed h).1, (keyNew seed h).2.1, 0⟩ : Signer) = (⟨seed, h, ((0 : Nat) : Int)⟩ : Signer))))) && ((decide ((((keyNew seed h).2.2 : Nat) : Int) = ((0 : Nat) : Int))) || (decide ((⟨(keyNew seed h).1, (keyNew seed h).2.1, 0⟩ : Signer) = (⟨Dg.zero, ((0 : Nat) : Int), ((0 : Nat) : Int)⟩ : Signer))))) := t4
 clear hE_12 hN_13 hD_13 s1_13 s2_13 s5_13 s6_13 s7_13 s8_13 s9_13 s10_13 hbb2_12 hbb5_12 hbb7_12 hbb9_12
 refine tail_nil ?_
 refine wp_ret ?_
 refine res_one (V := Value.bool (((((decide ((keyPub seed h).1 = (keyPub seed h).1)) && (decide ((((keyPub seed h).2 : Nat) : Int) = (((keyPub seed h).2 : Nat) : Int)))) && (decide ((((keyNew seed h).2.2 : Nat) : Int) = (((keyPub seed h).2 : Nat) : Int)))) && ((!decide ((((keyNew seed h).2.2 : Nat) : Int) = ((0 : Nat) : Int))) || (decide ((⟨(keyNew seed h).1, (keyNew seed h).2.1, 0⟩ : Signer) = (⟨seed, h, ((0 : Nat) : Int)⟩ : Signer))))) && ((decide ((((keyNew seed h).2.2 : Nat) : Int) = ((0 : Nat) : Int))) || (decide ((⟨(keyNew seed h).1, (keyNew seed h).2.1, 0⟩ : Signer) = (⟨Dg.zero, ((0 : Nat) : Int), ((0 : Nat) : Int)⟩ : Signer)))))) rfl hD_14 s4_14 ?_
 by_cases hb : 0 ≤ h ∧ h ≤ 4
 rw [keyNew_ok hb]
 exact ⟨congrArg Value.bool (by simp [keyPub_err hb]), hE_14⟩
 rw [keyPub_no hb, keyNew_no hb]
 exact ⟨congrArg Value.bool (by simp), hE_14⟩

end Go.Proofs.YtaeohnkfmachfabDoor
