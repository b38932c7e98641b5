/- The walks of functions of the program: printed. -/
import Derived.Test.YtijfjpbahepegaaDoorKB
import Derived.Test.YtijfjpbahepegaaDoorG9
import Derived.Test.YtijfjpbahepegaaDoorG10
import Derived.Test.YtijfjpbahepegaaDoorG72
import Derived.Test.YtijfjpbahepegaaDoorG94
import Derived.Test.YtijfjpbahepegaaDoorG96
import Derived.Test.YtijfjpbahepegaaDoorF0
set_option maxRecDepth 100000
namespace Go.Proofs.YtijfjpbahepegaaDoor
open Go Go.RowKit Sk Sd
theorem call_12 : Callable Tryd.prog 12 := ⟨_, Tryd.func12, by kernel_rfl, rfl⟩
theorem call_31 : Callable Tryd.prog 31 := ⟨_, Tryd.func31, by kernel_rfl, rfl⟩
theorem call_32 : Callable Tryd.prog 32 := ⟨_, Tryd.func32, by kernel_rfl, rfl⟩
theorem call_33 : Callable Tryd.prog 33 := ⟨_, Tryd.func33, by kernel_rfl, rfl⟩
theorem call_29 : Callable Tryd.prog 29 := ⟨_, Tryd.func29, by kernel_rfl, rfl⟩
theorem headSigns (z : Head) (seed : Dg) (nx : UInt8) (w0 : World) (hL : Laid w0) :
    Gives Tryd.prog 10 #[Value.agg #[i64 (z.size), w32 (z.root).a, w32 (z.root).b, w32 (z.root).c, w32 (z.root).d], Dg.val (seed), w8 (nx)] w0 (Pr.ex (Value.bool true)) := by
 refine enter (N := 55) Tryd.func10 rfl rfl ?_
 intro a0 hN_0 hD_0 hA
 have s0_0 : get a0 0 = Value.agg #[i64 (z.size), w32 (z.root).a, w32 (z.root).b, w32 (z.root).c, w32 (z.root).d] := hA 0 _ rfl
 have s1_0 : get a0 1 = Dg.val (seed) := hA 1 _ rfl
 have s2_0 : get a0 2 = w8 (nx) := hA 2 _ rfl
 clear hA
 have hE_0 : Ext w0 w0 := Ext.refl w0
 refine wp_seq ?_
 refine region_lex [3, 4] [(3, Pr.box' w0.heap.size 29 [i64 (z.size), w32 (z.root).a, w32 (z.root).b, w32 (z.root).c, w32 (z.root).d]), (4, Pr.box' w0.heap.size 27 [w32 (seed).a, w32 (seed).b, w32 (seed).c, w32 (seed).d]), (6, Pr.ex (Value.bool (false)))] 3 hN_0 hD_0 (by kernel_rfl) (by kernel_rfl) ?_ ?_
 refine Asks.cons ?_ (Asks.cons ?_ (Asks.cons ?_ (Asks.zero _)))
 refine Ask.fresh rfl rfl ?_
 intro aq wq hNq hO hR hT
 exact does_box (V := Value.agg #[i64 (z.size), w32 (z.root).a, w32 (z.root).b, w32 (z.root).c, w32 (z.root).d]) ((hO 0 rfl).trans s0_0) (fun b w2 he hlo hb => ⟨he, ⟨b, rfl, Nat.le_trans hR.size' hlo, hb⟩, ⟨b, rfl, hlo, hb.lt⟩⟩)
 refine Ask.fresh rfl rfl ?_
 intro aq wq hNq hO hR hT
 exact does_box (V := Dg.val (seed)) ((hO 1 rfl).trans s1_0) (fun b w2 he hlo hb => ⟨he, ⟨b, rfl, Nat.le_trans hR.size' hlo, hb⟩, ⟨b, rfl, hlo, hb.lt⟩⟩)
 exact Ask.plain rfl rfl fun aq wq hNq hO hR hT => does_assign (V := Value.bool (false)) rfl ⟨Ext.refl _, rfl⟩
 intro a1 wd1 hN_1 hD_1 hO hR hA hU
 obtain ⟨t3, t4, _, _⟩ := hA
 have hE_1 := hE_0.trans hR
 have s2_1 := (hO 2 rfl).trans s2_0
 obtain ⟨b3, s3_1, lo_b3, hbb3_1⟩ := t3
 have fr_b3 : w0.heap.size ≤ b3 := Nat.le_trans hE_0.size' lo_b3
 obtain ⟨b4, s4_1, lo_b4, hbb4_1⟩ := t4
 have fr_b4 : w0.heap.size ≤ b4 := Nat.le_trans hE_0.size' lo_b4
 obtain ⟨u0, ⟨u1, _⟩⟩ := hU
 have ne_b3_b4 : b3 ≠ b4 := fun e => u0 4 (by decide) (by rw [s3_1, s4_1, e])
 clear hE_0 hN_0 hD_0 s0_0 s1_0 s2_0
 refine tail_nil ?_
 refine wp_seq ?_
 refine wp_seq ?_
 refine region_lex [] [(15, Pr.ex (Value.bool (true))), (16, Pr.ex (Value.bool (false)))] 2 hN_1 hD_1 (by kernel_rfl) (by kernel_rfl) ?_ ?_
 refine Asks.cons ?_ (Asks.cons ?_ (Asks.zero _))
 exact Ask.plain rfl rfl fun aq wq hNq hO hR hT => does_ret (vs := #[]) call_12 args0 rfl ((alive43 wq (hL.ext (hE_1.trans hR))).mono fun v w2 h => ⟨h.2, h.1⟩)
 exact Ask.plain rfl rfl fun aq wq hNq hO hR hT => does_not (B := true) (hT 15 rfl rfl) ⟨Ext.refl _, rfl⟩
 intro a2 wd2 hN_2 hD_2 hO hR hA hU
 obtain ⟨_, t16, _⟩ := hA
 have hE_2 := hE_1.trans hR
 have s2_2 := (hO 2 rfl).trans s2_1
 have s3_2 := (hO 3 rfl).trans s3_1
 have s4_2 := (hO 4 rfl).trans s4_1
 have hbb3_2 := hbb3_1.ext' hR
 have hbb4_2 := hbb4_1.ext' hR
 have s16_2 : get a2 16 = Value.bool (false) := t16
 clear hE_1 hN_1 hD_1 s2_1 s3_1 s4_1 hbb3_1 hbb4_1
 refine tail_nil ?_
 refine wp_ifF s16_2 ?_
 refine wp_skip ?_
 refine wp_seq ?_
 refine region_lex [] [(17, Pr.ex (w8 (nx))), (18, Pr.ex (w8 (UInt8.ofNat ((nx : UInt8).toNat % (2 : UInt8).toNat)))), (19, Pr.ex (i64 (((UInt8.ofNat ((nx : UInt8).toNat % (2 : UInt8).toNat)).toNat : Nat) : Int))), (7, Pr.ex (i64 (((UInt8.ofNat ((nx : UInt8).toNat % (2 : UInt8).toNat)).toNat : Nat) : Int)))] 4 hN_2 hD_2 (by kernel_rfl) (by kernel_rfl) ?_ ?_
 refine Asks.cons ?_ (Asks.cons ?_ (Asks.cons ?_ (Asks.cons ?_ (Asks.zero _))))
 exact Ask.plain rfl rfl fun aq wq hNq hO hR hT => does_move (V := w8 (nx)) ((hO 2 rfl).trans s2_2) ⟨Ext.refl _, rfl⟩
 exact Ask.plain rfl rfl fun aq wq hNq hO hR hT => does_rem8 (a := (nx : UInt8)) (b := (2 : UInt8)) (hT 17 rfl rfl) rfl (by decide) ⟨Ext.refl _, rfl⟩
 exact Ask.plain rfl rfl fun aq wq hNq hO hR hT => does_conv ⟨_, Tryd.underlying5⟩ Tryd.underlying3 (hT 18 rfl rfl) (conv_w_i8 _) ⟨Ext.refl _, rfl⟩
 exact Ask.plain rfl rfl fun aq wq hNq hO hR hT => does_assign (V := i64 (((UInt8.ofNat ((nx : UInt8).toNat % (2 : UInt8).toNat)).toNat : Nat) : Int)) (hT 19 rfl rfl) ⟨Ext.refl _, rfl⟩
 intro a3 wd3 hN_3 hD_3 hO hR hA hU
 obtain ⟨_, _, _, t7, _⟩ := hA
 have hE_3 := hE_2.trans hR
 have s3_3 := (hO 3 rfl).trans s3_2
 have s4_3 := (hO 4 rfl).trans s4_2
 have hbb3_3 := hbb3_2.ext' hR
 have hbb4_3 := hbb4_2.ext' hR
 have s7_3 : get a3 7 = i64 (((UInt8.ofNat ((nx : UInt8).toNat % (2 : UInt8).toNat)).toNat : Nat) : Int) := t7
 clear hE_2 hN_2 hD_2 s2_2 s3_2 s4_2 s16_2 hbb3_2 hbb4_2
 refine tail_nil ?_
 refine wp_seq ?_
 refine region_lex [8] [(21, Pr.ex (Dg.val (seed))), (22, Pr.ex (Value.tuple #[Value.agg #[w32 (seed).a, w32 (seed).b, w32 (seed).c, w32 (seed).d, i64 ((1 : Nat) : Int), i64 ((0 : Nat) : Int)], i64 ((0 : Nat) : Int)])), (20, Pr.ex (Value.tuple #[Value.agg #[w32 (seed).a, w32 (seed).b, w32 (seed).c, w32 (seed).d, i64 ((1 : Nat) : Int), i64 ((0 : Nat) : Int)], i64 ((0 : Nat) : Int)])), (23, Pr.ex (Value.agg #[w32 (seed).a, w32 (seed).b, w32 (seed).c, w32 (seed).d, i64 ((1 : Nat) : Int), i64 ((0 : Nat) : Int)])), (24, Pr.ex (i64 ((0 : Nat) : Int))), (8, Pr.box' wd3.heap.size 63 [w32 (Dg.zero).a, w32 (Dg.zero).b, w32 (Dg.zero).c, w32 (Dg.zero).d, i64 ((0 : Nat) : Int), i64 ((0 : Nat) : Int)])] 6 hN_3 hD_3 (by kernel_rfl) (by kernel_rfl) ?_ ?_
 refine Asks.cons ?_ (Asks.cons ?_ (Asks.cons ?_ (Asks.cons ?_ (Asks.cons ?_ (Asks.cons ?_ (Asks.zero _))))))
 exact Ask.plain rfl rfl fun aq wq hNq hO hR hT => does_loadD (o := 0) (n := 4) (mid := [w32 (seed).a, w32 (seed).b, w32 (seed).c, w32 (seed).d]) ((hO 4 rfl).trans s4_3) (hbb4_3.ext' hR) rfl rfl (Nat.le_of_ble_eq_true rfl) row_27 rfl ⟨Ext.refl _, rfl⟩
 exact Ask.plain rfl rfl fun aq wq hNq hO hR hT => does_ret (vs := #[Dg.val (seed), i64 ((1 : Nat) : Int)]) call_31 (args2 (hT 21 rfl rfl) rfl) rfl ((keyNew_k seed 1 wq (by decide)).mono fun v w2 h => ⟨h.2, h.1⟩)
 exact Ask.plain rfl rfl fun aq wq hNq hO hR hT => does_move (V := Value.tuple #[Value.agg #[w32 (seed).a, w32 (seed).b, w32 (seed).c, w32 (seed).d, i64 ((1 : Nat) : Int), i64 ((0 : Nat) : Int)], i64 ((0 : Nat) : Int)]) (hT 22 rfl rfl) ⟨Ext.refl _, rfl⟩
 exact Ask.plain rfl rfl fun aq wq hNq hO hR hT => does_extract (V := Value.agg #[w32 (seed).a, w32 (seed).b, w32 (seed).c, w32 (seed).d, i64 ((1 : Nat) : Int), i64 ((0 : Nat) : Int)]) (hT 20 rfl rfl) rfl ⟨Ext.refl _, rfl⟩
 exact Ask.plain rfl rfl fun aq wq hNq hO hR hT => does_extract (V := i64 ((0 : Nat) : Int)) (hT 20 rfl rfl) rfl ⟨Ext.refl _, rfl⟩
 refine Ask.fresh rfl rfl ?_
 intro aq wq hNq hO hR hT
 exact does_alloc zero_63 (fun b w2 he hlo hb => ⟨he, ⟨b, rfl, Nat.le_trans hR.size' hlo, hb⟩, ⟨b, rfl, hlo, hb.lt⟩⟩)
 intro a4 wd4 hN_4 hD_4 hO hR hA hU
 obtain ⟨_, _, _, t23, t24, t8, _⟩ := hA
 have hE_4 := hE_3.trans hR
 have s3_4 := (hO 3 rfl).trans s3_3
 have s4_4 := (hO 4 rfl).trans s4_3
 have s7_4 := (hO 7 rfl).trans s7_3
 have hbb3_4 := hbb3_3.ext' hR
 have hbb4_4 := hbb4_3.ext' hR
 have s23_4 : get a4 23 = Value.agg #[w32 (seed).a, w32 (seed).b, w32 (seed).c, w32 (seed).d, i64 ((1 : Nat) : Int), i64 ((0 : Nat) : Int)] := t23
 have s24_4 : get a4 24 = i64 ((0 : Nat) : Int) := t24
 obtain ⟨b8, s8_4, lo_b8, hbb8_4⟩ := t8
 have ne_b3_b8 : b3 ≠ b8 := fun e => Nat.lt_irrefl _ (Nat.lt_of_lt_of_le hbb3_3.lt (e ▸ lo_b8))
 have ne_b4_b8 : b4 ≠ b8 := fun e => Nat.lt_irrefl _ (Nat.lt_of_lt_of_le hbb4_3.lt (e ▸ lo_b8))
 have fr_b8 : w0.heap.size ≤ b8 := Nat.le_trans hE_3.size' lo_b8
 clear hE_3 hN_3 hD_3 s3_3 s4_3 s7_3 hbb3_3 hbb4_3
 refine tail_none rfl rfl (does_storeD (o := 0) (n := 6) (cs' := [w32 (seed).a, w32 (seed).b, w32 (seed).c, w32 (seed).d, i64 ((1 : Nat) : Int), i64 ((0 : Nat) : Int)]) (V := Value.agg #[w32 (seed).a, w32 (seed).b, w32 (seed).c, w32 (seed).d, i64 ((1 : Nat) : Int), i64 ((0 : Nat) : Int)]) s8_4 s23_4 hbb8_4 (Nat.le_of_ble_eq_true rfl) rfl siz_63 rfl rfl (fun wd5 hX hz hbb8_5 => ?_))
 have hE_5 := hE_4.since hX (fun k e => e ▸ fr_b8)
 have hbb3_5 := hbb3_4.ext hX ne_b3_b8
 have hbb4_5 := hbb4_4.ext hX ne_b4_b8
 clear hX hz hE_4 hbb3_4 hbb4_4 hbb8_4
 refine tail_put rfl rfl hN_4 hD_4 (by decide) (does_assign (V := i64 ((0 : Nat) : Int)) s24_4 (fun a6 hN_6 hD_6 hv hO => ?_))
 have s9_6 := hv
 have s3_6 := (hO 3 rfl).trans s3_4
 have s4_6 := (hO 4 rfl).trans s4_4
 have s7_6 := (hO 7 rfl).trans s7_4
 have s8_6 := (hO 8 rfl).trans s8_4
 clear hO hv hN_4 hD_4 s3_4 s4_4 s7_4 s8_4 s23_4 s24_4
 refine tail_nil ?_
 refine wp_seq ?_
 refine wp_seq ?_
 refine region_lex [] [(25, Pr.ex (i64 ((0 : Nat) : Int))), (26, Pr.ex (Value.bool (false)))] 2 hN_6 hD_6 (by kernel_rfl) (by kernel_rfl) ?_ ?_
 refine Asks.cons ?_ (Asks.cons ?_ (Asks.zero _))
 exact Ask.plain rfl rfl fun aq wq hNq hO hR hT => does_move (V := i64 ((0 : Nat) : Int)) ((hO 9 rfl).trans s9_6) ⟨Ext.refl _, rfl⟩
 exact Ask.plain rfl rfl fun aq wq hNq hO hR hT => does_neq (a := ((0 : Nat) : Int)) (b := ((0 : Nat) : Int)) (hT 25 rfl rfl) rfl ⟨Ext.refl _, rfl⟩
 intro a7 wd7 hN_7 hD_7 hO hR hA hU
 obtain ⟨_, t26, _⟩ := hA
 have hE_7 := hE_5.trans hR
 have s3_7 := (hO 3 rfl).trans s3_6
 have s4_7 := (hO 4 rfl).trans s4_6
 have s7_7 := (hO 7 rfl).trans s7_6
 have s8_7 := (hO 8 rfl).trans s8_6
 have hbb3_7 := hbb3_5.ext' hR
 have hbb4_7 := hbb4_5.ext' hR
 have hbb8_7 := hbb8_5.ext' hR
 have s26_7 : get a7 26 = Value.bool (false) := t26
 clear hE_5 hN_6 hD_6 s3_6 s4_6 s7_6 s8_6 s9_6 hbb3_5 hbb4_5 hbb8_5
 refine tail_nil ?_
 refine wp_ifF s26_7 ?_
 refine wp_skip ?_
 refine wp_seq ?_
 have hj0 : (UInt8.ofNat ((nx : UInt8).toNat % (2 : UInt8).toNat)).toNat < 2 := by have := Nat.mod_lt nx.toNat (show 0 < 2 by decide); first | omega | (simp; omega)
 obtain ⟨j, hje⟩ : ∃ j : Nat, (UInt8.ofNat ((nx : UInt8).toNat % (2 : UInt8).toNat)).toNat = j := ⟨_, rfl⟩
 rw [hje] at hj0 s7_7
 have hj : j < pw 1 := hj0
 refine region_lex [] [(27, Pr.ex (i64 ((j : Nat) : Int))), (28, Pr.ex (Value.pointer (some ⟨b8, 5, none⟩)))] 2 hN_7 hD_7 (by kernel_rfl) (by kernel_rfl) ?_ ?_
 refine Asks.cons ?_ (Asks.cons ?_ (Asks.zero _))
 exact Ask.plain rfl rfl fun aq wq hNq hO hR hT => does_move (V := i64 ((j : Nat) : Int)) ((hO 7 rfl).trans s7_7) ⟨Ext.refl _, rfl⟩
 exact Ask.plain rfl rfl fun aq wq hNq hO hR hT => does_field (o' := 5) fld_63_2 ((hO 8 rfl).trans s8_7) rfl ⟨Ext.refl _, rfl⟩
 intro a8 wd8 hN_8 hD_8 hO hR hA hU
 obtain ⟨t27, t28, _⟩ := hA
 have hE_8 := hE_7.trans hR
 have s3_8 := (hO 3 rfl).trans s3_7
 have s4_8 := (hO 4 rfl).trans s4_7
 have s8_8 := (hO 8 rfl).trans s8_7
 have hbb3_8 := hbb3_7.ext' hR
 have hbb4_8 := hbb4_7.ext' hR
 have hbb8_8 := hbb8_7.ext' hR
 have s27_8 : get a8 27 = i64 ((j : Nat) : Int) := t27
 have s28_8 : get a8 28 = Value.pointer (some ⟨b8, 5, none⟩) := t28
 clear hE_7 hN_7 hD_7 s3_7 s4_7 s7_7 s8_7 s26_7 hbb3_7 hbb4_7 hbb8_7
 refine tail_none rfl rfl (does_storeD (o := 5) (n := 1) (cs' := [w32 (seed).a, w32 (seed).b, w32 (seed).c, w32 (seed).d, i64 ((1 : Nat) : Int), i64 ((j : Nat) : Int)]) (V := i64 ((j : Nat) : Int)) s28_8 s27_8 hbb8_8 (Nat.le_of_ble_eq_true rfl) rfl siz_3 rfl rfl (fun wd9 hX hz hbb8_9 => ?_))
 have hE_9 := hE_8.since hX (fun k e => e ▸ fr_b8)
 have hbb3_9 := hbb3_8.ext hX ne_b3_b8
 have hbb4_9 := hbb4_8.ext hX ne_b4_b8
 clear hX hz hE_8 hbb3_8 hbb4_8 hbb8_8
 refine tail_nil ?_
 refine wp_seq ?_
 refine region_lex [10] [(30, Pr.ex (Dg.val (seed))), (31, Pr.ex (Value.tuple #[Dg.val (root (publics seed (pw 1))), i64 ((0 : Nat) : Int)])), (29, Pr.ex (Value.tuple #[Dg.val (root (publics seed (pw 1))), i64 ((0 : Nat) : Int)])), (32, Pr.ex (Dg.val (root (publics seed (pw 1))))), (33, Pr.ex (i64 ((0 : Nat) : Int))), (10, Pr.box' wd9.heap.size 27 [w32 (Dg.zero).a, w32 (Dg.zero).b, w32 (Dg.zero).c, w32 (Dg.zero).d])] 6 hN_8 hD_8 (by kernel_rfl) (by kernel_rfl) ?_ ?_
 refine Asks.cons ?_ (Asks.cons ?_ (Asks.cons ?_ (Asks.cons ?_ (Asks.cons ?_ (Asks.cons ?_ (Asks.zero _))))))
 exact Ask.plain rfl rfl fun aq wq hNq hO hR hT => does_loadD (o := 0) (n := 4) (mid := [w32 (seed).a, w32 (seed).b, w32 (seed).c, w32 (seed).d]) ((hO 4 rfl).trans s4_8) (hbb4_9.ext' hR) rfl rfl (Nat.le_of_ble_eq_true rfl) row_27 rfl ⟨Ext.refl _, rfl⟩
 exact Ask.plain rfl rfl fun aq wq hNq hO hR hT => does_ret (vs := #[Dg.val (seed), i64 ((1 : Nat) : Int)]) call_32 (args2 (hT 30 rfl rfl) rfl) rfl ((keyPub_k seed 1 wq (hL.ext (hE_9.trans hR)) (by decide)).mono fun v w2 h => ⟨h.2, h.1⟩)
 exact Ask.plain rfl rfl fun aq wq hNq hO hR hT => does_move (V := Value.tuple #[Dg.val (root (publics seed (pw 1))), i64 ((0 : Nat) : Int)]) (hT 31 rfl rfl) ⟨Ext.refl _, rfl⟩
 exact Ask.plain rfl rfl fun aq wq hNq hO hR hT => does_extract (V := Dg.val (root (publics seed (pw 1)))) (hT 29 rfl rfl) rfl ⟨Ext.refl _, rfl⟩
 exact Ask.plain rfl rfl fun aq wq hNq hO hR hT => does_extract (V := i64 ((0 : Nat) : Int)) (hT 29 rfl rfl) rfl ⟨Ext.refl _, rfl⟩
 refine Ask.fresh rfl rfl ?_
 intro aq wq hNq hO hR hT
 exact does_alloc zero_27 (fun b w2 he hlo hb => ⟨he, ⟨b, rfl, Nat.le_trans hR.size' hlo, hb⟩, ⟨b, rfl, hlo, hb.lt⟩⟩)
 intro a10 wd10 hN_10 hD_10 hO hR hA hU
 obtain ⟨_, _, _, t32, t33, t10, _⟩ := hA
 have hE_10 := hE_9.trans hR
 have s3_10 := (hO 3 rfl).trans s3_8
 have s8_10 := (hO 8 rfl).trans s8_8
 have hbb3_10 := hbb3_9.ext' hR
 have hbb4_10 := hbb4_9.ext' hR
 have hbb8_10 := hbb8_9.ext' hR
 have s32_10 : get a10 32 = Dg.val (root (publics seed (pw 1))) := t32
 have s33_10 : get a10 33 = i64 ((0 : Nat) : Int) := t33
 obtain ⟨b10, s10_10, lo_b10, hbb10_10⟩ := t10
 have ne_b3_b10 : b3 ≠ b10 := fun e => Nat.lt_irrefl _ (Nat.lt_of_lt_of_le hbb3_9.lt (e ▸ lo_b10))
 have ne_b4_b10 : b4 ≠ b10 := fun e => Nat.lt_irrefl _ (Nat.lt_of_lt_of_le hbb4_9.lt (e ▸ lo_b10))
 have ne_b8_b10 : b8 ≠ b10 := fun e => Nat.lt_irrefl _ (Nat.lt_of_lt_of_le hbb8_9.lt (e ▸ lo_b10))
 have fr_b10 : w0.heap.size ≤ b10 := Nat.le_trans hE_9.size' lo_b10
 clear hE_9 hN_8 hD_8 s3_8 s4_8 s8_8 s27_8 s28_8 hbb3_9 hbb4_9 hbb8_9
 refine tail_none rfl rfl (does_storeD (o := 0) (n := 4) (cs' := [w32 (root (publics seed (pw 1))).a, w32 (root (publics seed (pw 1))).b, w32 (root (publics seed (pw 1))).c, w32 (root (publics seed (pw 1))).d]) (V := Dg.val (root (publics seed (pw 1)))) s10_10 s32_10 hbb10_10 (Nat.le_of_ble_eq_true rfl) rfl siz_27 rfl rfl (fun wd11 hX hz hbb10_11 => ?_))
 have hE_11 := hE_10.since hX (fun k e => e ▸ fr_b10)
 have hbb3_11 := hbb3_10.ext hX ne_b3_b10
 have hbb4_11 := hbb4_10.ext hX ne_b4_b10
 have hbb8_11 := hbb8_10.ext hX ne_b8_b10
 clear hX hz hE_10 hbb3_10 hbb4_10 hbb8_10 hbb10_10
 refine tail_put rfl rfl hN_10 hD_10 (by decide) (does_assign (V := i64 ((0 : Nat) : Int)) s33_10 (fun a12 hN_12 hD_12 hv hO => ?_))
 have s11_12 := hv
 have s3_12 := (hO 3 rfl).trans s3_10
 have s8_12 := (hO 8 rfl).trans s8_10
 have s10_12 := (hO 10 rfl).trans s10_10
 clear hO hv hN_10 hD_10 s3_10 s8_10 s10_10 s32_10 s33_10
 refine tail_nil ?_
 refine wp_seq ?_
 refine region_late [12, 13] [(35, Pr.ex (Value.agg #[w32 (seed).a, w32 (seed).b, w32 (seed).c, w32 (seed).d, i64 ((1 : Nat) : Int), i64 ((j : Nat) : Int)])), (36, Pr.ex (Value.agg #[i64 (z.size), w32 (z.root).a, w32 (z.root).b, w32 (z.root).c, w32 (z.root).d])), (37, Pr.ex (Dg.val (headOf z))), (38, Pr.t3 (Pr.ex (Value.agg #[w32 (seed).a, w32 (seed).b, w32 (seed).c, w32 (seed).d, i64 ((1 : Nat) : Int), i64 ((j + 1 : Nat) : Int)])) (Pr.ag2 (fun x y => Value.agg #[i64 ((j : Nat) : Int), x, y]) (Pr.own' DG wd11.heap.size 27 (signed (seedAt seed j) (headOf z))) (Pr.own' DG wd11.heap.size 27 (way (publics seed (pw 1)) j))) (Pr.ex (i64 ((0 : Nat) : Int)))), (34, Pr.t3 (Pr.ex (Value.agg #[w32 (seed).a, w32 (seed).b, w32 (seed).c, w32 (seed).d, i64 ((1 : Nat) : Int), i64 ((j + 1 : Nat) : Int)])) (Pr.ag2 (fun x y => Value.agg #[i64 ((j : Nat) : Int), x, y]) (Pr.own' DG wd11.heap.size 27 (signed (seedAt seed j) (headOf z))) (Pr.own' DG wd11.heap.size 27 (way (publics seed (pw 1)) j))) (Pr.ex (i64 ((0 : Nat) : Int)))), (39, Pr.ex (Value.agg #[w32 (seed).a, w32 (seed).b, w32 (seed).c, w32 (seed).d, i64 ((1 : Nat) : Int), i64 ((j + 1 : Nat) : Int)])), (40, Pr.ag2 (fun x y => Value.agg #[i64 ((j : Nat) : Int), x, y]) (Pr.own' DG wd11.heap.size 27 (signed (seedAt seed j) (headOf z))) (Pr.own' DG wd11.heap.size 27 (way (publics seed (pw 1)) j))), (41, Pr.ex (i64 ((0 : Nat) : Int))), (12, Pr.box' wd11.heap.size 63 [w32 (Dg.zero).a, w32 (Dg.zero).b, w32 (Dg.zero).c, w32 (Dg.zero).d, i64 ((0 : Nat) : Int), i64 ((0 : Nat) : Int)]), (13, Pr.box' wd11.heap.size 57 [i64 ((0 : Nat) : Int), Value.slice none 0 0, Value.slice none 0 0])] 10 [6, 7] (fun k => wd11.heap.size ≤ k) mixed hN_12 hD_12 (by kernel_rfl) (by kernel_rfl) (by kernel_rfl) (by kernel_rfl) (fun d v c a w h => by cases d <;> exact h) ?_ ?_ ?_
 refine Asks.cons ?_ (Asks.cons ?_ (Asks.cons ?_ (Asks.cons ?_ (Asks.cons ?_ (Asks.cons ?_ (Asks.cons ?_ (Asks.cons ?_ (Asks.cons ?_ (Asks.cons ?_ (Asks.zero _))))))))))
 exact Ask.plainD rfl rfl fun aq wq hNq hO hR hT => does_loadD (o := 0) (n := 6) (mid := [w32 (seed).a, w32 (seed).b, w32 (seed).c, w32 (seed).d, i64 ((1 : Nat) : Int), i64 ((j : Nat) : Int)]) ((hO 8 rfl).trans s8_12) (hbb8_11.ext' hR) rfl rfl (Nat.le_of_ble_eq_true rfl) row_63 rfl ⟨Ext.refl _, rfl⟩
 exact Ask.plainD rfl rfl fun aq wq hNq hO hR hT => does_loadD (o := 0) (n := 5) (mid := [i64 (z.size), w32 (z.root).a, w32 (z.root).b, w32 (z.root).c, w32 (z.root).d]) ((hO 3 rfl).trans s3_12) (hbb3_11.ext' hR) rfl rfl (Nat.le_of_ble_eq_true rfl) row_29 rfl ⟨Ext.refl _, rfl⟩
 exact Ask.plainD rfl rfl fun aq wq hNq hO hR hT => does_ret (vs := #[Value.agg #[i64 (z.size), w32 (z.root).a, w32 (z.root).b, w32 (z.root).c, w32 (z.root).d]]) call_16 (args1 (hT 36 rfl rfl)) rfl ((headOf_ z wq (hL.ext (hE_11.trans hR))).mono fun v w2 h => ⟨h.2, h.1⟩)
 exact Ask.plainD rfl rfl fun aq wq hNq hO hR hT => does_ret (vs := #[Value.agg #[w32 (seed).a, w32 (seed).b, w32 (seed).c, w32 (seed).d, i64 ((1 : Nat) : Int), i64 ((j : Nat) : Int)], Dg.val (headOf z)]) call_33 (args2 (hT 35 rfl rfl) (hT 37 rfl rfl)) rfl ((keyUse_k seed 1 j (headOf z) wq (hL.ext (hE_11.trans hR)) (by decide) hj).mono fun v w2 h => ⟨h.2, by obtain ⟨x0, x1, x2, hv, k0, k1, k2⟩ := h.1; exact ⟨x0, x1, x2, hv, k0, (by obtain ⟨z0, z1, hz, kz0, kz1⟩ := k1; exact ⟨z0, z1, hz, OwnT.base kz0 hR.size', OwnT.base kz1 hR.size'⟩), k2⟩⟩)
 exact Ask.plainD rfl rfl fun aq wq hNq hO hR hT => does_move rfl ⟨Ext.refl _, (hT 38 rfl rfl)⟩
 exact Ask.plainD rfl rfl fun aq wq hNq hO hR hT => by
  obtain ⟨x0, x1, x2, hv, k0, k1, k2⟩ := (hT 34 rfl rfl)
  exact does_extract (V := Value.agg #[w32 (seed).a, w32 (seed).b, w32 (seed).c, w32 (seed).d, i64 ((1 : Nat) : Int), i64 ((j + 1 : Nat) : Int)]) hv (by rw [show x0 = Value.agg #[w32 (seed).a, w32 (seed).b, w32 (seed).c, w32 (seed).d, i64 ((1 : Nat) : Int), i64 ((j + 1 : Nat) : Int)] from k0]; rfl) ⟨Ext.refl _, rfl⟩
 exact Ask.plainD rfl rfl fun aq wq hNq hO hR hT => by
  obtain ⟨x0, x1, x2, hv, k0, k1, k2⟩ := (hT 34 rfl rfl)
  exact does_extract hv rfl ⟨Ext.refl _, k1⟩
 exact Ask.plainD rfl rfl fun aq wq hNq hO hR hT => by
  obtain ⟨x0, x1, x2, hv, k0, k1, k2⟩ := (hT 34 rfl rfl)
  exact does_extract (V := i64 ((0 : Nat) : Int)) hv (by rw [show x2 = i64 ((0 : Nat) : Int) from k2]; rfl) ⟨Ext.refl _, rfl⟩
 refine Ask.fresh rfl rfl ?_
 intro aq wq hNq hO hR hT
 replace hR := (Ext.drew _).trans hR
 exact does_alloc zero_63 (fun b w2 he hlo hb => ⟨he, ⟨b, rfl, Nat.le_trans hR.size' hlo, hb⟩, ⟨b, rfl, hlo, hb.lt⟩⟩)
 refine Ask.fresh rfl rfl ?_
 intro aq wq hNq hO hR hT
 replace hR := (Ext.drew _).trans hR
 exact does_alloc zero_57 (fun b w2 he hlo hb => ⟨he, ⟨b, rfl, Nat.le_trans hR.size' hlo, hb⟩, ⟨b, rfl, hlo, hb.lt⟩⟩)
 refine LateAsks.cons rfl rfl rfl ?_ (LateAsks.cons rfl rfl rfl ?_ LateAsks.nil)
 intro aq wq hO hR hT
 have hR0 := hR
 replace hR := (Ext.drew _).trans hR
 obtain ⟨x0, x1, x2, hv, k0, k1, k2⟩ := (hT 34 rfl rfl)
 exact ⟨_, yl_extract hv rfl, k1⟩
 intro aq wq hO hR hT
 have hR0 := hR
 replace hR := (Ext.drew _).trans hR
 obtain ⟨x0, x1, x2, hv, k0, k1, k2⟩ := (hT 34 rfl rfl)
 exact ⟨_, yl_extract (V := i64 ((0 : Nat) : Int)) hv (by rw [show x2 = i64 ((0 : Nat) : Int) from k2]; rfl), rfl⟩
 intro wl hwl hwh a13 wd13 hN_13 hD_13 hO hR hA hU
 have hS_13 : ExtE (fun k => wd11.heap.size ≤ k) wl wd13 := hR.toE
 replace hR := hwl.trans hR
 obtain ⟨_, _, _, _, _, t39, t40, t41, t12, t13, _⟩ := hA
 have hE_13 := hE_11.trans hR
 have s3_13 := (hO 3 rfl).trans s3_12
 have s10_13 := (hO 10 rfl).trans s10_12
 have s11_13 := (hO 11 rfl).trans s11_12
 have hbb3_13 := hbb3_11.ext' hR
 have hbb4_13 := hbb4_11.ext' hR
 have hbb8_13 := hbb8_11.ext' hR
 have hbb10_13 := hbb10_11.ext' hR
 have s39_13 : get a13 39 = Value.agg #[w32 (seed).a, w32 (seed).b, w32 (seed).c, w32 (seed).d, i64 ((1 : Nat) : Int), i64 ((j + 1 : Nat) : Int)] := t39
 obtain ⟨x40_0_13, x40_1_13, s40_13, ky40_0_13, ky40_1_13⟩ := t40
 replace ky40_0_13 : OwnT DG wd11.heap.size 27 (signed (seedAt seed j) (headOf z)) x40_0_13 wd13 := ky40_0_13
 have nbo_x40_0_13_b3 : x40_0_13.ownBlock ≠ some b3 := fun e => Nat.lt_irrefl _ (Nat.lt_of_lt_of_le hbb3_11.lt (OwnT.block_lt ky40_0_13 e).1)
 have nbo_x40_0_13_b4 : x40_0_13.ownBlock ≠ some b4 := fun e => Nat.lt_irrefl _ (Nat.lt_of_lt_of_le hbb4_11.lt (OwnT.block_lt ky40_0_13 e).1)
 have nbo_x40_0_13_b8 : x40_0_13.ownBlock ≠ some b8 := fun e => Nat.lt_irrefl _ (Nat.lt_of_lt_of_le hbb8_11.lt (OwnT.block_lt ky40_0_13 e).1)
 have nbo_x40_0_13_b10 : x40_0_13.ownBlock ≠ some b10 := fun e => Nat.lt_irrefl _ (Nat.lt_of_lt_of_le hbb10_11.lt (OwnT.block_lt ky40_0_13 e).1)
 have hsx40_0_13_13 := ky40_0_13.sl.wide (Nat.zero_le _) (.inl rfl)
 have hox40_0_13_13 := OwnT.base ky40_0_13 hE_11.size'
 replace ky40_1_13 : OwnT DG wd11.heap.size 27 (way (publics seed (pw 1)) j) x40_1_13 wd13 := ky40_1_13
 have nbo_x40_1_13_b3 : x40_1_13.ownBlock ≠ some b3 := fun e => Nat.lt_irrefl _ (Nat.lt_of_lt_of_le hbb3_11.lt (OwnT.block_lt ky40_1_13 e).1)
 have nbo_x40_1_13_b4 : x40_1_13.ownBlock ≠ some b4 := fun e => Nat.lt_irrefl _ (Nat.lt_of_lt_of_le hbb4_11.lt (OwnT.block_lt ky40_1_13 e).1)
 have nbo_x40_1_13_b8 : x40_1_13.ownBlock ≠ some b8 := fun e => Nat.lt_irrefl _ (Nat.lt_of_lt_of_le hbb8_11.lt (OwnT.block_lt ky40_1_13 e).1)
 have nbo_x40_1_13_b10 : x40_1_13.ownBlock ≠ some b10 := fun e => Nat.lt_irrefl _ (Nat.lt_of_lt_of_le hbb10_11.lt (OwnT.block_lt ky40_1_13 e).1)
 have hsx40_1_13_13 := ky40_1_13.sl.wide (Nat.zero_le _) (.inl rfl)
 have hox40_1_13_13 := OwnT.base ky40_1_13 hE_11.size'
 have s41_13 : get a13 41 = i64 ((0 : Nat) : Int) := t41
 obtain ⟨b12, s12_13, lo_b12, hbb12_13⟩ := t12
 have ne_b3_b12 : b3 ≠ b12 := fun e => Nat.lt_irrefl _ (Nat.lt_of_lt_of_le hbb3_11.lt (e ▸ lo_b12))
 have ne_b4_b12 : b4 ≠ b12 := fun e => Nat.lt_irrefl _ (Nat.lt_of_lt_of_le hbb4_11.lt (e ▸ lo_b12))
 have ne_b8_b12 : b8 ≠ b12 := fun e => Nat.lt_irrefl _ (Nat.lt_of_lt_of_le hbb8_11.lt (e ▸ lo_b12))
 have ne_b10_b12 : b10 ≠ b12 := fun e => Nat.lt_irrefl _ (Nat.lt_of_lt_of_le hbb10_11.lt (e ▸ lo_b12))
 have fr_b12 : w0.heap.size ≤ b12 := Nat.le_trans hE_11.size' lo_b12
 obtain ⟨b13, s13_13, lo_b13, hbb13_13⟩ := t13
 have ne_b3_b13 : b3 ≠ b13 := fun e => Nat.lt_irrefl _ (Nat.lt_of_lt_of_le hbb3_11.lt (e ▸ lo_b13))
 have ne_b4_b13 : b4 ≠ b13 := fun e => Nat.lt_irrefl _ (Nat.lt_of_lt_of_le hbb4_11.lt (e ▸ lo_b13))
 have ne_b8_b13 : b8 ≠ b13 := fun e => Nat.lt_irrefl _ (Nat.lt_of_lt_of_le hbb8_11.lt (e ▸ lo_b13))
 have ne_b10_b13 : b10 ≠ b13 := fun e => Nat.lt_irrefl _ (Nat.lt_of_lt_of_le hbb10_11.lt (e ▸ lo_b13))
 have fr_b13 : w0.heap.size ≤ b13 := Nat.le_trans hE_11.size' lo_b13
 have nbo_x40_0_13_b12 := OwnT.typed hox40_0_13_13 hbb12_13 (by decide)
 have nbo_x40_0_13_b13 := OwnT.typed hox40_0_13_13 hbb13_13 (by decide)
 have nbo_x40_1_13_b12 := OwnT.typed hox40_1_13_13 hbb12_13 (by decide)
 have nbo_x40_1_13_b13 := OwnT.typed hox40_1_13_13 hbb13_13 (by decide)
 obtain ⟨u0, ⟨u1, _⟩⟩ := hU
 have ne_b12_b13 : b12 ≠ b13 := fun e => u0 13 (by decide) (by rw [s12_13, s13_13, e])
 clear hE_11 hN_12 hD_12 s3_12 s8_12 s10_12 s11_12 hbb3_11 hbb4_11 hbb8_11 hbb10_11
 refine tailS_none rfl rfl (does_storeD (o := 0) (n := 6) (cs' := [w32 (seed).a, w32 (seed).b, w32 (seed).c, w32 (seed).d, i64 ((1 : Nat) : Int), i64 ((j + 1 : Nat) : Int)]) (V := Value.agg #[w32 (seed).a, w32 (seed).b, w32 (seed).c, w32 (seed).d, i64 ((1 : Nat) : Int), i64 ((j + 1 : Nat) : Int)]) s12_13 s39_13 hbb12_13 (Nat.le_of_ble_eq_true rfl) rfl siz_63 rfl rfl (fun wd14 hX hz hbb12_14 => ⟨hS_13.trans (hX.mono fun k _ e => (e ▸ (Nat.le_trans (Nat.le_refl _) lo_b12))), ?_⟩))
 have hS_14 := hS_13.trans (hX.mono (E' := (fun k => wd11.heap.size ≤ k)) fun k _ e => (e ▸ (Nat.le_trans (Nat.le_refl _) lo_b12)))
 have hE_14 := hE_13.since hX (fun k e => e ▸ fr_b12)
 have hbb3_14 := hbb3_13.ext hX ne_b3_b12
 have hbb4_14 := hbb4_13.ext hX ne_b4_b12
 have hbb8_14 := hbb8_13.ext hX ne_b8_b12
 have hbb10_14 := hbb10_13.ext hX ne_b10_b12
 have hbb13_14 := hbb13_13.ext hX ne_b12_b13.symm
 have hsx40_0_13_14 := SlT.over hsx40_0_13_13 hX (fun _ => nbo_x40_0_13_b12)
 have hsx40_1_13_14 := SlT.over hsx40_1_13_13 hX (fun _ => nbo_x40_1_13_b12)
 have hox40_0_13_14 := OwnT.ext hox40_0_13_13 hX (fun k hk e => nbo_x40_0_13_b12 (e ▸ hk))
 have hox40_1_13_14 := OwnT.ext hox40_1_13_13 hX (fun k hk e => nbo_x40_1_13_b12 (e ▸ hk))
 clear hX hz hE_13 hbb3_13 hbb4_13 hbb8_13 hbb10_13 hbb12_13 hbb13_13 hsx40_0_13_13 hsx40_1_13_13 hox40_0_13_13 hox40_1_13_13
 refine tailS_none rfl rfl (does_storeD (o := 0) (n := 3) (cs' := [i64 ((j : Nat) : Int), x40_0_13, x40_1_13]) (V := Value.agg #[i64 ((j : Nat) : Int), x40_0_13, x40_1_13]) s13_13 s40_13 hbb13_14 (Nat.le_of_ble_eq_true rfl) rfl siz_57 (one_cons rfl (one_cons (SlT.one hsx40_0_13_14) (one_cons (SlT.one hsx40_1_13_14) one_nil))) rfl (fun wd15 hX hz hbb13_15 => ⟨hS_14.trans (hX.mono fun k _ e => (e ▸ (Nat.le_trans (Nat.le_refl _) lo_b13))), ?_⟩))
 have hS_15 := hS_14.trans (hX.mono (E' := (fun k => wd11.heap.size ≤ k)) fun k _ e => (e ▸ (Nat.le_trans (Nat.le_refl _) lo_b13)))
 have hE_15 := hE_14.since hX (fun k e => e ▸ fr_b13)
 have hbb3_15 := hbb3_14.ext hX ne_b3_b13
 have hbb4_15 := hbb4_14.ext hX ne_b4_b13
 have hbb8_15 := hbb8_14.ext hX ne_b8_b13
 have hbb10_15 := hbb10_14.ext hX ne_b10_b13
 have hbb12_15 := hbb12_14.ext hX ne_b12_b13
 have hsx40_0_13_15 := SlT.over hsx40_0_13_14 hX (fun _ => nbo_x40_0_13_b13)
 have hsx40_1_13_15 := SlT.over hsx40_1_13_14 hX (fun _ => nbo_x40_1_13_b13)
 have hox40_0_13_15 := OwnT.ext hox40_0_13_14 hX (fun k hk e => nbo_x40_0_13_b13 (e ▸ hk))
 have hox40_1_13_15 := OwnT.ext hox40_1_13_14 hX (fun k hk e => nbo_x40_1_13_b13 (e ▸ hk))
 clear hX hz hE_14 hbb3_14 hbb4_14 hbb8_14 hbb10_14 hbb12_14 hbb13_14 hsx40_0_13_14 hsx40_1_13_14 hox40_0_13_14 hox40_1_13_14
 refine tailS_put rfl rfl hN_13 hD_13 (by decide) (does_assign (V := i64 ((0 : Nat) : Int)) s41_13 (⟨hS_15, fun a16 hN_16 hD_16 hv hO => ?_⟩))
 have s14_16 := hv
 have s3_16 := (hO 3 rfl).trans s3_13
 have s10_16 := (hO 10 rfl).trans s10_13
 have s11_16 := (hO 11 rfl).trans s11_13
 have s13_16 := (hO 13 rfl).trans s13_13
 clear hO hv hN_13 hD_13 s3_13 s10_13 s11_13 s12_13 s13_13 s39_13 s40_13 s41_13
 refine tailS_nil ?_
 refine wp_seq ?_
 refine region_lex [] [(42, Pr.ex (i64 ((0 : Nat) : Int))), (43, Pr.ex (Value.bool (true))), (44, Pr.ex (Value.bool (true))), (45, Pr.ifb (true) (Pr.ex (i64 ((0 : Nat) : Int)))), (46, Pr.ifb (true) (Pr.ex (Value.bool (true)))), (47, Pr.ex (Value.bool (true && true))), (48, Pr.ex (Value.bool (true && true))), (49, Pr.ifb (true && true) (Pr.ex (Value.agg #[i64 (z.size), w32 (z.root).a, w32 (z.root).b, w32 (z.root).c, w32 (z.root).d]))), (50, Pr.ifb (true && true) (Pr.ex (Dg.val (root (publics seed (pw 1)))))), (51, Pr.ifb (true && true) (Pr.ex (Value.agg #[i64 ((j : Nat) : Int), x40_0_13, x40_1_13]))), (52, Pr.ifb (true && true) (Pr.ex (Value.agg #[w32 (root (publics seed (pw 1))).a, w32 (root (publics seed (pw 1))).b, w32 (root (publics seed (pw 1))).c, w32 (root (publics seed (pw 1))).d, i64 ((j : Nat) : Int), x40_0_13, x40_1_13]))), (53, Pr.ifb (true && true) (Pr.ex (Value.bool (keyCheck (root (publics seed (pw 1))) (headOf z) (((j : Nat) : Int)) (signed (seedAt seed j) (headOf z)) (way (publics seed (pw 1)) j))))), (54, Pr.ex (Value.bool ((true && true) && (keyCheck (root (publics seed (pw 1))) (headOf z) (((j : Nat) : Int)) (signed (seedAt seed j) (headOf z)) (way (publics seed (pw 1)) j))))), (6, Pr.ex (Value.bool ((true && true) && (keyCheck (root (publics seed (pw 1))) (headOf z) (((j : Nat) : Int)) (signed (seedAt seed j) (headOf z)) (way (publics seed (pw 1)) j)))))] 14 hN_16 hD_16 (by kernel_rfl) (by kernel_rfl) ?_ ?_
 refine Asks.cons ?_ (Asks.cons ?_ (Asks.cons ?_ (Asks.cons ?_ (Asks.cons ?_ (Asks.cons ?_ (Asks.cons ?_ (Asks.cons ?_ (Asks.cons ?_ (Asks.cons ?_ (Asks.cons ?_ (Asks.cons ?_ (Asks.cons ?_ (Asks.cons ?_ (Asks.zero _))))))))))))))
 exact Ask.plain rfl rfl fun aq wq hNq hO hR hT => does_move (V := i64 ((0 : Nat) : Int)) ((hO 11 rfl).trans s11_16) ⟨Ext.refl _, rfl⟩
 exact Ask.plain rfl rfl fun aq wq hNq hO hR hT => does_eql (a := ((0 : Nat) : Int)) (b := ((0 : Nat) : Int)) (hT 42 rfl rfl) rfl ⟨Ext.refl _, rfl⟩
 exact Ask.plain rfl rfl fun aq wq hNq hO hR hT => does_move (V := Value.bool (true)) (hT 43 rfl rfl) ⟨Ext.refl _, rfl⟩
 refine Ask.guarded (B := true) (want := true) (t := 44) rfl rfl rfl rfl (by decide) (fun aq wq hO hR hT => hT 44 rfl rfl) (fun hG aq wq hNq hO hR hT => ?_) (fun hno _ => fun hc => absurd hc hno)
 exact does_move (V := i64 ((0 : Nat) : Int)) ((hO 14 rfl).trans s14_16) ⟨Ext.refl _, fun _ => rfl⟩
 refine Ask.guarded (B := true) (want := true) (t := 44) rfl rfl rfl rfl (by decide) (fun aq wq hO hR hT => hT 44 rfl rfl) (fun hG aq wq hNq hO hR hT => ?_) (fun hno _ => fun hc => absurd hc hno)
 exact does_eql (a := ((0 : Nat) : Int)) (b := ((0 : Nat) : Int)) (hT 45 rfl rfl hG) rfl ⟨Ext.refl _, fun _ => rfl⟩
 exact Ask.plain rfl rfl fun aq wq hNq hO hR hT => does_and (B := true) (X := true) (hT 44 rfl rfl) (fun hB => (hT 46 rfl rfl hB)) rfl ⟨Ext.refl _, rfl⟩
 exact Ask.plain rfl rfl fun aq wq hNq hO hR hT => does_move (V := Value.bool (true && true)) (hT 47 rfl rfl) ⟨Ext.refl _, rfl⟩
 refine Ask.guarded (B := true && true) (want := true) (t := 48) rfl rfl rfl rfl (by decide) (fun aq wq hO hR hT => hT 48 rfl rfl) (fun hG aq wq hNq hO hR hT => ?_) (fun hno _ => fun hc => absurd hc hno)
 exact does_loadD (o := 0) (n := 5) (mid := [i64 (z.size), w32 (z.root).a, w32 (z.root).b, w32 (z.root).c, w32 (z.root).d]) ((hO 3 rfl).trans s3_16) (hbb3_15.ext' hR) rfl rfl (Nat.le_of_ble_eq_true rfl) row_29 rfl ⟨Ext.refl _, fun _ => rfl⟩
 refine Ask.guarded (B := true && true) (want := true) (t := 48) rfl rfl rfl rfl (by decide) (fun aq wq hO hR hT => hT 48 rfl rfl) (fun hG aq wq hNq hO hR hT => ?_) (fun hno _ => fun hc => absurd hc hno)
 exact does_loadD (o := 0) (n := 4) (mid := [w32 (root (publics seed (pw 1))).a, w32 (root (publics seed (pw 1))).b, w32 (root (publics seed (pw 1))).c, w32 (root (publics seed (pw 1))).d]) ((hO 10 rfl).trans s10_16) (hbb10_15.ext' hR) rfl rfl (Nat.le_of_ble_eq_true rfl) row_27 rfl ⟨Ext.refl _, fun _ => rfl⟩
 refine Ask.guarded (B := true && true) (want := true) (t := 48) rfl rfl rfl rfl (by decide) (fun aq wq hO hR hT => hT 48 rfl rfl) (fun hG aq wq hNq hO hR hT => ?_) (fun hno _ => fun hc => absurd hc hno)
 exact does_loadD (o := 0) (n := 3) (mid := [i64 ((j : Nat) : Int), x40_0_13, x40_1_13]) ((hO 13 rfl).trans s13_16) (hbb13_15.ext' hR) rfl rfl (Nat.le_of_ble_eq_true rfl) row_57 rfl ⟨Ext.refl _, fun _ => rfl⟩
 refine Ask.guarded (B := true && true) (want := true) (t := 48) rfl rfl rfl rfl (by decide) (fun aq wq hO hR hT => hT 48 rfl rfl) (fun hG aq wq hNq hO hR hT => ?_) (fun hno _ => fun hc => absurd hc hno)
 exact does_build (vs := #[(0, Dg.val (root (publics seed (pw 1)))), (1, Value.agg #[i64 ((j : Nat) : Int), x40_0_13, x40_1_13])]) (V := Value.agg #[w32 (root (publics seed (pw 1))).a, w32 (root (publics seed (pw 1))).b, w32 (root (publics seed (pw 1))).c, w32 (root (publics seed (pw 1))).d, i64 ((j : Nat) : Int), x40_0_13, x40_1_13]) (parts2 (hT 50 rfl rfl hG) (hT 51 rfl rfl hG)) (by kernel_rfl) ⟨Ext.refl _, fun _ => rfl⟩
 refine Ask.guarded (B := true && true) (want := true) (t := 48) rfl rfl rfl rfl (by decide) (fun aq wq hO hR hT => hT 48 rfl rfl) (fun hG aq wq hNq hO hR hT => ?_) (fun hno _ => fun hc => absurd hc hno)
 exact does_ret (vs := #[Value.agg #[i64 (z.size), w32 (z.root).a, w32 (z.root).b, w32 (z.root).c, w32 (z.root).d], Value.agg #[w32 (root (publics seed (pw 1))).a, w32 (root (publics seed (pw 1))).b, w32 (root (publics seed (pw 1))).c, w32 (root (publics seed (pw 1))).d, i64 ((j : Nat) : Int), x40_0_13, x40_1_13]]) call_29 (args2 (hT 49 rfl rfl hG) (hT 52 rfl rfl hG)) rfl ((headCheck_ z (root (publics seed (pw 1))) (((j : Nat) : Int)) (signed (seedAt seed j) (headOf z)) (way (publics seed (pw 1)) j) (x40_0_13) (x40_1_13) wq (hL.ext (hE_15.trans hR)) ((hsx40_0_13_15.ext' hR).wide (Nat.zero_le _) (.inl rfl)) ((hsx40_1_13_15.ext' hR).wide (Nat.zero_le _) (.inl rfl)) (by rw [signed_length]; decide) (by rw [way_pw 1 _ _ (publics_length _ _) (by rw [publics_length]; exact hj)]; decide)).mono fun v w2 h => ⟨h.2, fun _ => h.1⟩)
 exact Ask.plain rfl rfl fun aq wq hNq hO hR hT => does_and (B := true && true) (X := keyCheck (root (publics seed (pw 1))) (headOf z) (((j : Nat) : Int)) (signed (seedAt seed j) (headOf z)) (way (publics seed (pw 1)) j)) (hT 48 rfl rfl) (fun hB => (hT 53 rfl rfl hB)) rfl ⟨Ext.refl _, rfl⟩
 exact Ask.plain rfl rfl fun aq wq hNq hO hR hT => does_assign (V := Value.bool ((true && true) && (keyCheck (root (publics seed (pw 1))) (headOf z) (((j : Nat) : Int)) (signed (seedAt seed j) (headOf z)) (way (publics seed (pw 1)) j)))) (hT 54 rfl rfl) ⟨Ext.refl _, rfl⟩
 intro a17 wd17 hN_17 hD_17 hO hR hA hU
 obtain ⟨_, _, _, _, _, _, _, _, _, _, _, _, _, t6, _⟩ := hA
 have hE_17 := hE_15.trans hR
 have hbb3_17 := hbb3_15.ext' hR
 have hbb4_17 := hbb4_15.ext' hR
 have hbb8_17 := hbb8_15.ext' hR
 have hbb10_17 := hbb10_15.ext' hR
 have hbb12_17 := hbb12_15.ext' hR
 have hbb13_17 := hbb13_15.ext' hR
 have hsx40_0_13_17 := hsx40_0_13_15.ext' hR
 have hsx40_1_13_17 := hsx40_1_13_15.ext' hR
 have hox40_0_13_17 := hox40_0_13_15.ext' hR
 have hox40_1_13_17 := hox40_1_13_15.ext' hR
 have s6_17 : get a17 6 = Value.bool ((true && true) && (keyCheck (root (publics seed (pw 1))) (headOf z) (((j : Nat) : Int)) (signed (seedAt seed j) (headOf z)) (way (publics seed (pw 1)) j))) := t6
 clear hE_15 hN_16 hD_16 s3_16 s10_16 s11_16 s13_16 s14_16 hbb3_15 hbb4_15 hbb8_15 hbb10_15 hbb12_15 hbb13_15 hsx40_0_13_15 hsx40_1_13_15 hox40_0_13_15 hox40_1_13_15
 refine tail_nil ?_
 refine wp_ret ?_
 refine res_one (V := Value.bool ((true && true) && (keyCheck (root (publics seed (pw 1))) (headOf z) (((j : Nat) : Int)) (signed (seedAt seed j) (headOf z)) (way (publics seed (pw 1)) j)))) rfl hD_17 s6_17 ?_
 exact ⟨congrArg Value.bool (by rw [keyCheck_sign (by decide) hj]; rfl), hE_17⟩

end Go.Proofs.YtijfjpbahepegaaDoor
