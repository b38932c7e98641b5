/- The walks of functions of the program: printed. -/
import Derived.Test.YtaeohnkfmachfabDoorK
import Derived.Test.YtaeohnkfmachfabDoorG90
import Derived.Test.YtaeohnkfmachfabDoorG91
import Derived.Test.YtaeohnkfmachfabDoorG94
import Derived.Test.YtaeohnkfmachfabDoorG96
import Derived.Test.YtaeohnkfmachfabDoorG105
import Derived.Test.YtaeohnkfmachfabDoorG106
import Derived.Test.YtaeohnkfmachfabDoorF0
set_option maxRecDepth 100000
namespace Go.Proofs.YtaeohnkfmachfabDoor
open Go Go.RowKit Sk Sd
theorem call_17 : Callable Tryd.prog 17 := ⟨_, Tryd.func17, by kernel_rfl, rfl⟩
theorem call_10 : Callable Tryd.prog 10 := ⟨_, Tryd.func10, by kernel_rfl, rfl⟩
theorem call_11 : Callable Tryd.prog 11 := ⟨_, Tryd.func11, by kernel_rfl, rfl⟩
theorem call_18 : Callable Tryd.prog 18 := ⟨_, Tryd.func18, by kernel_rfl, rfl⟩
theorem systemKey (seed a b : Dg) (w0 : World) (hL : Laid w0) :
    Gives Tryd.prog 6 #[Dg.val (seed), Dg.val (a), Dg.val (b)] w0 (Pr.ex (Value.bool true)) := by
 refine enter (N := 124) Tryd.func6 rfl rfl ?_
 intro a0 hN_0 hD_0 hA
 have s0_0 : get a0 0 = Dg.val (seed) := hA 0 _ rfl
 have s1_0 : get a0 1 = Dg.val (a) := hA 1 _ rfl
 have s2_0 : get a0 2 = Dg.val (b) := hA 2 _ rfl
 clear hA
 have hE_0 : Ext w0 w0 := Ext.refl w0
 refine wp_seq ?_
 refine region_lex [3, 4, 5] [(3, Pr.box' w0.heap.size 24 [w32 (seed).a, w32 (seed).b, w32 (seed).c, w32 (seed).d]), (4, Pr.box' w0.heap.size 24 [w32 (a).a, w32 (a).b, w32 (a).c, w32 (a).d]), (5, Pr.box' w0.heap.size 24 [w32 (b).a, w32 (b).b, w32 (b).c, w32 (b).d]), (6, Pr.ex (Value.bool (false)))] 4 hN_0 hD_0 (by kernel_rfl) (by kernel_rfl) ?_ ?_
 refine Asks.cons ?_ (Asks.cons ?_ (Asks.cons ?_ (Asks.cons ?_ (Asks.zero _))))
 refine Ask.fresh rfl rfl ?_
 intro aq wq hNq hO hR hT
 exact does_box (V := Dg.val (seed)) ((hO 0 rfl).trans s0_0) (fun b w2 he hlo hb => ⟨he, ⟨b, rfl, Nat.le_trans hR.size' hlo, hb⟩, ⟨b, rfl, hlo, hb.lt⟩⟩)
 refine Ask.fresh rfl rfl ?_
 intro aq wq hNq hO hR hT
 exact does_box (V := Dg.val (a)) ((hO 1 rfl).trans s1_0) (fun b w2 he hlo hb => ⟨he, ⟨b, rfl, Nat.le_trans hR.size' hlo, hb⟩, ⟨b, rfl, hlo, hb.lt⟩⟩)
 refine Ask.fresh rfl rfl ?_
 intro aq wq hNq hO hR hT
 exact does_box (V := Dg.val (b)) ((hO 2 rfl).trans s2_0) (fun b w2 he hlo hb => ⟨he, ⟨b, rfl, Nat.le_trans hR.size' hlo, hb⟩, ⟨b, rfl, hlo, hb.lt⟩⟩)
 exact Ask.plain rfl rfl fun aq wq hNq hO hR hT => does_assign (V := Value.bool (false)) rfl ⟨Ext.refl _, rfl⟩
 intro a1 wd1 hN_1 hD_1 hO hR hA hU
 obtain ⟨t3, t4, t5, _, _⟩ := hA
 have hE_1 := hE_0.trans hR
 obtain ⟨b3, s3_1, lo_b3, hbb3_1⟩ := t3
 have fr_b3 : w0.heap.size ≤ b3 := Nat.le_trans hE_0.size' lo_b3
 obtain ⟨b4, s4_1, lo_b4, hbb4_1⟩ := t4
 have fr_b4 : w0.heap.size ≤ b4 := Nat.le_trans hE_0.size' lo_b4
 obtain ⟨b5, s5_1, lo_b5, hbb5_1⟩ := t5
 have fr_b5 : w0.heap.size ≤ b5 := Nat.le_trans hE_0.size' lo_b5
 obtain ⟨u0, ⟨u1, ⟨u2, _⟩⟩⟩ := hU
 have ne_b3_b4 : b3 ≠ b4 := fun e => u0 4 (by decide) (by rw [s3_1, s4_1, e])
 have ne_b3_b5 : b3 ≠ b5 := fun e => u0 5 (by decide) (by rw [s3_1, s5_1, e])
 have ne_b4_b5 : b4 ≠ b5 := fun e => u1 5 (by decide) (by rw [s4_1, s5_1, e])
 clear hE_0 hN_0 hD_0 s0_0 s1_0 s2_0
 refine tail_nil ?_
 refine wp_seq ?_
 refine region_any [] [(25, Pr.ex (Dg.val (seed))), (26, Pr.ex (Dg.val (a))), (27, Pr.own' DG wd1.heap.size 24 (signed seed a)), (28, Pr.ex (Dg.val (seed))), (29, Pr.ex (Dg.val (b))), (30, Pr.own' DG wd1.heap.size 24 (signed seed b)), (7, Pr.own' DG wd1.heap.size 24 (signed seed a)), (8, Pr.own' DG wd1.heap.size 24 (signed seed b))] 8 mixed hN_1 hD_1 (by kernel_rfl) (by kernel_rfl) (by kernel_rfl) ?_ ?_
 refine Asks.cons ?_ (Asks.cons ?_ (Asks.cons ?_ (Asks.cons ?_ (Asks.cons ?_ (Asks.cons ?_ (Asks.cons ?_ (Asks.cons ?_ (Asks.zero _))))))))
 exact Ask.plainD rfl rfl fun aq wq hNq hO hR hT => does_loadD (o := 0) (n := 4) (mid := [w32 (seed).a, w32 (seed).b, w32 (seed).c, w32 (seed).d]) ((hO 3 rfl).trans s3_1) (hbb3_1.ext' hR) rfl rfl (Nat.le_of_ble_eq_true rfl) row_24 rfl ⟨Ext.refl _, rfl⟩
 exact Ask.plainD rfl rfl fun aq wq hNq hO hR hT => does_loadD (o := 0) (n := 4) (mid := [w32 (a).a, w32 (a).b, w32 (a).c, w32 (a).d]) ((hO 4 rfl).trans s4_1) (hbb4_1.ext' hR) rfl rfl (Nat.le_of_ble_eq_true rfl) row_24 rfl ⟨Ext.refl _, rfl⟩
 exact Ask.plainD rfl rfl fun aq wq hNq hO hR hT => does_ret (vs := #[Dg.val (seed), Dg.val (a)]) call_15 (args2 (hT 25 rfl rfl) (hT 26 rfl rfl)) rfl ((sign1 seed a wq (hL.ext (hE_1.trans hR))).mono fun v w2 h => ⟨h.2, OwnT.base h.1 hR.size'⟩)
 exact Ask.plainD rfl rfl fun aq wq hNq hO hR hT => does_loadD (o := 0) (n := 4) (mid := [w32 (seed).a, w32 (seed).b, w32 (seed).c, w32 (seed).d]) ((hO 3 rfl).trans s3_1) (hbb3_1.ext' hR) rfl rfl (Nat.le_of_ble_eq_true rfl) row_24 rfl ⟨Ext.refl _, rfl⟩
 exact Ask.plainD rfl rfl fun aq wq hNq hO hR hT => does_loadD (o := 0) (n := 4) (mid := [w32 (b).a, w32 (b).b, w32 (b).c, w32 (b).d]) ((hO 5 rfl).trans s5_1) (hbb5_1.ext' hR) rfl rfl (Nat.le_of_ble_eq_true rfl) row_24 rfl ⟨Ext.refl _, rfl⟩
 exact Ask.plainD rfl rfl fun aq wq hNq hO hR hT => does_ret (vs := #[Dg.val (seed), Dg.val (b)]) call_15 (args2 (hT 28 rfl rfl) (hT 29 rfl rfl)) rfl ((sign1 seed b wq (hL.ext (hE_1.trans hR))).mono fun v w2 h => ⟨h.2, OwnT.base h.1 hR.size'⟩)
 exact Ask.plainD rfl rfl fun aq wq hNq hO hR hT => does_assign rfl ⟨Ext.refl _, (hT 27 rfl rfl)⟩
 exact Ask.plainD rfl rfl fun aq wq hNq hO hR hT => does_assign rfl ⟨Ext.refl _, (hT 30 rfl rfl)⟩
 intro a2 wd2 hN_2 hD_2 hO hR hA hU
 obtain ⟨_, _, _, _, _, _, t7, t8, _⟩ := hA
 have hE_2 := hE_1.trans hR
 have s3_2 := (hO 3 rfl).trans s3_1
 have s4_2 := (hO 4 rfl).trans s4_1
 have s5_2 := (hO 5 rfl).trans s5_1
 have hbb3_2 := hbb3_1.ext' hR
 have hbb4_2 := hbb4_1.ext' hR
 have hbb5_2 := hbb5_1.ext' hR
 obtain ⟨x7, s7_2⟩ : ∃ x, get a2 7 = x := ⟨_, rfl⟩
 replace t7 : OwnT DG wd1.heap.size 24 (signed seed a) x7 wd2 := by rw [← s7_2]; exact t7
 have nbo_x7_b3 : x7.ownBlock ≠ some b3 := fun e => Nat.lt_irrefl _ (Nat.lt_of_lt_of_le hbb3_1.lt (OwnT.block_lt t7 e).1)
 have nbo_x7_b4 : x7.ownBlock ≠ some b4 := fun e => Nat.lt_irrefl _ (Nat.lt_of_lt_of_le hbb4_1.lt (OwnT.block_lt t7 e).1)
 have nbo_x7_b5 : x7.ownBlock ≠ some b5 := fun e => Nat.lt_irrefl _ (Nat.lt_of_lt_of_le hbb5_1.lt (OwnT.block_lt t7 e).1)
 have hsx7_2 := t7.sl.wide (Nat.zero_le _) (.inl rfl)
 have hox7_2 := OwnT.base t7 hE_1.size'
 obtain ⟨x8, s8_2⟩ : ∃ x, get a2 8 = x := ⟨_, rfl⟩
 replace t8 : OwnT DG wd1.heap.size 24 (signed seed b) x8 wd2 := by rw [← s8_2]; exact t8
 have nbo_x8_b3 : x8.ownBlock ≠ some b3 := fun e => Nat.lt_irrefl _ (Nat.lt_of_lt_of_le hbb3_1.lt (OwnT.block_lt t8 e).1)
 have nbo_x8_b4 : x8.ownBlock ≠ some b4 := fun e => Nat.lt_irrefl _ (Nat.lt_of_lt_of_le hbb4_1.lt (OwnT.block_lt t8 e).1)
 have nbo_x8_b5 : x8.ownBlock ≠ some b5 := fun e => Nat.lt_irrefl _ (Nat.lt_of_lt_of_le hbb5_1.lt (OwnT.block_lt t8 e).1)
 have hsx8_2 := t8.sl.wide (Nat.zero_le _) (.inl rfl)
 have hox8_2 := OwnT.base t8 hE_1.size'
 clear hE_1 hN_1 hD_1 s3_1 s4_1 s5_1 hbb3_1 hbb4_1 hbb5_1
 refine tail_nil ?_
 refine wp_seq ?_
 refine region_lex [9] [(31, Pr.ex (Dg.val (seed))), (32, Pr.ex (Dg.val (Sd.lone seed))), (9, Pr.box' wd2.heap.size 24 [w32 (Dg.zero).a, w32 (Dg.zero).b, w32 (Dg.zero).c, w32 (Dg.zero).d])] 3 hN_2 hD_2 (by kernel_rfl) (by kernel_rfl) ?_ ?_
 refine Asks.cons ?_ (Asks.cons ?_ (Asks.cons ?_ (Asks.zero _)))
 exact Ask.plain rfl rfl fun aq wq hNq hO hR hT => does_loadD (o := 0) (n := 4) (mid := [w32 (seed).a, w32 (seed).b, w32 (seed).c, w32 (seed).d]) ((hO 3 rfl).trans s3_2) (hbb3_2.ext' hR) rfl rfl (Nat.le_of_ble_eq_true rfl) row_24 rfl ⟨Ext.refl _, rfl⟩
 exact Ask.plain rfl rfl fun aq wq hNq hO hR hT => does_ret (vs := #[Dg.val (seed)]) call_16 (args1 (hT 31 rfl rfl)) rfl ((public_ seed wq (hL.ext (hE_2.trans hR))).mono fun v w2 h => ⟨h.2, h.1⟩)
 refine Ask.fresh rfl rfl ?_
 intro aq wq hNq hO hR hT
 exact does_alloc zero_24 (fun b w2 he hlo hb => ⟨he, ⟨b, rfl, Nat.le_trans hR.size' hlo, hb⟩, ⟨b, rfl, hlo, hb.lt⟩⟩)
 intro a3 wd3 hN_3 hD_3 hO hR hA hU
 obtain ⟨_, t32, t9, _⟩ := hA
 have hE_3 := hE_2.trans hR
 have s3_3 := (hO 3 rfl).trans s3_2
 have s4_3 := (hO 4 rfl).trans s4_2
 have s5_3 := (hO 5 rfl).trans s5_2
 have s7_3 := (hO 7 rfl).trans s7_2
 have s8_3 := (hO 8 rfl).trans s8_2
 have hbb3_3 := hbb3_2.ext' hR
 have hbb4_3 := hbb4_2.ext' hR
 have hbb5_3 := hbb5_2.ext' hR
 have hsx7_3 := hsx7_2.ext' hR
 have hsx8_3 := hsx8_2.ext' hR
 have hox7_3 := hox7_2.ext' hR
 have hox8_3 := hox8_2.ext' hR
 have s32_3 : get a3 32 = Dg.val (Sd.lone seed) := t32
 obtain ⟨b9, s9_3, lo_b9, hbb9_3⟩ := t9
 have ne_b3_b9 : b3 ≠ b9 := fun e => Nat.lt_irrefl _ (Nat.lt_of_lt_of_le hbb3_2.lt (e ▸ lo_b9))
 have ne_b4_b9 : b4 ≠ b9 := fun e => Nat.lt_irrefl _ (Nat.lt_of_lt_of_le hbb4_2.lt (e ▸ lo_b9))
 have ne_b5_b9 : b5 ≠ b9 := fun e => Nat.lt_irrefl _ (Nat.lt_of_lt_of_le hbb5_2.lt (e ▸ lo_b9))
 have nb_x7_b9 := SlT.old hsx7_2 lo_b9
 have nb_x8_b9 := SlT.old hsx8_2 lo_b9
 have nbo_x7_b9 : x7.ownBlock ≠ some b9 := fun e => Nat.lt_irrefl _ (Nat.lt_of_lt_of_le (OwnT.block_lt hox7_2 e).2 lo_b9)
 have nbo_x8_b9 : x8.ownBlock ≠ some b9 := fun e => Nat.lt_irrefl _ (Nat.lt_of_lt_of_le (OwnT.block_lt hox8_2 e).2 lo_b9)
 have fr_b9 : w0.heap.size ≤ b9 := Nat.le_trans hE_2.size' lo_b9
 clear hE_2 hN_2 hD_2 s3_2 s4_2 s5_2 s7_2 s8_2 hbb3_2 hbb4_2 hbb5_2 hsx7_2 hsx8_2 hox7_2 hox8_2
 refine tail_none rfl rfl (does_storeD (o := 0) (n := 4) (cs' := [w32 (Sd.lone seed).a, w32 (Sd.lone seed).b, w32 (Sd.lone seed).c, w32 (Sd.lone seed).d]) (V := Dg.val (Sd.lone seed)) s9_3 s32_3 hbb9_3 (Nat.le_of_ble_eq_true rfl) rfl siz_24 rfl rfl (fun wd4 hX hz hbb9_4 => ?_))
 have hE_4 := hE_3.since hX (fun k e => e ▸ fr_b9)
 have hbb3_4 := hbb3_3.ext hX ne_b3_b9
 have hbb4_4 := hbb4_3.ext hX ne_b4_b9
 have hbb5_4 := hbb5_3.ext hX ne_b5_b9
 have hsx7_4 := SlT.over hsx7_3 hX nb_x7_b9
 have hsx8_4 := SlT.over hsx8_3 hX nb_x8_b9
 have hox7_4 := OwnT.ext hox7_3 hX (fun k hk e => nbo_x7_b9 (e ▸ hk))
 have hox8_4 := OwnT.ext hox8_3 hX (fun k hk e => nbo_x8_b9 (e ▸ hk))
 clear hX hz hE_3 hbb3_3 hbb4_3 hbb5_3 hbb9_3 hsx7_3 hsx8_3 hox7_3 hox8_3
 refine tail_nil ?_
 refine wp_seq ?_
 refine region_lex [11] [(34, Pr.ex (Dg.val (a))), (35, Pr.ex (x7)), (36, Pr.ex (Dg.val (b))), (37, Pr.ex (x8)), (38, Pr.ex (Value.tuple #[i64 (((aheadO a (signed seed a) b (signed seed b)).1 : Nat) : Int), Dg.val ((aheadO a (signed seed a) b (signed seed b)).2.1), Value.bool ((aheadO a (signed seed a) b (signed seed b)).2.2)])), (33, Pr.ex (Value.tuple #[i64 (((aheadO a (signed seed a) b (signed seed b)).1 : Nat) : Int), Dg.val ((aheadO a (signed seed a) b (signed seed b)).2.1), Value.bool ((aheadO a (signed seed a) b (signed seed b)).2.2)])), (39, Pr.ex (i64 (((aheadO a (signed seed a) b (signed seed b)).1 : Nat) : Int))), (40, Pr.ex (Dg.val ((aheadO a (signed seed a) b (signed seed b)).2.1))), (41, Pr.ex (Value.bool ((aheadO a (signed seed a) b (signed seed b)).2.2))), (11, Pr.box' wd4.heap.size 24 [w32 (Dg.zero).a, w32 (Dg.zero).b, w32 (Dg.zero).c, w32 (Dg.zero).d]), (10, Pr.ex (i64 (((aheadO a (signed seed a) b (signed seed b)).1 : Nat) : Int)))] 11 hN_3 hD_3 (by kernel_rfl) (by kernel_rfl) ?_ ?_
 refine Asks.cons ?_ (Asks.cons ?_ (Asks.cons ?_ (Asks.cons ?_ (Asks.cons ?_ (Asks.cons ?_ (Asks.cons ?_ (Asks.cons ?_ (Asks.cons ?_ (Asks.cons ?_ (Asks.cons ?_ (Asks.zero _)))))))))))
 exact Ask.plain rfl rfl fun aq wq hNq hO hR hT => does_loadD (o := 0) (n := 4) (mid := [w32 (a).a, w32 (a).b, w32 (a).c, w32 (a).d]) ((hO 4 rfl).trans s4_3) (hbb4_4.ext' hR) rfl rfl (Nat.le_of_ble_eq_true rfl) row_24 rfl ⟨Ext.refl _, rfl⟩
 exact Ask.plain rfl rfl fun aq wq hNq hO hR hT => does_move (V := x7) ((hO 7 rfl).trans s7_3) ⟨Ext.refl _, rfl⟩
 exact Ask.plain rfl rfl fun aq wq hNq hO hR hT => does_loadD (o := 0) (n := 4) (mid := [w32 (b).a, w32 (b).b, w32 (b).c, w32 (b).d]) ((hO 5 rfl).trans s5_3) (hbb5_4.ext' hR) rfl rfl (Nat.le_of_ble_eq_true rfl) row_24 rfl ⟨Ext.refl _, rfl⟩
 exact Ask.plain rfl rfl fun aq wq hNq hO hR hT => does_move (V := x8) ((hO 8 rfl).trans s8_3) ⟨Ext.refl _, rfl⟩
 exact Ask.plain rfl rfl fun aq wq hNq hO hR hT => does_ret (vs := #[Dg.val (a), x7, Dg.val (b), x8]) call_17 (args4 (hT 34 rfl rfl) (hT 35 rfl rfl) (hT 36 rfl rfl) (hT 37 rfl rfl)) rfl ((ahead_ a (signed seed a) b (signed seed b) (x7) (x8) wq (hL.ext (hE_4.trans hR)) ((hsx7_4.ext' hR).wide (Nat.zero_le _) (.inl rfl)) ((hsx8_4.ext' hR).wide (Nat.zero_le _) (.inl rfl)) (signed_length _ _) (signed_length _ _)).mono fun v w2 h => ⟨h.2, h.1⟩)
 exact Ask.plain rfl rfl fun aq wq hNq hO hR hT => does_move (V := Value.tuple #[i64 (((aheadO a (signed seed a) b (signed seed b)).1 : Nat) : Int), Dg.val ((aheadO a (signed seed a) b (signed seed b)).2.1), Value.bool ((aheadO a (signed seed a) b (signed seed b)).2.2)]) (hT 38 rfl rfl) ⟨Ext.refl _, rfl⟩
 exact Ask.plain rfl rfl fun aq wq hNq hO hR hT => does_extract (V := i64 (((aheadO a (signed seed a) b (signed seed b)).1 : Nat) : Int)) (hT 33 rfl rfl) rfl ⟨Ext.refl _, rfl⟩
 exact Ask.plain rfl rfl fun aq wq hNq hO hR hT => does_extract (V := Dg.val ((aheadO a (signed seed a) b (signed seed b)).2.1)) (hT 33 rfl rfl) rfl ⟨Ext.refl _, rfl⟩
 exact Ask.plain rfl rfl fun aq wq hNq hO hR hT => does_extract (V := Value.bool ((aheadO a (signed seed a) b (signed seed b)).2.2)) (hT 33 rfl rfl) rfl ⟨Ext.refl _, rfl⟩
 refine Ask.fresh rfl rfl ?_
 intro aq wq hNq hO hR hT
 exact does_alloc zero_24 (fun b w2 he hlo hb => ⟨he, ⟨b, rfl, Nat.le_trans hR.size' hlo, hb⟩, ⟨b, rfl, hlo, hb.lt⟩⟩)
 exact Ask.plain rfl rfl fun aq wq hNq hO hR hT => does_assign (V := i64 (((aheadO a (signed seed a) b (signed seed b)).1 : Nat) : Int)) (hT 39 rfl rfl) ⟨Ext.refl _, rfl⟩
 intro a5 wd5 hN_5 hD_5 hO hR hA hU
 obtain ⟨_, _, _, _, _, _, _, t40, t41, t11, _, _⟩ := hA
 have hE_5 := hE_4.trans hR
 have s3_5 := (hO 3 rfl).trans s3_3
 have s4_5 := (hO 4 rfl).trans s4_3
 have s5_5 := (hO 5 rfl).trans s5_3
 have s7_5 := (hO 7 rfl).trans s7_3
 have s8_5 := (hO 8 rfl).trans s8_3
 have s9_5 := (hO 9 rfl).trans s9_3
 have hbb3_5 := hbb3_4.ext' hR
 have hbb4_5 := hbb4_4.ext' hR
 have hbb5_5 := hbb5_4.ext' hR
 have hbb9_5 := hbb9_4.ext' hR
 have hsx7_5 := hsx7_4.ext' hR
 have hsx8_5 := hsx8_4.ext' hR
 have hox7_5 := hox7_4.ext' hR
 have hox8_5 := hox8_4.ext' hR
 have s40_5 : get a5 40 = Dg.val ((aheadO a (signed seed a) b (signed seed b)).2.1) := t40
 have s41_5 : get a5 41 = Value.bool ((aheadO a (signed seed a) b (signed seed b)).2.2) := t41
 obtain ⟨b11, s11_5, lo_b11, hbb11_5⟩ := t11
 have ne_b3_b11 : b3 ≠ b11 := fun e => Nat.lt_irrefl _ (Nat.lt_of_lt_of_le hbb3_4.lt (e ▸ lo_b11))
 have ne_b4_b11 : b4 ≠ b11 := fun e => Nat.lt_irrefl _ (Nat.lt_of_lt_of_le hbb4_4.lt (e ▸ lo_b11))
 have ne_b5_b11 : b5 ≠ b11 := fun e => Nat.lt_irrefl _ (Nat.lt_of_lt_of_le hbb5_4.lt (e ▸ lo_b11))
 have ne_b9_b11 : b9 ≠ b11 := fun e => Nat.lt_irrefl _ (Nat.lt_of_lt_of_le hbb9_4.lt (e ▸ lo_b11))
 have nb_x7_b11 := SlT.old hsx7_4 lo_b11
 have nb_x8_b11 := SlT.old hsx8_4 lo_b11
 have nbo_x7_b11 : x7.ownBlock ≠ some b11 := fun e => Nat.lt_irrefl _ (Nat.lt_of_lt_of_le (OwnT.block_lt hox7_4 e).2 lo_b11)
 have nbo_x8_b11 : x8.ownBlock ≠ some b11 := fun e => Nat.lt_irrefl _ (Nat.lt_of_lt_of_le (OwnT.block_lt hox8_4 e).2 lo_b11)
 have fr_b11 : w0.heap.size ≤ b11 := Nat.le_trans hE_4.size' lo_b11
 clear hE_4 hN_3 hD_3 s3_3 s4_3 s5_3 s7_3 s8_3 s9_3 s32_3 hbb3_4 hbb4_4 hbb5_4 hbb9_4 hsx7_4 hsx8_4 hox7_4 hox8_4
 refine tail_none rfl rfl (does_storeD (o := 0) (n := 4) (cs' := [w32 ((aheadO a (signed seed a) b (signed seed b)).2.1).a, w32 ((aheadO a (signed seed a) b (signed seed b)).2.1).b, w32 ((aheadO a (signed seed a) b (signed seed b)).2.1).c, w32 ((aheadO a (signed seed a) b (signed seed b)).2.1).d]) (V := Dg.val ((aheadO a (signed seed a) b (signed seed b)).2.1)) s11_5 s40_5 hbb11_5 (Nat.le_of_ble_eq_true rfl) rfl siz_24 rfl rfl (fun wd6 hX hz hbb11_6 => ?_))
 have hE_6 := hE_5.since hX (fun k e => e ▸ fr_b11)
 have hbb3_6 := hbb3_5.ext hX ne_b3_b11
 have hbb4_6 := hbb4_5.ext hX ne_b4_b11
 have hbb5_6 := hbb5_5.ext hX ne_b5_b11
 have hbb9_6 := hbb9_5.ext hX ne_b9_b11
 have hsx7_6 := SlT.over hsx7_5 hX nb_x7_b11
 have hsx8_6 := SlT.over hsx8_5 hX nb_x8_b11
 have hox7_6 := OwnT.ext hox7_5 hX (fun k hk e => nbo_x7_b11 (e ▸ hk))
 have hox8_6 := OwnT.ext hox8_5 hX (fun k hk e => nbo_x8_b11 (e ▸ hk))
 clear hX hz hE_5 hbb3_5 hbb4_5 hbb5_5 hbb9_5 hbb11_5 hsx7_5 hsx8_5 hox7_5 hox8_5
 refine tail_put rfl rfl hN_5 hD_5 (by decide) (does_assign (V := Value.bool ((aheadO a (signed seed a) b (signed seed b)).2.2)) s41_5 (fun a7 hN_7 hD_7 hv hO => ?_))
 have s12_7 := hv
 have s3_7 := (hO 3 rfl).trans s3_5
 have s4_7 := (hO 4 rfl).trans s4_5
 have s5_7 := (hO 5 rfl).trans s5_5
 have s7_7 := (hO 7 rfl).trans s7_5
 have s8_7 := (hO 8 rfl).trans s8_5
 have s9_7 := (hO 9 rfl).trans s9_5
 clear hO hv hN_5 hD_5 s3_5 s4_5 s5_5 s7_5 s8_5 s9_5 s11_5 s40_5 s41_5
 refine tail_nil ?_
 refine wp_seq ?_
 refine region_lex [14] [(43, Pr.ex (Dg.val (b))), (44, Pr.ex (x8)), (45, Pr.ex (Dg.val (a))), (46, Pr.ex (x7)), (47, Pr.ex (Value.tuple #[i64 (((aheadO b (signed seed b) a (signed seed a)).1 : Nat) : Int), Dg.val ((aheadO b (signed seed b) a (signed seed a)).2.1), Value.bool ((aheadO b (signed seed b) a (signed seed a)).2.2)])), (42, Pr.ex (Value.tuple #[i64 (((aheadO b (signed seed b) a (signed seed a)).1 : Nat) : Int), Dg.val ((aheadO b (signed seed b) a (signed seed a)).2.1), Value.bool ((aheadO b (signed seed b) a (signed seed a)).2.2)])), (48, Pr.ex (i64 (((aheadO b (signed seed b) a (signed seed a)).1 : Nat) : Int))), (49, Pr.ex (Dg.val ((aheadO b (signed seed b) a (signed seed a)).2.1))), (50, Pr.ex (Value.bool ((aheadO b (signed seed b) a (signed seed a)).2.2))), (14, Pr.box' wd6.heap.size 24 [w32 (Dg.zero).a, w32 (Dg.zero).b, w32 (Dg.zero).c, w32 (Dg.zero).d]), (13, Pr.ex (i64 (((aheadO b (signed seed b) a (signed seed a)).1 : Nat) : Int)))] 11 hN_7 hD_7 (by kernel_rfl) (by kernel_rfl) ?_ ?_
 refine Asks.cons ?_ (Asks.cons ?_ (Asks.cons ?_ (Asks.cons ?_ (Asks.cons ?_ (Asks.cons ?_ (Asks.cons ?_ (Asks.cons ?_ (Asks.cons ?_ (Asks.cons ?_ (Asks.cons ?_ (Asks.zero _)))))))))))
 exact Ask.plain rfl rfl fun aq wq hNq hO hR hT => does_loadD (o := 0) (n := 4) (mid := [w32 (b).a, w32 (b).b, w32 (b).c, w32 (b).d]) ((hO 5 rfl).trans s5_7) (hbb5_6.ext' hR) rfl rfl (Nat.le_of_ble_eq_true rfl) row_24 rfl ⟨Ext.refl _, rfl⟩
 exact Ask.plain rfl rfl fun aq wq hNq hO hR hT => does_move (V := x8) ((hO 8 rfl).trans s8_7) ⟨Ext.refl _, rfl⟩
 exact Ask.plain rfl rfl fun aq wq hNq hO hR hT => does_loadD (o := 0) (n := 4) (mid := [w32 (a).a, w32 (a).b, w32 (a).c, w32 (a).d]) ((hO 4 rfl).trans s4_7) (hbb4_6.ext' hR) rfl rfl (Nat.le_of_ble_eq_true rfl) row_24 rfl ⟨Ext.refl _, rfl⟩
 exact Ask.plain rfl rfl fun aq wq hNq hO hR hT => does_move (V := x7) ((hO 7 rfl).trans s7_7) ⟨Ext.refl _, rfl⟩
 exact Ask.plain rfl rfl fun aq wq hNq hO hR hT => does_ret (vs := #[Dg.val (b), x8, Dg.val (a), x7]) call_17 (args4 (hT 43 rfl rfl) (hT 44 rfl rfl) (hT 45 rfl rfl) (hT 46 rfl rfl)) rfl ((ahead_ b (signed seed b) a (signed seed a) (x8) (x7) wq (hL.ext (hE_6.trans hR)) ((hsx8_6.ext' hR).wide (Nat.zero_le _) (.inl rfl)) ((hsx7_6.ext' hR).wide (Nat.zero_le _) (.inl rfl)) (signed_length _ _) (signed_length _ _)).mono fun v w2 h => ⟨h.2, h.1⟩)
 exact Ask.plain rfl rfl fun aq wq hNq hO hR hT => does_move (V := Value.tuple #[i64 (((aheadO b (signed seed b) a (signed seed a)).1 : Nat) : Int), Dg.val ((aheadO b (signed seed b) a (signed seed a)).2.1), Value.bool ((aheadO b (signed seed b) a (signed seed a)).2.2)]) (hT 47 rfl rfl) ⟨Ext.refl _, rfl⟩
 exact Ask.plain rfl rfl fun aq wq hNq hO hR hT => does_extract (V := i64 (((aheadO b (signed seed b) a (signed seed a)).1 : Nat) : Int)) (hT 42 rfl rfl) rfl ⟨Ext.refl _, rfl⟩
 exact Ask.plain rfl rfl fun aq wq hNq hO hR hT => does_extract (V := Dg.val ((aheadO b (signed seed b) a (signed seed a)).2.1)) (hT 42 rfl rfl) rfl ⟨Ext.refl _, rfl⟩
 exact Ask.plain rfl rfl fun aq wq hNq hO hR hT => does_extract (V := Value.bool ((aheadO b (signed seed b) a (signed seed a)).2.2)) (hT 42 rfl rfl) rfl ⟨Ext.refl _, rfl⟩
 refine Ask.fresh rfl rfl ?_
 intro aq wq hNq hO hR hT
 exact does_alloc zero_24 (fun b w2 he hlo hb => ⟨he, ⟨b, rfl, Nat.le_trans hR.size' hlo, hb⟩, ⟨b, rfl, hlo, hb.lt⟩⟩)
 exact Ask.plain rfl rfl fun aq wq hNq hO hR hT => does_assign (V := i64 (((aheadO b (signed seed b) a (signed seed a)).1 : Nat) : Int)) (hT 48 rfl rfl) ⟨Ext.refl _, rfl⟩
 intro a8 wd8 hN_8 hD_8 hO hR hA hU
 obtain ⟨_, _, _, _, _, _, _, t49, t50, t14, _, _⟩ := hA
 have hE_8 := hE_6.trans hR
 have s3_8 := (hO 3 rfl).trans s3_7
 have s4_8 := (hO 4 rfl).trans s4_7
 have s5_8 := (hO 5 rfl).trans s5_7
 have s7_8 := (hO 7 rfl).trans s7_7
 have s8_8 := (hO 8 rfl).trans s8_7
 have s9_8 := (hO 9 rfl).trans s9_7
 have s12_8 := (hO 12 rfl).trans s12_7
 have hbb3_8 := hbb3_6.ext' hR
 have hbb4_8 := hbb4_6.ext' hR
 have hbb5_8 := hbb5_6.ext' hR
 have hbb9_8 := hbb9_6.ext' hR
 have hbb11_8 := hbb11_6.ext' hR
 have hsx7_8 := hsx7_6.ext' hR
 have hsx8_8 := hsx8_6.ext' hR
 have hox7_8 := hox7_6.ext' hR
 have hox8_8 := hox8_6.ext' hR
 have s49_8 : get a8 49 = Dg.val ((aheadO b (signed seed b) a (signed seed a)).2.1) := t49
 have s50_8 : get a8 50 = Value.bool ((aheadO b (signed seed b) a (signed seed a)).2.2) := t50
 obtain ⟨b14, s14_8, lo_b14, hbb14_8⟩ := t14
 have ne_b3_b14 : b3 ≠ b14 := fun e => Nat.lt_irrefl _ (Nat.lt_of_lt_of_le hbb3_6.lt (e ▸ lo_b14))
 have ne_b4_b14 : b4 ≠ b14 := fun e => Nat.lt_irrefl _ (Nat.lt_of_lt_of_le hbb4_6.lt (e ▸ lo_b14))
 have ne_b5_b14 : b5 ≠ b14 := fun e => Nat.lt_irrefl _ (Nat.lt_of_lt_of_le hbb5_6.lt (e ▸ lo_b14))
 have ne_b9_b14 : b9 ≠ b14 := fun e => Nat.lt_irrefl _ (Nat.lt_of_lt_of_le hbb9_6.lt (e ▸ lo_b14))
 have ne_b11_b14 : b11 ≠ b14 := fun e => Nat.lt_irrefl _ (Nat.lt_of_lt_of_le hbb11_6.lt (e ▸ lo_b14))
 have nb_x7_b14 := SlT.old hsx7_6 lo_b14
 have nb_x8_b14 := SlT.old hsx8_6 lo_b14
 have nbo_x7_b14 : x7.ownBlock ≠ some b14 := fun e => Nat.lt_irrefl _ (Nat.lt_of_lt_of_le (OwnT.block_lt hox7_6 e).2 lo_b14)
 have nbo_x8_b14 : x8.ownBlock ≠ some b14 := fun e => Nat.lt_irrefl _ (Nat.lt_of_lt_of_le (OwnT.block_lt hox8_6 e).2 lo_b14)
 have fr_b14 : w0.heap.size ≤ b14 := Nat.le_trans hE_6.size' lo_b14
 clear hE_6 hN_7 hD_7 s3_7 s4_7 s5_7 s7_7 s8_7 s9_7 s12_7 hbb3_6 hbb4_6 hbb5_6 hbb9_6 hbb11_6 hsx7_6 hsx8_6 hox7_6 hox8_6
 refine tail_none rfl rfl (does_storeD (o := 0) (n := 4) (cs' := [w32 ((aheadO b (signed seed b) a (signed seed a)).2.1).a, w32 ((aheadO b (signed seed b) a (signed seed a)).2.1).b, w32 ((aheadO b (signed seed b) a (signed seed a)).2.1).c, w32 ((aheadO b (signed seed b) a (signed seed a)).2.1).d]) (V := Dg.val ((aheadO b (signed seed b) a (signed seed a)).2.1)) s14_8 s49_8 hbb14_8 (Nat.le_of_ble_eq_true rfl) rfl siz_24 rfl rfl (fun wd9 hX hz hbb14_9 => ?_))
 have hE_9 := hE_8.since hX (fun k e => e ▸ fr_b14)
 have hbb3_9 := hbb3_8.ext hX ne_b3_b14
 have hbb4_9 := hbb4_8.ext hX ne_b4_b14
 have hbb5_9 := hbb5_8.ext hX ne_b5_b14
 have hbb9_9 := hbb9_8.ext hX ne_b9_b14
 have hbb11_9 := hbb11_8.ext hX ne_b11_b14
 have hsx7_9 := SlT.over hsx7_8 hX nb_x7_b14
 have hsx8_9 := SlT.over hsx8_8 hX nb_x8_b14
 have hox7_9 := OwnT.ext hox7_8 hX (fun k hk e => nbo_x7_b14 (e ▸ hk))
 have hox8_9 := OwnT.ext hox8_8 hX (fun k hk e => nbo_x8_b14 (e ▸ hk))
 clear hX hz hE_8 hbb3_8 hbb4_8 hbb5_8 hbb9_8 hbb11_8 hbb14_8 hsx7_8 hsx8_8 hox7_8 hox8_8
 refine tail_put rfl rfl hN_8 hD_8 (by decide) (does_assign (V := Value.bool ((aheadO b (signed seed b) a (signed seed a)).2.2)) s50_8 (fun a10 hN_10 hD_10 hv hO => ?_))
 have s15_10 := hv
 have s3_10 := (hO 3 rfl).trans s3_8
 have s4_10 := (hO 4 rfl).trans s4_8
 have s5_10 := (hO 5 rfl).trans s5_8
 have s7_10 := (hO 7 rfl).trans s7_8
 have s8_10 := (hO 8 rfl).trans s8_8
 have s9_10 := (hO 9 rfl).trans s9_8
 have s12_10 := (hO 12 rfl).trans s12_8
 clear hO hv hN_8 hD_8 s3_8 s4_8 s5_8 s7_8 s8_8 s9_8 s12_8 s14_8 s49_8 s50_8
 refine tail_nil ?_
 refine wp_seq ?_
 refine region_lex [16] [(52, Pr.ex (Dg.val (seed))), (53, Pr.ex (Value.tuple #[Value.agg #[w32 (seed).a, w32 (seed).b, w32 (seed).c, w32 (seed).d, i64 ((1 : Nat) : Int), i64 ((0 : Nat) : Int)], i64 ((0 : Nat) : Int)])), (51, Pr.ex (Value.tuple #[Value.agg #[w32 (seed).a, w32 (seed).b, w32 (seed).c, w32 (seed).d, i64 ((1 : Nat) : Int), i64 ((0 : Nat) : Int)], i64 ((0 : Nat) : Int)])), (54, Pr.ex (Value.agg #[w32 (seed).a, w32 (seed).b, w32 (seed).c, w32 (seed).d, i64 ((1 : Nat) : Int), i64 ((0 : Nat) : Int)])), (55, Pr.ex (i64 ((0 : Nat) : Int))), (16, Pr.box' wd9.heap.size 30 [w32 (Dg.zero).a, w32 (Dg.zero).b, w32 (Dg.zero).c, w32 (Dg.zero).d, i64 ((0 : Nat) : Int), i64 ((0 : Nat) : Int)])] 6 hN_10 hD_10 (by kernel_rfl) (by kernel_rfl) ?_ ?_
 refine Asks.cons ?_ (Asks.cons ?_ (Asks.cons ?_ (Asks.cons ?_ (Asks.cons ?_ (Asks.cons ?_ (Asks.zero _))))))
 exact Ask.plain rfl rfl fun aq wq hNq hO hR hT => does_loadD (o := 0) (n := 4) (mid := [w32 (seed).a, w32 (seed).b, w32 (seed).c, w32 (seed).d]) ((hO 3 rfl).trans s3_10) (hbb3_9.ext' hR) rfl rfl (Nat.le_of_ble_eq_true rfl) row_24 rfl ⟨Ext.refl _, rfl⟩
 exact Ask.plain rfl rfl fun aq wq hNq hO hR hT => does_ret (vs := #[Dg.val (seed), i64 ((1 : Nat) : Int)]) call_10 (args2 (hT 52 rfl rfl) rfl) rfl ((keyNew_k seed 1 wq (by decide)).mono fun v w2 h => ⟨h.2, h.1⟩)
 exact Ask.plain rfl rfl fun aq wq hNq hO hR hT => does_move (V := Value.tuple #[Value.agg #[w32 (seed).a, w32 (seed).b, w32 (seed).c, w32 (seed).d, i64 ((1 : Nat) : Int), i64 ((0 : Nat) : Int)], i64 ((0 : Nat) : Int)]) (hT 53 rfl rfl) ⟨Ext.refl _, rfl⟩
 exact Ask.plain rfl rfl fun aq wq hNq hO hR hT => does_extract (V := Value.agg #[w32 (seed).a, w32 (seed).b, w32 (seed).c, w32 (seed).d, i64 ((1 : Nat) : Int), i64 ((0 : Nat) : Int)]) (hT 51 rfl rfl) rfl ⟨Ext.refl _, rfl⟩
 exact Ask.plain rfl rfl fun aq wq hNq hO hR hT => does_extract (V := i64 ((0 : Nat) : Int)) (hT 51 rfl rfl) rfl ⟨Ext.refl _, rfl⟩
 refine Ask.fresh rfl rfl ?_
 intro aq wq hNq hO hR hT
 exact does_alloc zero_30 (fun b w2 he hlo hb => ⟨he, ⟨b, rfl, Nat.le_trans hR.size' hlo, hb⟩, ⟨b, rfl, hlo, hb.lt⟩⟩)
 intro a11 wd11 hN_11 hD_11 hO hR hA hU
 obtain ⟨_, _, _, t54, t55, t16, _⟩ := hA
 have hE_11 := hE_9.trans hR
 have s4_11 := (hO 4 rfl).trans s4_10
 have s5_11 := (hO 5 rfl).trans s5_10
 have s7_11 := (hO 7 rfl).trans s7_10
 have s8_11 := (hO 8 rfl).trans s8_10
 have s9_11 := (hO 9 rfl).trans s9_10
 have s12_11 := (hO 12 rfl).trans s12_10
 have s15_11 := (hO 15 rfl).trans s15_10
 have hbb3_11 := hbb3_9.ext' hR
 have hbb4_11 := hbb4_9.ext' hR
 have hbb5_11 := hbb5_9.ext' hR
 have hbb9_11 := hbb9_9.ext' hR
 have hbb11_11 := hbb11_9.ext' hR
 have hbb14_11 := hbb14_9.ext' hR
 have hsx7_11 := hsx7_9.ext' hR
 have hsx8_11 := hsx8_9.ext' hR
 have hox7_11 := hox7_9.ext' hR
 have hox8_11 := hox8_9.ext' hR
 have s54_11 : get a11 54 = Value.agg #[w32 (seed).a, w32 (seed).b, w32 (seed).c, w32 (seed).d, i64 ((1 : Nat) : Int), i64 ((0 : Nat) : Int)] := t54
 have s55_11 : get a11 55 = i64 ((0 : Nat) : Int) := t55
 obtain ⟨b16, s16_11, lo_b16, hbb16_11⟩ := t16
 have ne_b3_b16 : b3 ≠ b16 := fun e => Nat.lt_irrefl _ (Nat.lt_of_lt_of_le hbb3_9.lt (e ▸ lo_b16))
 have ne_b4_b16 : b4 ≠ b16 := fun e => Nat.lt_irrefl _ (Nat.lt_of_lt_of_le hbb4_9.lt (e ▸ lo_b16))
 have ne_b5_b16 : b5 ≠ b16 := fun e => Nat.lt_irrefl _ (Nat.lt_of_lt_of_le hbb5_9.lt (e ▸ lo_b16))
 have ne_b9_b16 : b9 ≠ b16 := fun e => Nat.lt_irrefl _ (Nat.lt_of_lt_of_le hbb9_9.lt (e ▸ lo_b16))
 have ne_b11_b16 : b11 ≠ b16 := fun e => Nat.lt_irrefl _ (Nat.lt_of_lt_of_le hbb11_9.lt (e ▸ lo_b16))
 have ne_b14_b16 : b14 ≠ b16 := fun e => Nat.lt_irrefl _ (Nat.lt_of_lt_of_le hbb14_9.lt (e ▸ lo_b16))
 have nb_x7_b16 := SlT.old hsx7_9 lo_b16
 have nb_x8_b16 := SlT.old hsx8_9 lo_b16
 have nbo_x7_b16 : x7.ownBlock ≠ some b16 := fun e => Nat.lt_irrefl _ (Nat.lt_of_lt_of_le (OwnT.block_lt hox7_9 e).2 lo_b16)
 have nbo_x8_b16 : x8.ownBlock ≠ some b16 := fun e => Nat.lt_irrefl _ (Nat.lt_of_lt_of_le (OwnT.block_lt hox8_9 e).2 lo_b16)
 have fr_b16 : w0.heap.size ≤ b16 := Nat.le_trans hE_9.size' lo_b16
 clear hE_9 hN_10 hD_10 s3_10 s4_10 s5_10 s7_10 s8_10 s9_10 s12_10 s15_10 hbb3_9 hbb4_9 hbb5_9 hbb9_9 hbb11_9 hbb14_9 hsx7_9 hsx8_9 hox7_9 hox8_9
 refine tail_none rfl rfl (does_storeD (o := 0) (n := 6) (cs' := [w32 (seed).a, w32 (seed).b, w32 (seed).c, w32 (seed).d, i64 ((1 : Nat) : Int), i64 ((0 : Nat) : Int)]) (V := Value.agg #[w32 (seed).a, w32 (seed).b, w32 (seed).c, w32 (seed).d, i64 ((1 : Nat) : Int), i64 ((0 : Nat) : Int)]) s16_11 s54_11 hbb16_11 (Nat.le_of_ble_eq_true rfl) rfl siz_30 rfl rfl (fun wd12 hX hz hbb16_12 => ?_))
 have hE_12 := hE_11.since hX (fun k e => e ▸ fr_b16)
 have hbb3_12 := hbb3_11.ext hX ne_b3_b16
 have hbb4_12 := hbb4_11.ext hX ne_b4_b16
 have hbb5_12 := hbb5_11.ext hX ne_b5_b16
 have hbb9_12 := hbb9_11.ext hX ne_b9_b16
 have hbb11_12 := hbb11_11.ext hX ne_b11_b16
 have hbb14_12 := hbb14_11.ext hX ne_b14_b16
 have hsx7_12 := SlT.over hsx7_11 hX nb_x7_b16
 have hsx8_12 := SlT.over hsx8_11 hX nb_x8_b16
 have hox7_12 := OwnT.ext hox7_11 hX (fun k hk e => nbo_x7_b16 (e ▸ hk))
 have hox8_12 := OwnT.ext hox8_11 hX (fun k hk e => nbo_x8_b16 (e ▸ hk))
 clear hX hz hE_11 hbb3_11 hbb4_11 hbb5_11 hbb9_11 hbb11_11 hbb14_11 hbb16_11 hsx7_11 hsx8_11 hox7_11 hox8_11
 refine tail_put rfl rfl hN_11 hD_11 (by decide) (does_assign (V := i64 ((0 : Nat) : Int)) s55_11 (fun a13 hN_13 hD_13 hv hO => ?_))
 have s17_13 := hv
 have s4_13 := (hO 4 rfl).trans s4_11
 have s5_13 := (hO 5 rfl).trans s5_11
 have s7_13 := (hO 7 rfl).trans s7_11
 have s8_13 := (hO 8 rfl).trans s8_11
 have s9_13 := (hO 9 rfl).trans s9_11
 have s12_13 := (hO 12 rfl).trans s12_11
 have s15_13 := (hO 15 rfl).trans s15_11
 have s16_13 := (hO 16 rfl).trans s16_11
 clear hO hv hN_11 hD_11 s4_11 s5_11 s7_11 s8_11 s9_11 s12_11 s15_11 s16_11 s54_11 s55_11
 refine tail_nil ?_
 refine wp_seq ?_
 refine region_lex [] [(57, Pr.ex (Value.agg #[w32 (seed).a, w32 (seed).b, w32 (seed).c, w32 (seed).d, i64 ((1 : Nat) : Int), i64 ((0 : Nat) : Int)])), (58, Pr.ex (Dg.val (a))), (59, Pr.t3 (Pr.ex (Value.agg #[w32 (seed).a, w32 (seed).b, w32 (seed).c, w32 (seed).d, i64 ((1 : Nat) : Int), i64 ((1 : Nat) : Int)])) (Pr.ag2 (fun x y => Value.agg #[i64 ((0 : Nat) : Int), x, y]) (Pr.own' DG wd12.heap.size 24 (signed (seedAt seed 0) a)) (Pr.own' DG wd12.heap.size 24 (way (publics seed (pw 1)) 0))) (Pr.ex (i64 ((0 : Nat) : Int)))), (56, Pr.t3 (Pr.ex (Value.agg #[w32 (seed).a, w32 (seed).b, w32 (seed).c, w32 (seed).d, i64 ((1 : Nat) : Int), i64 ((1 : Nat) : Int)])) (Pr.ag2 (fun x y => Value.agg #[i64 ((0 : Nat) : Int), x, y]) (Pr.own' DG wd12.heap.size 24 (signed (seedAt seed 0) a)) (Pr.own' DG wd12.heap.size 24 (way (publics seed (pw 1)) 0))) (Pr.ex (i64 ((0 : Nat) : Int)))), (60, Pr.ex (Value.agg #[w32 (seed).a, w32 (seed).b, w32 (seed).c, w32 (seed).d, i64 ((1 : Nat) : Int), i64 ((1 : Nat) : Int)])), (61, Pr.ag2 (fun x y => Value.agg #[i64 ((0 : Nat) : Int), x, y]) (Pr.own' DG wd12.heap.size 24 (signed (seedAt seed 0) a)) (Pr.own' DG wd12.heap.size 24 (way (publics seed (pw 1)) 0))), (62, Pr.ex (i64 ((0 : Nat) : Int)))] 7 hN_13 hD_13 (by kernel_rfl) (by kernel_rfl) ?_ ?_
 refine Asks.cons ?_ (Asks.cons ?_ (Asks.cons ?_ (Asks.cons ?_ (Asks.cons ?_ (Asks.cons ?_ (Asks.cons ?_ (Asks.zero _)))))))
 exact Ask.plain rfl rfl fun aq wq hNq hO hR hT => does_loadD (o := 0) (n := 6) (mid := [w32 (seed).a, w32 (seed).b, w32 (seed).c, w32 (seed).d, i64 ((1 : Nat) : Int), i64 ((0 : Nat) : Int)]) ((hO 16 rfl).trans s16_13) (hbb16_12.ext' hR) rfl rfl (Nat.le_of_ble_eq_true rfl) row_30 rfl ⟨Ext.refl _, rfl⟩
 exact Ask.plain rfl rfl fun aq wq hNq hO hR hT => does_loadD (o := 0) (n := 4) (mid := [w32 (a).a, w32 (a).b, w32 (a).c, w32 (a).d]) ((hO 4 rfl).trans s4_13) (hbb4_12.ext' hR) rfl rfl (Nat.le_of_ble_eq_true rfl) row_24 rfl ⟨Ext.refl _, rfl⟩
 exact Ask.plain rfl rfl fun aq wq hNq hO hR hT => does_ret (vs := #[Value.agg #[w32 (seed).a, w32 (seed).b, w32 (seed).c, w32 (seed).d, i64 ((1 : Nat) : Int), i64 ((0 : Nat) : Int)], Dg.val (a)]) call_11 (args2 (hT 57 rfl rfl) (hT 58 rfl rfl)) rfl ((keyUse_k seed 1 0 a wq (hL.ext (hE_12.trans hR)) (by decide) (by decide)).mono fun v w2 h => ⟨h.2, by obtain ⟨x0, x1, x2, hv, k0, k1, k2⟩ := h.1; exact ⟨x0, x1, x2, hv, k0, (by obtain ⟨z0, z1, hz, kz0, kz1⟩ := k1; exact ⟨z0, z1, hz, OwnT.base kz0 hR.size', OwnT.base kz1 hR.size'⟩), k2⟩⟩)
 exact Ask.plain rfl rfl fun aq wq hNq hO hR hT => does_move rfl ⟨Ext.refl _, (hT 59 rfl rfl)⟩
 exact Ask.plain rfl rfl fun aq wq hNq hO hR hT => by
  obtain ⟨x0, x1, x2, hv, k0, k1, k2⟩ := (hT 56 rfl rfl)
  exact does_extract (V := Value.agg #[w32 (seed).a, w32 (seed).b, w32 (seed).c, w32 (seed).d, i64 ((1 : Nat) : Int), i64 ((1 : Nat) : Int)]) hv (by rw [show x0 = Value.agg #[w32 (seed).a, w32 (seed).b, w32 (seed).c, w32 (seed).d, i64 ((1 : Nat) : Int), i64 ((1 : Nat) : Int)] from k0]; rfl) ⟨Ext.refl _, rfl⟩
 exact Ask.plain rfl rfl fun aq wq hNq hO hR hT => by
  obtain ⟨x0, x1, x2, hv, k0, k1, k2⟩ := (hT 56 rfl rfl)
  exact does_extract hv rfl ⟨Ext.refl _, k1⟩
 exact Ask.plain rfl rfl fun aq wq hNq hO hR hT => by
  obtain ⟨x0, x1, x2, hv, k0, k1, k2⟩ := (hT 56 rfl rfl)
  exact does_extract (V := i64 ((0 : Nat) : Int)) hv (by rw [show x2 = i64 ((0 : Nat) : Int) from k2]; rfl) ⟨Ext.refl _, rfl⟩
 intro a14 wd14 hN_14 hD_14 hO hR hA hU
 obtain ⟨_, _, _, _, t60, t61, t62, _⟩ := hA
 have hE_14 := hE_12.trans hR
 have s4_14 := (hO 4 rfl).trans s4_13
 have s5_14 := (hO 5 rfl).trans s5_13
 have s7_14 := (hO 7 rfl).trans s7_13
 have s8_14 := (hO 8 rfl).trans s8_13
 have s9_14 := (hO 9 rfl).trans s9_13
 have s12_14 := (hO 12 rfl).trans s12_13
 have s15_14 := (hO 15 rfl).trans s15_13
 have s16_14 := (hO 16 rfl).trans s16_13
 have s17_14 := (hO 17 rfl).trans s17_13
 have hbb3_14 := hbb3_12.ext' hR
 have hbb4_14 := hbb4_12.ext' hR
 have hbb5_14 := hbb5_12.ext' hR
 have hbb9_14 := hbb9_12.ext' hR
 have hbb11_14 := hbb11_12.ext' hR
 have hbb14_14 := hbb14_12.ext' hR
 have hbb16_14 := hbb16_12.ext' hR
 have hsx7_14 := hsx7_12.ext' hR
 have hsx8_14 := hsx8_12.ext' hR
 have hox7_14 := hox7_12.ext' hR
 have hox8_14 := hox8_12.ext' hR
 have s60_14 : get a14 60 = Value.agg #[w32 (seed).a, w32 (seed).b, w32 (seed).c, w32 (seed).d, i64 ((1 : Nat) : Int), i64 ((1 : Nat) : Int)] := t60
 obtain ⟨x61_0_14, x61_1_14, s61_14, ky61_0_14, ky61_1_14⟩ := t61
 replace ky61_0_14 : OwnT DG wd12.heap.size 24 (signed (seedAt seed 0) a) x61_0_14 wd14 := ky61_0_14
 have nbo_x61_0_14_b3 : x61_0_14.ownBlock ≠ some b3 := fun e => Nat.lt_irrefl _ (Nat.lt_of_lt_of_le hbb3_12.lt (OwnT.block_lt ky61_0_14 e).1)
 have nbo_x61_0_14_b4 : x61_0_14.ownBlock ≠ some b4 := fun e => Nat.lt_irrefl _ (Nat.lt_of_lt_of_le hbb4_12.lt (OwnT.block_lt ky61_0_14 e).1)
 have nbo_x61_0_14_b5 : x61_0_14.ownBlock ≠ some b5 := fun e => Nat.lt_irrefl _ (Nat.lt_of_lt_of_le hbb5_12.lt (OwnT.block_lt ky61_0_14 e).1)
 have nbo_x61_0_14_b9 : x61_0_14.ownBlock ≠ some b9 := fun e => Nat.lt_irrefl _ (Nat.lt_of_lt_of_le hbb9_12.lt (OwnT.block_lt ky61_0_14 e).1)
 have nbo_x61_0_14_b11 : x61_0_14.ownBlock ≠ some b11 := fun e => Nat.lt_irrefl _ (Nat.lt_of_lt_of_le hbb11_12.lt (OwnT.block_lt ky61_0_14 e).1)
 have nbo_x61_0_14_b14 : x61_0_14.ownBlock ≠ some b14 := fun e => Nat.lt_irrefl _ (Nat.lt_of_lt_of_le hbb14_12.lt (OwnT.block_lt ky61_0_14 e).1)
 have nbo_x61_0_14_b16 : x61_0_14.ownBlock ≠ some b16 := fun e => Nat.lt_irrefl _ (Nat.lt_of_lt_of_le hbb16_12.lt (OwnT.block_lt ky61_0_14 e).1)
 have no_x61_0_14_x7 : ∀ k, x61_0_14.ownBlock = some k → x7.ownBlock ≠ some k := fun k e e' => Nat.lt_irrefl _ (Nat.lt_of_lt_of_le (OwnT.block_lt hox7_12 e').2 (OwnT.block_lt ky61_0_14 e).1)
 have no_x61_0_14_x8 : ∀ k, x61_0_14.ownBlock = some k → x8.ownBlock ≠ some k := fun k e e' => Nat.lt_irrefl _ (Nat.lt_of_lt_of_le (OwnT.block_lt hox8_12 e').2 (OwnT.block_lt ky61_0_14 e).1)
 have hsx61_0_14_14 := ky61_0_14.sl.wide (Nat.zero_le _) (.inl rfl)
 have hox61_0_14_14 := OwnT.base ky61_0_14 hE_12.size'
 replace ky61_1_14 : OwnT DG wd12.heap.size 24 (way (publics seed (pw 1)) 0) x61_1_14 wd14 := ky61_1_14
 have nbo_x61_1_14_b3 : x61_1_14.ownBlock ≠ some b3 := fun e => Nat.lt_irrefl _ (Nat.lt_of_lt_of_le hbb3_12.lt (OwnT.block_lt ky61_1_14 e).1)
 have nbo_x61_1_14_b4 : x61_1_14.ownBlock ≠ some b4 := fun e => Nat.lt_irrefl _ (Nat.lt_of_lt_of_le hbb4_12.lt (OwnT.block_lt ky61_1_14 e).1)
 have nbo_x61_1_14_b5 : x61_1_14.ownBlock ≠ some b5 := fun e => Nat.lt_irrefl _ (Nat.lt_of_lt_of_le hbb5_12.lt (OwnT.block_lt ky61_1_14 e).1)
 have nbo_x61_1_14_b9 : x61_1_14.ownBlock ≠ some b9 := fun e => Nat.lt_irrefl _ (Nat.lt_of_lt_of_le hbb9_12.lt (OwnT.block_lt ky61_1_14 e).1)
 have nbo_x61_1_14_b11 : x61_1_14.ownBlock ≠ some b11 := fun e => Nat.lt_irrefl _ (Nat.lt_of_lt_of_le hbb11_12.lt (OwnT.block_lt ky61_1_14 e).1)
 have nbo_x61_1_14_b14 : x61_1_14.ownBlock ≠ some b14 := fun e => Nat.lt_irrefl _ (Nat.lt_of_lt_of_le hbb14_12.lt (OwnT.block_lt ky61_1_14 e).1)
 have nbo_x61_1_14_b16 : x61_1_14.ownBlock ≠ some b16 := fun e => Nat.lt_irrefl _ (Nat.lt_of_lt_of_le hbb16_12.lt (OwnT.block_lt ky61_1_14 e).1)
 have no_x61_1_14_x7 : ∀ k, x61_1_14.ownBlock = some k → x7.ownBlock ≠ some k := fun k e e' => Nat.lt_irrefl _ (Nat.lt_of_lt_of_le (OwnT.block_lt hox7_12 e').2 (OwnT.block_lt ky61_1_14 e).1)
 have no_x61_1_14_x8 : ∀ k, x61_1_14.ownBlock = some k → x8.ownBlock ≠ some k := fun k e e' => Nat.lt_irrefl _ (Nat.lt_of_lt_of_le (OwnT.block_lt hox8_12 e').2 (OwnT.block_lt ky61_1_14 e).1)
 have hsx61_1_14_14 := ky61_1_14.sl.wide (Nat.zero_le _) (.inl rfl)
 have hox61_1_14_14 := OwnT.base ky61_1_14 hE_12.size'
 have s62_14 : get a14 62 = i64 ((0 : Nat) : Int) := t62
 clear hE_12 hN_13 hD_13 s4_13 s5_13 s7_13 s8_13 s9_13 s12_13 s15_13 s16_13 s17_13 hbb3_12 hbb4_12 hbb5_12 hbb9_12 hbb11_12 hbb14_12 hbb16_12 hsx7_12 hsx8_12 hox7_12 hox8_12
 refine tail_put rfl rfl hN_14 hD_14 (by decide) (does_alloc zero_37 (fun b18 wd15 he lo_b18 hbb18_15 => fun a15 hN_15 hD_15 hv hO => ?_))
 have s18_15 := hv
 have hE_15 := hE_14.trans he
 have hbb3_15 := hbb3_14.ext' he
 have hbb4_15 := hbb4_14.ext' he
 have hbb5_15 := hbb5_14.ext' he
 have hbb9_15 := hbb9_14.ext' he
 have hbb11_15 := hbb11_14.ext' he
 have hbb14_15 := hbb14_14.ext' he
 have hbb16_15 := hbb16_14.ext' he
 have hsx7_15 := hsx7_14.ext' he
 have hsx8_15 := hsx8_14.ext' he
 have hsx61_0_14_15 := hsx61_0_14_14.ext' he
 have hsx61_1_14_15 := hsx61_1_14_14.ext' he
 have hox7_15 := hox7_14.ext' he
 have hox8_15 := hox8_14.ext' he
 have hox61_0_14_15 := hox61_0_14_14.ext' he
 have hox61_1_14_15 := hox61_1_14_14.ext' he
 have fr_b18 : w0.heap.size ≤ b18 := Nat.le_trans hE_14.size' lo_b18
 have ne_b3_b18 : b3 ≠ b18 := fun e => Nat.lt_irrefl _ (Nat.lt_of_lt_of_le hbb3_14.lt (e ▸ lo_b18))
 have ne_b4_b18 : b4 ≠ b18 := fun e => Nat.lt_irrefl _ (Nat.lt_of_lt_of_le hbb4_14.lt (e ▸ lo_b18))
 have ne_b5_b18 : b5 ≠ b18 := fun e => Nat.lt_irrefl _ (Nat.lt_of_lt_of_le hbb5_14.lt (e ▸ lo_b18))
 have ne_b9_b18 : b9 ≠ b18 := fun e => Nat.lt_irrefl _ (Nat.lt_of_lt_of_le hbb9_14.lt (e ▸ lo_b18))
 have ne_b11_b18 : b11 ≠ b18 := fun e => Nat.lt_irrefl _ (Nat.lt_of_lt_of_le hbb11_14.lt (e ▸ lo_b18))
 have ne_b14_b18 : b14 ≠ b18 := fun e => Nat.lt_irrefl _ (Nat.lt_of_lt_of_le hbb14_14.lt (e ▸ lo_b18))
 have ne_b16_b18 : b16 ≠ b18 := fun e => Nat.lt_irrefl _ (Nat.lt_of_lt_of_le hbb16_14.lt (e ▸ lo_b18))
 have nb_x7_b18 := SlT.old hsx7_14 lo_b18
 have nb_x8_b18 := SlT.old hsx8_14 lo_b18
 have nb_x61_0_14_b18 := SlT.old hsx61_0_14_14 lo_b18
 have nb_x61_1_14_b18 := SlT.old hsx61_1_14_14 lo_b18
 have nbo_x7_b18 : x7.ownBlock ≠ some b18 := fun e => Nat.lt_irrefl _ (Nat.lt_of_lt_of_le (OwnT.block_lt hox7_14 e).2 lo_b18)
 have nbo_x8_b18 : x8.ownBlock ≠ some b18 := fun e => Nat.lt_irrefl _ (Nat.lt_of_lt_of_le (OwnT.block_lt hox8_14 e).2 lo_b18)
 have nbo_x61_0_14_b18 : x61_0_14.ownBlock ≠ some b18 := fun e => Nat.lt_irrefl _ (Nat.lt_of_lt_of_le (OwnT.block_lt hox61_0_14_14 e).2 lo_b18)
 have nbo_x61_1_14_b18 : x61_1_14.ownBlock ≠ some b18 := fun e => Nat.lt_irrefl _ (Nat.lt_of_lt_of_le (OwnT.block_lt hox61_1_14_14 e).2 lo_b18)
 have s4_15 := (hO 4 rfl).trans s4_14
 have s5_15 := (hO 5 rfl).trans s5_14
 have s7_15 := (hO 7 rfl).trans s7_14
 have s8_15 := (hO 8 rfl).trans s8_14
 have s9_15 := (hO 9 rfl).trans s9_14
 have s12_15 := (hO 12 rfl).trans s12_14
 have s15_15 := (hO 15 rfl).trans s15_14
 have s16_15 := (hO 16 rfl).trans s16_14
 have s17_15 := (hO 17 rfl).trans s17_14
 have s60_15 := (hO 60 rfl).trans s60_14
 have s61_15 := (hO 61 rfl).trans s61_14
 have s62_15 := (hO 62 rfl).trans s62_14
 clear hO hv hN_14 hD_14 hE_14 hbb3_14 hbb4_14 hbb5_14 hbb9_14 hbb11_14 hbb14_14 hbb16_14 hsx7_14 hsx8_14 hsx61_0_14_14 hsx61_1_14_14 hox7_14 hox8_14 hox61_0_14_14 hox61_1_14_14 s4_14 s5_14 s7_14 s8_14 s9_14 s12_14 s15_14 s16_14 s17_14 s60_14 s61_14 s62_14
 refine tail_none rfl rfl (does_storeD (o := 0) (n := 6) (cs' := [w32 (seed).a, w32 (seed).b, w32 (seed).c, w32 (seed).d, i64 ((1 : Nat) : Int), i64 ((1 : Nat) : Int)]) (V := Value.agg #[w32 (seed).a, w32 (seed).b, w32 (seed).c, w32 (seed).d, i64 ((1 : Nat) : Int), i64 ((1 : Nat) : Int)]) s16_15 s60_15 hbb16_15 (Nat.le_of_ble_eq_true rfl) rfl siz_30 rfl rfl (fun wd16 hX hz hbb16_16 => ?_))
 have hE_16 := hE_15.since hX (fun k e => e ▸ fr_b16)
 have hbb3_16 := hbb3_15.ext hX ne_b3_b16
 have hbb4_16 := hbb4_15.ext hX ne_b4_b16
 have hbb5_16 := hbb5_15.ext hX ne_b5_b16
 have hbb9_16 := hbb9_15.ext hX ne_b9_b16
 have hbb11_16 := hbb11_15.ext hX ne_b11_b16
 have hbb14_16 := hbb14_15.ext hX ne_b14_b16
 have hbb18_16 := hbb18_15.ext hX ne_b16_b18.symm
 have hsx7_16 := SlT.over hsx7_15 hX nb_x7_b16
 have hsx8_16 := SlT.over hsx8_15 hX nb_x8_b16
 have hsx61_0_14_16 := SlT.over hsx61_0_14_15 hX (fun _ => nbo_x61_0_14_b16)
 have hsx61_1_14_16 := SlT.over hsx61_1_14_15 hX (fun _ => nbo_x61_1_14_b16)
 have hox7_16 := OwnT.ext hox7_15 hX (fun k hk e => nbo_x7_b16 (e ▸ hk))
 have hox8_16 := OwnT.ext hox8_15 hX (fun k hk e => nbo_x8_b16 (e ▸ hk))
 have hox61_0_14_16 := OwnT.ext hox61_0_14_15 hX (fun k hk e => nbo_x61_0_14_b16 (e ▸ hk))
 have hox61_1_14_16 := OwnT.ext hox61_1_14_15 hX (fun k hk e => nbo_x61_1_14_b16 (e ▸ hk))
 clear hX hz hE_15 hbb3_15 hbb4_15 hbb5_15 hbb9_15 hbb11_15 hbb14_15 hbb16_15 hbb18_15 hsx7_15 hsx8_15 hsx61_0_14_15 hsx61_1_14_15 hox7_15 hox8_15 hox61_0_14_15 hox61_1_14_15
 refine tail_none rfl rfl (does_storeD (o := 0) (n := 3) (cs' := [i64 ((0 : Nat) : Int), x61_0_14, x61_1_14]) (V := Value.agg #[i64 ((0 : Nat) : Int), x61_0_14, x61_1_14]) s18_15 s61_15 hbb18_16 (Nat.le_of_ble_eq_true rfl) rfl siz_37 (one_cons rfl (one_cons (SlT.one hsx61_0_14_16) (one_cons (SlT.one hsx61_1_14_16) one_nil))) rfl (fun wd17 hX hz hbb18_17 => ?_))
 have hE_17 := hE_16.since hX (fun k e => e ▸ fr_b18)
 have hbb3_17 := hbb3_16.ext hX ne_b3_b18
 have hbb4_17 := hbb4_16.ext hX ne_b4_b18
 have hbb5_17 := hbb5_16.ext hX ne_b5_b18
 have hbb9_17 := hbb9_16.ext hX ne_b9_b18
 have hbb11_17 := hbb11_16.ext hX ne_b11_b18
 have hbb14_17 := hbb14_16.ext hX ne_b14_b18
 have hbb16_17 := hbb16_16.ext hX ne_b16_b18
 have hsx7_17 := SlT.over hsx7_16 hX nb_x7_b18
 have hsx8_17 := SlT.over hsx8_16 hX nb_x8_b18
 have hsx61_0_14_17 := SlT.over hsx61_0_14_16 hX nb_x61_0_14_b18
 have hsx61_1_14_17 := SlT.over hsx61_1_14_16 hX nb_x61_1_14_b18
 have hox7_17 := OwnT.ext hox7_16 hX (fun k hk e => nbo_x7_b18 (e ▸ hk))
 have hox8_17 := OwnT.ext hox8_16 hX (fun k hk e => nbo_x8_b18 (e ▸ hk))
 have hox61_0_14_17 := OwnT.ext hox61_0_14_16 hX (fun k hk e => nbo_x61_0_14_b18 (e ▸ hk))
 have hox61_1_14_17 := OwnT.ext hox61_1_14_16 hX (fun k hk e => nbo_x61_1_14_b18 (e ▸ hk))
 clear hX hz hE_16 hbb3_16 hbb4_16 hbb5_16 hbb9_16 hbb11_16 hbb14_16 hbb16_16 hbb18_16 hsx7_16 hsx8_16 hsx61_0_14_16 hsx61_1_14_16 hox7_16 hox8_16 hox61_0_14_16 hox61_1_14_16
 refine tail_put rfl rfl hN_15 hD_15 (by decide) (does_assign (V := i64 ((0 : Nat) : Int)) s62_15 (fun a18 hN_18 hD_18 hv hO => ?_))
 have s19_18 := hv
 have s4_18 := (hO 4 rfl).trans s4_15
 have s5_18 := (hO 5 rfl).trans s5_15
 have s7_18 := (hO 7 rfl).trans s7_15
 have s8_18 := (hO 8 rfl).trans s8_15
 have s9_18 := (hO 9 rfl).trans s9_15
 have s12_18 := (hO 12 rfl).trans s12_15
 have s15_18 := (hO 15 rfl).trans s15_15
 have s16_18 := (hO 16 rfl).trans s16_15
 have s17_18 := (hO 17 rfl).trans s17_15
 have s18_18 := (hO 18 rfl).trans s18_15
 clear hO hv hN_15 hD_15 s4_15 s5_15 s7_15 s8_15 s9_15 s12_15 s15_15 s16_15 s17_15 s18_15 s60_15 s61_15 s62_15
 refine tail_nil ?_
 refine wp_seq ?_
 refine region_lex [] [(64, Pr.ex (Value.agg #[w32 (seed).a, w32 (seed).b, w32 (seed).c, w32 (seed).d, i64 ((1 : Nat) : Int), i64 ((1 : Nat) : Int)])), (65, Pr.ex (Dg.val (b))), (66, Pr.t3 (Pr.ex (Value.agg #[w32 (seed).a, w32 (seed).b, w32 (seed).c, w32 (seed).d, i64 ((1 : Nat) : Int), i64 ((2 : Nat) : Int)])) (Pr.ag2 (fun x y => Value.agg #[i64 ((1 : Nat) : Int), x, y]) (Pr.own' DG wd17.heap.size 24 (signed (seedAt seed 1) b)) (Pr.own' DG wd17.heap.size 24 (way (publics seed (pw 1)) 1))) (Pr.ex (i64 ((0 : Nat) : Int)))), (63, Pr.t3 (Pr.ex (Value.agg #[w32 (seed).a, w32 (seed).b, w32 (seed).c, w32 (seed).d, i64 ((1 : Nat) : Int), i64 ((2 : Nat) : Int)])) (Pr.ag2 (fun x y => Value.agg #[i64 ((1 : Nat) : Int), x, y]) (Pr.own' DG wd17.heap.size 24 (signed (seedAt seed 1) b)) (Pr.own' DG wd17.heap.size 24 (way (publics seed (pw 1)) 1))) (Pr.ex (i64 ((0 : Nat) : Int)))), (67, Pr.ex (Value.agg #[w32 (seed).a, w32 (seed).b, w32 (seed).c, w32 (seed).d, i64 ((1 : Nat) : Int), i64 ((2 : Nat) : Int)])), (68, Pr.ag2 (fun x y => Value.agg #[i64 ((1 : Nat) : Int), x, y]) (Pr.own' DG wd17.heap.size 24 (signed (seedAt seed 1) b)) (Pr.own' DG wd17.heap.size 24 (way (publics seed (pw 1)) 1))), (69, Pr.ex (i64 ((0 : Nat) : Int)))] 7 hN_18 hD_18 (by kernel_rfl) (by kernel_rfl) ?_ ?_
 refine Asks.cons ?_ (Asks.cons ?_ (Asks.cons ?_ (Asks.cons ?_ (Asks.cons ?_ (Asks.cons ?_ (Asks.cons ?_ (Asks.zero _)))))))
 exact Ask.plain rfl rfl fun aq wq hNq hO hR hT => does_loadD (o := 0) (n := 6) (mid := [w32 (seed).a, w32 (seed).b, w32 (seed).c, w32 (seed).d, i64 ((1 : Nat) : Int), i64 ((1 : Nat) : Int)]) ((hO 16 rfl).trans s16_18) (hbb16_17.ext' hR) rfl rfl (Nat.le_of_ble_eq_true rfl) row_30 rfl ⟨Ext.refl _, rfl⟩
 exact Ask.plain rfl rfl fun aq wq hNq hO hR hT => does_loadD (o := 0) (n := 4) (mid := [w32 (b).a, w32 (b).b, w32 (b).c, w32 (b).d]) ((hO 5 rfl).trans s5_18) (hbb5_17.ext' hR) rfl rfl (Nat.le_of_ble_eq_true rfl) row_24 rfl ⟨Ext.refl _, rfl⟩
 exact Ask.plain rfl rfl fun aq wq hNq hO hR hT => does_ret (vs := #[Value.agg #[w32 (seed).a, w32 (seed).b, w32 (seed).c, w32 (seed).d, i64 ((1 : Nat) : Int), i64 ((1 : Nat) : Int)], Dg.val (b)]) call_11 (args2 (hT 64 rfl rfl) (hT 65 rfl rfl)) rfl ((keyUse_k seed 1 1 b wq (hL.ext (hE_17.trans hR)) (by decide) (by decide)).mono fun v w2 h => ⟨h.2, by obtain ⟨x0, x1, x2, hv, k0, k1, k2⟩ := h.1; exact ⟨x0, x1, x2, hv, k0, (by obtain ⟨z0, z1, hz, kz0, kz1⟩ := k1; exact ⟨z0, z1, hz, OwnT.base kz0 hR.size', OwnT.base kz1 hR.size'⟩), k2⟩⟩)
 exact Ask.plain rfl rfl fun aq wq hNq hO hR hT => does_move rfl ⟨Ext.refl _, (hT 66 rfl rfl)⟩
 exact Ask.plain rfl rfl fun aq wq hNq hO hR hT => by
  obtain ⟨x0, x1, x2, hv, k0, k1, k2⟩ := (hT 63 rfl rfl)
  exact does_extract (V := Value.agg #[w32 (seed).a, w32 (seed).b, w32 (seed).c, w32 (seed).d, i64 ((1 : Nat) : Int), i64 ((2 : Nat) : Int)]) hv (by rw [show x0 = Value.agg #[w32 (seed).a, w32 (seed).b, w32 (seed).c, w32 (seed).d, i64 ((1 : Nat) : Int), i64 ((2 : Nat) : Int)] from k0]; rfl) ⟨Ext.refl _, rfl⟩
 exact Ask.plain rfl rfl fun aq wq hNq hO hR hT => by
  obtain ⟨x0, x1, x2, hv, k0, k1, k2⟩ := (hT 63 rfl rfl)
  exact does_extract hv rfl ⟨Ext.refl _, k1⟩
 exact Ask.plain rfl rfl fun aq wq hNq hO hR hT => by
  obtain ⟨x0, x1, x2, hv, k0, k1, k2⟩ := (hT 63 rfl rfl)
  exact does_extract (V := i64 ((0 : Nat) : Int)) hv (by rw [show x2 = i64 ((0 : Nat) : Int) from k2]; rfl) ⟨Ext.refl _, rfl⟩
 intro a19 wd19 hN_19 hD_19 hO hR hA hU
 obtain ⟨_, _, _, _, t67, t68, t69, _⟩ := hA
 have hE_19 := hE_17.trans hR
 have s4_19 := (hO 4 rfl).trans s4_18
 have s5_19 := (hO 5 rfl).trans s5_18
 have s7_19 := (hO 7 rfl).trans s7_18
 have s8_19 := (hO 8 rfl).trans s8_18
 have s9_19 := (hO 9 rfl).trans s9_18
 have s12_19 := (hO 12 rfl).trans s12_18
 have s15_19 := (hO 15 rfl).trans s15_18
 have s16_19 := (hO 16 rfl).trans s16_18
 have s17_19 := (hO 17 rfl).trans s17_18
 have s18_19 := (hO 18 rfl).trans s18_18
 have s19_19 := (hO 19 rfl).trans s19_18
 have hbb3_19 := hbb3_17.ext' hR
 have hbb4_19 := hbb4_17.ext' hR
 have hbb5_19 := hbb5_17.ext' hR
 have hbb9_19 := hbb9_17.ext' hR
 have hbb11_19 := hbb11_17.ext' hR
 have hbb14_19 := hbb14_17.ext' hR
 have hbb16_19 := hbb16_17.ext' hR
 have hbb18_19 := hbb18_17.ext' hR
 have hsx7_19 := hsx7_17.ext' hR
 have hsx8_19 := hsx8_17.ext' hR
 have hsx61_0_14_19 := hsx61_0_14_17.ext' hR
 have hsx61_1_14_19 := hsx61_1_14_17.ext' hR
 have hox7_19 := hox7_17.ext' hR
 have hox8_19 := hox8_17.ext' hR
 have hox61_0_14_19 := hox61_0_14_17.ext' hR
 have hox61_1_14_19 := hox61_1_14_17.ext' hR
 have s67_19 : get a19 67 = Value.agg #[w32 (seed).a, w32 (seed).b, w32 (seed).c, w32 (seed).d, i64 ((1 : Nat) : Int), i64 ((2 : Nat) : Int)] := t67
 obtain ⟨x68_0_19, x68_1_19, s68_19, ky68_0_19, ky68_1_19⟩ := t68
 replace ky68_0_19 : OwnT DG wd17.heap.size 24 (signed (seedAt seed 1) b) x68_0_19 wd19 := ky68_0_19
 have nbo_x68_0_19_b3 : x68_0_19.ownBlock ≠ some b3 := fun e => Nat.lt_irrefl _ (Nat.lt_of_lt_of_le hbb3_17.lt (OwnT.block_lt ky68_0_19 e).1)
 have nbo_x68_0_19_b4 : x68_0_19.ownBlock ≠ some b4 := fun e => Nat.lt_irrefl _ (Nat.lt_of_lt_of_le hbb4_17.lt (OwnT.block_lt ky68_0_19 e).1)
 have nbo_x68_0_19_b5 : x68_0_19.ownBlock ≠ some b5 := fun e => Nat.lt_irrefl _ (Nat.lt_of_lt_of_le hbb5_17.lt (OwnT.block_lt ky68_0_19 e).1)
 have nbo_x68_0_19_b9 : x68_0_19.ownBlock ≠ some b9 := fun e => Nat.lt_irrefl _ (Nat.lt_of_lt_of_le hbb9_17.lt (OwnT.block_lt ky68_0_19 e).1)
 have nbo_x68_0_19_b11 : x68_0_19.ownBlock ≠ some b11 := fun e => Nat.lt_irrefl _ (Nat.lt_of_lt_of_le hbb11_17.lt (OwnT.block_lt ky68_0_19 e).1)
 have nbo_x68_0_19_b14 : x68_0_19.ownBlock ≠ some b14 := fun e => Nat.lt_irrefl _ (Nat.lt_of_lt_of_le hbb14_17.lt (OwnT.block_lt ky68_0_19 e).1)
 have nbo_x68_0_19_b16 : x68_0_19.ownBlock ≠ some b16 := fun e => Nat.lt_irrefl _ (Nat.lt_of_lt_of_le hbb16_17.lt (OwnT.block_lt ky68_0_19 e).1)
 have nbo_x68_0_19_b18 : x68_0_19.ownBlock ≠ some b18 := fun e => Nat.lt_irrefl _ (Nat.lt_of_lt_of_le hbb18_17.lt (OwnT.block_lt ky68_0_19 e).1)
 have no_x68_0_19_x7 : ∀ k, x68_0_19.ownBlock = some k → x7.ownBlock ≠ some k := fun k e e' => Nat.lt_irrefl _ (Nat.lt_of_lt_of_le (OwnT.block_lt hox7_17 e').2 (OwnT.block_lt ky68_0_19 e).1)
 have no_x68_0_19_x8 : ∀ k, x68_0_19.ownBlock = some k → x8.ownBlock ≠ some k := fun k e e' => Nat.lt_irrefl _ (Nat.lt_of_lt_of_le (OwnT.block_lt hox8_17 e').2 (OwnT.block_lt ky68_0_19 e).1)
 have no_x68_0_19_x61_0_14 : ∀ k, x68_0_19.ownBlock = some k → x61_0_14.ownBlock ≠ some k := fun k e e' => Nat.lt_irrefl _ (Nat.lt_of_lt_of_le (OwnT.block_lt hox61_0_14_17 e').2 (OwnT.block_lt ky68_0_19 e).1)
 have no_x68_0_19_x61_1_14 : ∀ k, x68_0_19.ownBlock = some k → x61_1_14.ownBlock ≠ some k := fun k e e' => Nat.lt_irrefl _ (Nat.lt_of_lt_of_le (OwnT.block_lt hox61_1_14_17 e').2 (OwnT.block_lt ky68_0_19 e).1)
 have hsx68_0_19_19 := ky68_0_19.sl.wide (Nat.zero_le _) (.inl rfl)
 have hox68_0_19_19 := OwnT.base ky68_0_19 hE_17.size'
 replace ky68_1_19 : OwnT DG wd17.heap.size 24 (way (publics seed (pw 1)) 1) x68_1_19 wd19 := ky68_1_19
 have nbo_x68_1_19_b3 : x68_1_19.ownBlock ≠ some b3 := fun e => Nat.lt_irrefl _ (Nat.lt_of_lt_of_le hbb3_17.lt (OwnT.block_lt ky68_1_19 e).1)
 have nbo_x68_1_19_b4 : x68_1_19.ownBlock ≠ some b4 := fun e => Nat.lt_irrefl _ (Nat.lt_of_lt_of_le hbb4_17.lt (OwnT.block_lt ky68_1_19 e).1)
 have nbo_x68_1_19_b5 : x68_1_19.ownBlock ≠ some b5 := fun e => Nat.lt_irrefl _ (Nat.lt_of_lt_of_le hbb5_17.lt (OwnT.block_lt ky68_1_19 e).1)
 have nbo_x68_1_19_b9 : x68_1_19.ownBlock ≠ some b9 := fun e => Nat.lt_irrefl _ (Nat.lt_of_lt_of_le hbb9_17.lt (OwnT.block_lt ky68_1_19 e).1)
 have nbo_x68_1_19_b11 : x68_1_19.ownBlock ≠ some b11 := fun e => Nat.lt_irrefl _ (Nat.lt_of_lt_of_le hbb11_17.lt (OwnT.block_lt ky68_1_19 e).1)
 have nbo_x68_1_19_b14 : x68_1_19.ownBlock ≠ some b14 := fun e => Nat.lt_irrefl _ (Nat.lt_of_lt_of_le hbb14_17.lt (OwnT.block_lt ky68_1_19 e).1)
 have nbo_x68_1_19_b16 : x68_1_19.ownBlock ≠ some b16 := fun e => Nat.lt_irrefl _ (Nat.lt_of_lt_of_le hbb16_17.lt (OwnT.block_lt ky68_1_19 e).1)
 have nbo_x68_1_19_b18 : x68_1_19.ownBlock ≠ some b18 := fun e => Nat.lt_irrefl _ (Nat.lt_of_lt_of_le hbb18_17.lt (OwnT.block_lt ky68_1_19 e).1)
 have no_x68_1_19_x7 : ∀ k, x68_1_19.ownBlock = some k → x7.ownBlock ≠ some k := fun k e e' => Nat.lt_irrefl _ (Nat.lt_of_lt_of_le (OwnT.block_lt hox7_17 e').2 (OwnT.block_lt ky68_1_19 e).1)
 have no_x68_1_19_x8 : ∀ k, x68_1_19.ownBlock = some k → x8.ownBlock ≠ some k := fun k e e' => Nat.lt_irrefl _ (Nat.lt_of_lt_of_le (OwnT.block_lt hox8_17 e').2 (OwnT.block_lt ky68_1_19 e).1)
 have no_x68_1_19_x61_0_14 : ∀ k, x68_1_19.ownBlock = some k → x61_0_14.ownBlock ≠ some k := fun k e e' => Nat.lt_irrefl _ (Nat.lt_of_lt_of_le (OwnT.block_lt hox61_0_14_17 e').2 (OwnT.block_lt ky68_1_19 e).1)
 have no_x68_1_19_x61_1_14 : ∀ k, x68_1_19.ownBlock = some k → x61_1_14.ownBlock ≠ some k := fun k e e' => Nat.lt_irrefl _ (Nat.lt_of_lt_of_le (OwnT.block_lt hox61_1_14_17 e').2 (OwnT.block_lt ky68_1_19 e).1)
 have hsx68_1_19_19 := ky68_1_19.sl.wide (Nat.zero_le _) (.inl rfl)
 have hox68_1_19_19 := OwnT.base ky68_1_19 hE_17.size'
 have s69_19 : get a19 69 = i64 ((0 : Nat) : Int) := t69
 clear hE_17 hN_18 hD_18 s4_18 s5_18 s7_18 s8_18 s9_18 s12_18 s15_18 s16_18 s17_18 s18_18 s19_18 hbb3_17 hbb4_17 hbb5_17 hbb9_17 hbb11_17 hbb14_17 hbb16_17 hbb18_17 hsx7_17 hsx8_17 hsx61_0_14_17 hsx61_1_14_17 hox7_17 hox8_17 hox61_0_14_17 hox61_1_14_17
 refine tail_put rfl rfl hN_19 hD_19 (by decide) (does_alloc zero_37 (fun b20 wd20 he lo_b20 hbb20_20 => fun a20 hN_20 hD_20 hv hO => ?_))
 have s20_20 := hv
 have hE_20 := hE_19.trans he
 have hbb3_20 := hbb3_19.ext' he
 have hbb4_20 := hbb4_19.ext' he
 have hbb5_20 := hbb5_19.ext' he
 have hbb9_20 := hbb9_19.ext' he
 have hbb11_20 := hbb11_19.ext' he
 have hbb14_20 := hbb14_19.ext' he
 have hbb16_20 := hbb16_19.ext' he
 have hbb18_20 := hbb18_19.ext' he
 have hsx7_20 := hsx7_19.ext' he
 have hsx8_20 := hsx8_19.ext' he
 have hsx61_0_14_20 := hsx61_0_14_19.ext' he
 have hsx61_1_14_20 := hsx61_1_14_19.ext' he
 have hsx68_0_19_20 := hsx68_0_19_19.ext' he
 have hsx68_1_19_20 := hsx68_1_19_19.ext' he
 have hox7_20 := hox7_19.ext' he
 have hox8_20 := hox8_19.ext' he
 have hox61_0_14_20 := hox61_0_14_19.ext' he
 have hox61_1_14_20 := hox61_1_14_19.ext' he
 have hox68_0_19_20 := hox68_0_19_19.ext' he
 have hox68_1_19_20 := hox68_1_19_19.ext' he
 have fr_b20 : w0.heap.size ≤ b20 := Nat.le_trans hE_19.size' lo_b20
 have ne_b3_b20 : b3 ≠ b20 := fun e => Nat.lt_irrefl _ (Nat.lt_of_lt_of_le hbb3_19.lt (e ▸ lo_b20))
 have ne_b4_b20 : b4 ≠ b20 := fun e => Nat.lt_irrefl _ (Nat.lt_of_lt_of_le hbb4_19.lt (e ▸ lo_b20))
 have ne_b5_b20 : b5 ≠ b20 := fun e => Nat.lt_irrefl _ (Nat.lt_of_lt_of_le hbb5_19.lt (e ▸ lo_b20))
 have ne_b9_b20 : b9 ≠ b20 := fun e => Nat.lt_irrefl _ (Nat.lt_of_lt_of_le hbb9_19.lt (e ▸ lo_b20))
 have ne_b11_b20 : b11 ≠ b20 := fun e => Nat.lt_irrefl _ (Nat.lt_of_lt_of_le hbb11_19.lt (e ▸ lo_b20))
 have ne_b14_b20 : b14 ≠ b20 := fun e => Nat.lt_irrefl _ (Nat.lt_of_lt_of_le hbb14_19.lt (e ▸ lo_b20))
 have ne_b16_b20 : b16 ≠ b20 := fun e => Nat.lt_irrefl _ (Nat.lt_of_lt_of_le hbb16_19.lt (e ▸ lo_b20))
 have ne_b18_b20 : b18 ≠ b20 := fun e => Nat.lt_irrefl _ (Nat.lt_of_lt_of_le hbb18_19.lt (e ▸ lo_b20))
 have nb_x7_b20 := SlT.old hsx7_19 lo_b20
 have nb_x8_b20 := SlT.old hsx8_19 lo_b20
 have nb_x61_0_14_b20 := SlT.old hsx61_0_14_19 lo_b20
 have nb_x61_1_14_b20 := SlT.old hsx61_1_14_19 lo_b20
 have nb_x68_0_19_b20 := SlT.old hsx68_0_19_19 lo_b20
 have nb_x68_1_19_b20 := SlT.old hsx68_1_19_19 lo_b20
 have nbo_x7_b20 : x7.ownBlock ≠ some b20 := fun e => Nat.lt_irrefl _ (Nat.lt_of_lt_of_le (OwnT.block_lt hox7_19 e).2 lo_b20)
 have nbo_x8_b20 : x8.ownBlock ≠ some b20 := fun e => Nat.lt_irrefl _ (Nat.lt_of_lt_of_le (OwnT.block_lt hox8_19 e).2 lo_b20)
 have nbo_x61_0_14_b20 : x61_0_14.ownBlock ≠ some b20 := fun e => Nat.lt_irrefl _ (Nat.lt_of_lt_of_le (OwnT.block_lt hox61_0_14_19 e).2 lo_b20)
 have nbo_x61_1_14_b20 : x61_1_14.ownBlock ≠ some b20 := fun e => Nat.lt_irrefl _ (Nat.lt_of_lt_of_le (OwnT.block_lt hox61_1_14_19 e).2 lo_b20)
 have nbo_x68_0_19_b20 : x68_0_19.ownBlock ≠ some b20 := fun e => Nat.lt_irrefl _ (Nat.lt_of_lt_of_le (OwnT.block_lt hox68_0_19_19 e).2 lo_b20)
 have nbo_x68_1_19_b20 : x68_1_19.ownBlock ≠ some b20 := fun e => Nat.lt_irrefl _ (Nat.lt_of_lt_of_le (OwnT.block_lt hox68_1_19_19 e).2 lo_b20)
 have s4_20 := (hO 4 rfl).trans s4_19
 have s5_20 := (hO 5 rfl).trans s5_19
 have s7_20 := (hO 7 rfl).trans s7_19
 have s8_20 := (hO 8 rfl).trans s8_19
 have s9_20 := (hO 9 rfl).trans s9_19
 have s12_20 := (hO 12 rfl).trans s12_19
 have s15_20 := (hO 15 rfl).trans s15_19
 have s16_20 := (hO 16 rfl).trans s16_19
 have s17_20 := (hO 17 rfl).trans s17_19
 have s18_20 := (hO 18 rfl).trans s18_19
 have s19_20 := (hO 19 rfl).trans s19_19
 have s67_20 := (hO 67 rfl).trans s67_19
 have s68_20 := (hO 68 rfl).trans s68_19
 have s69_20 := (hO 69 rfl).trans s69_19
 clear hO hv hN_19 hD_19 hE_19 hbb3_19 hbb4_19 hbb5_19 hbb9_19 hbb11_19 hbb14_19 hbb16_19 hbb18_19 hsx7_19 hsx8_19 hsx61_0_14_19 hsx61_1_14_19 hsx68_0_19_19 hsx68_1_19_19 hox7_19 hox8_19 hox61_0_14_19 hox61_1_14_19 hox68_0_19_19 hox68_1_19_19 s4_19 s5_19 s7_19 s8_19 s9_19 s12_19 s15_19 s16_19 s17_19 s18_19 s19_19 s67_19 s68_19 s69_19
 refine tail_none rfl rfl (does_storeD (o := 0) (n := 6) (cs' := [w32 (seed).a, w32 (seed).b, w32 (seed).c, w32 (seed).d, i64 ((1 : Nat) : Int), i64 ((2 : Nat) : Int)]) (V := Value.agg #[w32 (seed).a, w32 (seed).b, w32 (seed).c, w32 (seed).d, i64 ((1 : Nat) : Int), i64 ((2 : Nat) : Int)]) s16_20 s67_20 hbb16_20 (Nat.le_of_ble_eq_true rfl) rfl siz_30 rfl rfl (fun wd21 hX hz hbb16_21 => ?_))
 have hE_21 := hE_20.since hX (fun k e => e ▸ fr_b16)
 have hbb3_21 := hbb3_20.ext hX ne_b3_b16
 have hbb4_21 := hbb4_20.ext hX ne_b4_b16
 have hbb5_21 := hbb5_20.ext hX ne_b5_b16
 have hbb9_21 := hbb9_20.ext hX ne_b9_b16
 have hbb11_21 := hbb11_20.ext hX ne_b11_b16
 have hbb14_21 := hbb14_20.ext hX ne_b14_b16
 have hbb18_21 := hbb18_20.ext hX ne_b16_b18.symm
 have hbb20_21 := hbb20_20.ext hX ne_b16_b20.symm
 have hsx7_21 := SlT.over hsx7_20 hX nb_x7_b16
 have hsx8_21 := SlT.over hsx8_20 hX nb_x8_b16
 have hsx61_0_14_21 := SlT.over hsx61_0_14_20 hX (fun _ => nbo_x61_0_14_b16)
 have hsx61_1_14_21 := SlT.over hsx61_1_14_20 hX (fun _ => nbo_x61_1_14_b16)
 have hsx68_0_19_21 := SlT.over hsx68_0_19_20 hX (fun _ => nbo_x68_0_19_b16)
 have hsx68_1_19_21 := SlT.over hsx68_1_19_20 hX (fun _ => nbo_x68_1_19_b16)
 have hox7_21 := OwnT.ext hox7_20 hX (fun k hk e => nbo_x7_b16 (e ▸ hk))
 have hox8_21 := OwnT.ext hox8_20 hX (fun k hk e => nbo_x8_b16 (e ▸ hk))
 have hox61_0_14_21 := OwnT.ext hox61_0_14_20 hX (fun k hk e => nbo_x61_0_14_b16 (e ▸ hk))
 have hox61_1_14_21 := OwnT.ext hox61_1_14_20 hX (fun k hk e => nbo_x61_1_14_b16 (e ▸ hk))
 have hox68_0_19_21 := OwnT.ext hox68_0_19_20 hX (fun k hk e => nbo_x68_0_19_b16 (e ▸ hk))
 have hox68_1_19_21 := OwnT.ext hox68_1_19_20 hX (fun k hk e => nbo_x68_1_19_b16 (e ▸ hk))
 clear hX hz hE_20 hbb3_20 hbb4_20 hbb5_20 hbb9_20 hbb11_20 hbb14_20 hbb16_20 hbb18_20 hbb20_20 hsx7_20 hsx8_20 hsx61_0_14_20 hsx61_1_14_20 hsx68_0_19_20 hsx68_1_19_20 hox7_20 hox8_20 hox61_0_14_20 hox61_1_14_20 hox68_0_19_20 hox68_1_19_20
 refine tail_none rfl rfl (does_storeD (o := 0) (n := 3) (cs' := [i64 ((1 : Nat) : Int), x68_0_19, x68_1_19]) (V := Value.agg #[i64 ((1 : Nat) : Int), x68_0_19, x68_1_19]) s20_20 s68_20 hbb20_21 (Nat.le_of_ble_eq_true rfl) rfl siz_37 (one_cons rfl (one_cons (SlT.one hsx68_0_19_21) (one_cons (SlT.one hsx68_1_19_21) one_nil))) rfl (fun wd22 hX hz hbb20_22 => ?_))
 have hE_22 := hE_21.since hX (fun k e => e ▸ fr_b20)
 have hbb3_22 := hbb3_21.ext hX ne_b3_b20
 have hbb4_22 := hbb4_21.ext hX ne_b4_b20
 have hbb5_22 := hbb5_21.ext hX ne_b5_b20
 have hbb9_22 := hbb9_21.ext hX ne_b9_b20
 have hbb11_22 := hbb11_21.ext hX ne_b11_b20
 have hbb14_22 := hbb14_21.ext hX ne_b14_b20
 have hbb16_22 := hbb16_21.ext hX ne_b16_b20
 have hbb18_22 := hbb18_21.ext hX ne_b18_b20
 have hsx7_22 := SlT.over hsx7_21 hX nb_x7_b20
 have hsx8_22 := SlT.over hsx8_21 hX nb_x8_b20
 have hsx61_0_14_22 := SlT.over hsx61_0_14_21 hX nb_x61_0_14_b20
 have hsx61_1_14_22 := SlT.over hsx61_1_14_21 hX nb_x61_1_14_b20
 have hsx68_0_19_22 := SlT.over hsx68_0_19_21 hX nb_x68_0_19_b20
 have hsx68_1_19_22 := SlT.over hsx68_1_19_21 hX nb_x68_1_19_b20
 have hox7_22 := OwnT.ext hox7_21 hX (fun k hk e => nbo_x7_b20 (e ▸ hk))
 have hox8_22 := OwnT.ext hox8_21 hX (fun k hk e => nbo_x8_b20 (e ▸ hk))
 have hox61_0_14_22 := OwnT.ext hox61_0_14_21 hX (fun k hk e => nbo_x61_0_14_b20 (e ▸ hk))
 have hox61_1_14_22 := OwnT.ext hox61_1_14_21 hX (fun k hk e => nbo_x61_1_14_b20 (e ▸ hk))
 have hox68_0_19_22 := OwnT.ext hox68_0_19_21 hX (fun k hk e => nbo_x68_0_19_b20 (e ▸ hk))
 have hox68_1_19_22 := OwnT.ext hox68_1_19_21 hX (fun k hk e => nbo_x68_1_19_b20 (e ▸ hk))
 clear hX hz hE_21 hbb3_21 hbb4_21 hbb5_21 hbb9_21 hbb11_21 hbb14_21 hbb16_21 hbb18_21 hbb20_21 hsx7_21 hsx8_21 hsx61_0_14_21 hsx61_1_14_21 hsx68_0_19_21 hsx68_1_19_21 hox7_21 hox8_21 hox61_0_14_21 hox61_1_14_21 hox68_0_19_21 hox68_1_19_21
 refine tail_put rfl rfl hN_20 hD_20 (by decide) (does_assign (V := i64 ((0 : Nat) : Int)) s69_20 (fun a23 hN_23 hD_23 hv hO => ?_))
 have s21_23 := hv
 have s4_23 := (hO 4 rfl).trans s4_20
 have s5_23 := (hO 5 rfl).trans s5_20
 have s7_23 := (hO 7 rfl).trans s7_20
 have s8_23 := (hO 8 rfl).trans s8_20
 have s9_23 := (hO 9 rfl).trans s9_20
 have s12_23 := (hO 12 rfl).trans s12_20
 have s15_23 := (hO 15 rfl).trans s15_20
 have s16_23 := (hO 16 rfl).trans s16_20
 have s17_23 := (hO 17 rfl).trans s17_20
 have s18_23 := (hO 18 rfl).trans s18_20
 have s19_23 := (hO 19 rfl).trans s19_20
 have s20_23 := (hO 20 rfl).trans s20_20
 clear hO hv hN_20 hD_20 s4_20 s5_20 s7_20 s8_20 s9_20 s12_20 s15_20 s16_20 s17_20 s18_20 s19_20 s20_20 s67_20 s68_20 s69_20
 refine tail_nil ?_
 refine wp_seq ?_
 refine region_lex [] [(71, Pr.ex (Value.agg #[w32 (seed).a, w32 (seed).b, w32 (seed).c, w32 (seed).d, i64 ((1 : Nat) : Int), i64 ((2 : Nat) : Int)])), (72, Pr.ex (Dg.val (a))), (73, Pr.t3 (Pr.ex (Value.agg #[w32 ((keyUse seed (((1 : Nat) : Int)) (((2 : Nat) : Int)) a).1).a, w32 ((keyUse seed (((1 : Nat) : Int)) (((2 : Nat) : Int)) a).1).b, w32 ((keyUse seed (((1 : Nat) : Int)) (((2 : Nat) : Int)) a).1).c, w32 ((keyUse seed (((1 : Nat) : Int)) (((2 : Nat) : Int)) a).1).d, i64 ((keyUse seed (((1 : Nat) : Int)) (((2 : Nat) : Int)) a).2.1), i64 ((keyUse seed (((1 : Nat) : Int)) (((2 : Nat) : Int)) a).2.2.1)])) (Pr.ag2 (fun x y => Value.agg #[i64 ((keyUse seed (((1 : Nat) : Int)) (((2 : Nat) : Int)) a).2.2.2.1), x, y]) (Pr.own' DG wd22.heap.size 24 ((keyUse seed (((1 : Nat) : Int)) (((2 : Nat) : Int)) a).2.2.2.2.1)) (Pr.own' DG wd22.heap.size 24 ((keyUse seed (((1 : Nat) : Int)) (((2 : Nat) : Int)) a).2.2.2.2.2.1))) (Pr.ex (i64 (((keyUse seed (((1 : Nat) : Int)) (((2 : Nat) : Int)) a).2.2.2.2.2.2 : Nat) : Int)))), (70, Pr.t3 (Pr.ex (Value.agg #[w32 ((keyUse seed (((1 : Nat) : Int)) (((2 : Nat) : Int)) a).1).a, w32 ((keyUse seed (((1 : Nat) : Int)) (((2 : Nat) : Int)) a).1).b, w32 ((keyUse seed (((1 : Nat) : Int)) (((2 : Nat) : Int)) a).1).c, w32 ((keyUse seed (((1 : Nat) : Int)) (((2 : Nat) : Int)) a).1).d, i64 ((keyUse seed (((1 : Nat) : Int)) (((2 : Nat) : Int)) a).2.1), i64 ((keyUse seed (((1 : Nat) : Int)) (((2 : Nat) : Int)) a).2.2.1)])) (Pr.ag2 (fun x y => Value.agg #[i64 ((keyUse seed (((1 : Nat) : Int)) (((2 : Nat) : Int)) a).2.2.2.1), x, y]) (Pr.own' DG wd22.heap.size 24 ((keyUse seed (((1 : Nat) : Int)) (((2 : Nat) : Int)) a).2.2.2.2.1)) (Pr.own' DG wd22.heap.size 24 ((keyUse seed (((1 : Nat) : Int)) (((2 : Nat) : Int)) a).2.2.2.2.2.1))) (Pr.ex (i64 (((keyUse seed (((1 : Nat) : Int)) (((2 : Nat) : Int)) a).2.2.2.2.2.2 : Nat) : Int)))), (74, Pr.ex (Value.agg #[w32 ((keyUse seed (((1 : Nat) : Int)) (((2 : Nat) : Int)) a).1).a, w32 ((keyUse seed (((1 : Nat) : Int)) (((2 : Nat) : Int)) a).1).b, w32 ((keyUse seed (((1 : Nat) : Int)) (((2 : Nat) : Int)) a).1).c, w32 ((keyUse seed (((1 : Nat) : Int)) (((2 : Nat) : Int)) a).1).d, i64 ((keyUse seed (((1 : Nat) : Int)) (((2 : Nat) : Int)) a).2.1), i64 ((keyUse seed (((1 : Nat) : Int)) (((2 : Nat) : Int)) a).2.2.1)])), (75, Pr.ag2 (fun x y => Value.agg #[i64 ((keyUse seed (((1 : Nat) : Int)) (((2 : Nat) : Int)) a).2.2.2.1), x, y]) (Pr.own' DG wd22.heap.size 24 ((keyUse seed (((1 : Nat) : Int)) (((2 : Nat) : Int)) a).2.2.2.2.1)) (Pr.own' DG wd22.heap.size 24 ((keyUse seed (((1 : Nat) : Int)) (((2 : Nat) : Int)) a).2.2.2.2.2.1))), (76, Pr.ex (i64 (((keyUse seed (((1 : Nat) : Int)) (((2 : Nat) : Int)) a).2.2.2.2.2.2 : Nat) : Int)))] 7 hN_23 hD_23 (by kernel_rfl) (by kernel_rfl) ?_ ?_
 refine Asks.cons ?_ (Asks.cons ?_ (Asks.cons ?_ (Asks.cons ?_ (Asks.cons ?_ (Asks.cons ?_ (Asks.cons ?_ (Asks.zero _)))))))
 exact Ask.plain rfl rfl fun aq wq hNq hO hR hT => does_loadD (o := 0) (n := 6) (mid := [w32 (seed).a, w32 (seed).b, w32 (seed).c, w32 (seed).d, i64 ((1 : Nat) : Int), i64 ((2 : Nat) : Int)]) ((hO 16 rfl).trans s16_23) (hbb16_22.ext' hR) rfl rfl (Nat.le_of_ble_eq_true rfl) row_30 rfl ⟨Ext.refl _, rfl⟩
 exact Ask.plain rfl rfl fun aq wq hNq hO hR hT => does_loadD (o := 0) (n := 4) (mid := [w32 (a).a, w32 (a).b, w32 (a).c, w32 (a).d]) ((hO 4 rfl).trans s4_23) (hbb4_22.ext' hR) rfl rfl (Nat.le_of_ble_eq_true rfl) row_24 rfl ⟨Ext.refl _, rfl⟩
 exact Ask.plain rfl rfl fun aq wq hNq hO hR hT => does_ret (vs := #[Value.agg #[w32 (seed).a, w32 (seed).b, w32 (seed).c, w32 (seed).d, i64 ((1 : Nat) : Int), i64 ((2 : Nat) : Int)], Dg.val (a)]) call_11 (args2 (hT 71 rfl rfl) (hT 72 rfl rfl)) rfl ((keyUse_ seed (((1 : Nat) : Int)) (((2 : Nat) : Int)) a wq (hL.ext (hE_22.trans hR))).mono fun v w2 h => ⟨h.2, by obtain ⟨x0, x1, x2, hv, k0, k1, k2⟩ := h.1; exact ⟨x0, x1, x2, hv, k0, (by obtain ⟨z0, z1, hz, kz0, kz1⟩ := k1; exact ⟨z0, z1, hz, OwnT.base kz0 hR.size', OwnT.base kz1 hR.size'⟩), k2⟩⟩)
 exact Ask.plain rfl rfl fun aq wq hNq hO hR hT => does_move rfl ⟨Ext.refl _, (hT 73 rfl rfl)⟩
 exact Ask.plain rfl rfl fun aq wq hNq hO hR hT => by
  obtain ⟨x0, x1, x2, hv, k0, k1, k2⟩ := (hT 70 rfl rfl)
  exact does_extract (V := Value.agg #[w32 ((keyUse seed (((1 : Nat) : Int)) (((2 : Nat) : Int)) a).1).a, w32 ((keyUse seed (((1 : Nat) : Int)) (((2 : Nat) : Int)) a).1).b, w32 ((keyUse seed (((1 : Nat) : Int)) (((2 : Nat) : Int)) a).1).c, w32 ((keyUse seed (((1 : Nat) : Int)) (((2 : Nat) : Int)) a).1).d, i64 ((keyUse seed (((1 : Nat) : Int)) (((2 : Nat) : Int)) a).2.1), i64 ((keyUse seed (((1 : Nat) : Int)) (((2 : Nat) : Int)) a).2.2.1)]) hv (by rw [show x0 = Value.agg #[w32 ((keyUse seed (((1 : Nat) : Int)) (((2 : Nat) : Int)) a).1).a, w32 ((keyUse seed (((1 : Nat) : Int)) (((2 : Nat) : Int)) a).1).b, w32 ((keyUse seed (((1 : Nat) : Int)) (((2 : Nat) : Int)) a).1).c, w32 ((keyUse seed (((1 : Nat) : Int)) (((2 : Nat) : Int)) a).1).d, i64 ((keyUse seed (((1 : Nat) : Int)) (((2 : Nat) : Int)) a).2.1), i64 ((keyUse seed (((1 : Nat) : Int)) (((2 : Nat) : Int)) a).2.2.1)] from k0]; rfl) ⟨Ext.refl _, rfl⟩
 exact Ask.plain rfl rfl fun aq wq hNq hO hR hT => by
  obtain ⟨x0, x1, x2, hv, k0, k1, k2⟩ := (hT 70 rfl rfl)
  exact does_extract hv rfl ⟨Ext.refl _, k1⟩
 exact Ask.plain rfl rfl fun aq wq hNq hO hR hT => by
  obtain ⟨x0, x1, x2, hv, k0, k1, k2⟩ := (hT 70 rfl rfl)
  exact does_extract (V := i64 (((keyUse seed (((1 : Nat) : Int)) (((2 : Nat) : Int)) a).2.2.2.2.2.2 : Nat) : Int)) hv (by rw [show x2 = i64 (((keyUse seed (((1 : Nat) : Int)) (((2 : Nat) : Int)) a).2.2.2.2.2.2 : Nat) : Int) from k2]; rfl) ⟨Ext.refl _, rfl⟩
 intro a24 wd24 hN_24 hD_24 hO hR hA hU
 obtain ⟨_, _, _, _, t74, t75, t76, _⟩ := hA
 have hE_24 := hE_22.trans hR
 have s4_24 := (hO 4 rfl).trans s4_23
 have s5_24 := (hO 5 rfl).trans s5_23
 have s7_24 := (hO 7 rfl).trans s7_23
 have s8_24 := (hO 8 rfl).trans s8_23
 have s9_24 := (hO 9 rfl).trans s9_23
 have s12_24 := (hO 12 rfl).trans s12_23
 have s15_24 := (hO 15 rfl).trans s15_23
 have s17_24 := (hO 17 rfl).trans s17_23
 have s18_24 := (hO 18 rfl).trans s18_23
 have s19_24 := (hO 19 rfl).trans s19_23
 have s20_24 := (hO 20 rfl).trans s20_23
 have s21_24 := (hO 21 rfl).trans s21_23
 have hbb3_24 := hbb3_22.ext' hR
 have hbb4_24 := hbb4_22.ext' hR
 have hbb5_24 := hbb5_22.ext' hR
 have hbb9_24 := hbb9_22.ext' hR
 have hbb11_24 := hbb11_22.ext' hR
 have hbb14_24 := hbb14_22.ext' hR
 have hbb16_24 := hbb16_22.ext' hR
 have hbb18_24 := hbb18_22.ext' hR
 have hbb20_24 := hbb20_22.ext' hR
 have hsx7_24 := hsx7_22.ext' hR
 have hsx8_24 := hsx8_22.ext' hR
 have hsx61_0_14_24 := hsx61_0_14_22.ext' hR
 have hsx61_1_14_24 := hsx61_1_14_22.ext' hR
 have hsx68_0_19_24 := hsx68_0_19_22.ext' hR
 have hsx68_1_19_24 := hsx68_1_19_22.ext' hR
 have hox7_24 := hox7_22.ext' hR
 have hox8_24 := hox8_22.ext' hR
 have hox61_0_14_24 := hox61_0_14_22.ext' hR
 have hox61_1_14_24 := hox61_1_14_22.ext' hR
 have hox68_0_19_24 := hox68_0_19_22.ext' hR
 have hox68_1_19_24 := hox68_1_19_22.ext' hR
 have s74_24 : get a24 74 = Value.agg #[w32 ((keyUse seed (((1 : Nat) : Int)) (((2 : Nat) : Int)) a).1).a, w32 ((keyUse seed (((1 : Nat) : Int)) (((2 : Nat) : Int)) a).1).b, w32 ((keyUse seed (((1 : Nat) : Int)) (((2 : Nat) : Int)) a).1).c, w32 ((keyUse seed (((1 : Nat) : Int)) (((2 : Nat) : Int)) a).1).d, i64 ((keyUse seed (((1 : Nat) : Int)) (((2 : Nat) : Int)) a).2.1), i64 ((keyUse seed (((1 : Nat) : Int)) (((2 : Nat) : Int)) a).2.2.1)] := t74
 obtain ⟨x75_0_24, x75_1_24, s75_24, ky75_0_24, ky75_1_24⟩ := t75
 replace ky75_0_24 : OwnT DG wd22.heap.size 24 ((keyUse seed (((1 : Nat) : Int)) (((2 : Nat) : Int)) a).2.2.2.2.1) x75_0_24 wd24 := ky75_0_24
 have nbo_x75_0_24_b3 : x75_0_24.ownBlock ≠ some b3 := fun e => Nat.lt_irrefl _ (Nat.lt_of_lt_of_le hbb3_22.lt (OwnT.block_lt ky75_0_24 e).1)
 have nbo_x75_0_24_b4 : x75_0_24.ownBlock ≠ some b4 := fun e => Nat.lt_irrefl _ (Nat.lt_of_lt_of_le hbb4_22.lt (OwnT.block_lt ky75_0_24 e).1)
 have nbo_x75_0_24_b5 : x75_0_24.ownBlock ≠ some b5 := fun e => Nat.lt_irrefl _ (Nat.lt_of_lt_of_le hbb5_22.lt (OwnT.block_lt ky75_0_24 e).1)
 have nbo_x75_0_24_b9 : x75_0_24.ownBlock ≠ some b9 := fun e => Nat.lt_irrefl _ (Nat.lt_of_lt_of_le hbb9_22.lt (OwnT.block_lt ky75_0_24 e).1)
 have nbo_x75_0_24_b11 : x75_0_24.ownBlock ≠ some b11 := fun e => Nat.lt_irrefl _ (Nat.lt_of_lt_of_le hbb11_22.lt (OwnT.block_lt ky75_0_24 e).1)
 have nbo_x75_0_24_b14 : x75_0_24.ownBlock ≠ some b14 := fun e => Nat.lt_irrefl _ (Nat.lt_of_lt_of_le hbb14_22.lt (OwnT.block_lt ky75_0_24 e).1)
 have nbo_x75_0_24_b16 : x75_0_24.ownBlock ≠ some b16 := fun e => Nat.lt_irrefl _ (Nat.lt_of_lt_of_le hbb16_22.lt (OwnT.block_lt ky75_0_24 e).1)
 have nbo_x75_0_24_b18 : x75_0_24.ownBlock ≠ some b18 := fun e => Nat.lt_irrefl _ (Nat.lt_of_lt_of_le hbb18_22.lt (OwnT.block_lt ky75_0_24 e).1)
 have nbo_x75_0_24_b20 : x75_0_24.ownBlock ≠ some b20 := fun e => Nat.lt_irrefl _ (Nat.lt_of_lt_of_le hbb20_22.lt (OwnT.block_lt ky75_0_24 e).1)
 have no_x75_0_24_x7 : ∀ k, x75_0_24.ownBlock = some k → x7.ownBlock ≠ some k := fun k e e' => Nat.lt_irrefl _ (Nat.lt_of_lt_of_le (OwnT.block_lt hox7_22 e').2 (OwnT.block_lt ky75_0_24 e).1)
 have no_x75_0_24_x8 : ∀ k, x75_0_24.ownBlock = some k → x8.ownBlock ≠ some k := fun k e e' => Nat.lt_irrefl _ (Nat.lt_of_lt_of_le (OwnT.block_lt hox8_22 e').2 (OwnT.block_lt ky75_0_24 e).1)
 have no_x75_0_24_x61_0_14 : ∀ k, x75_0_24.ownBlock = some k → x61_0_14.ownBlock ≠ some k := fun k e e' => Nat.lt_irrefl _ (Nat.lt_of_lt_of_le (OwnT.block_lt hox61_0_14_22 e').2 (OwnT.block_lt ky75_0_24 e).1)
 have no_x75_0_24_x61_1_14 : ∀ k, x75_0_24.ownBlock = some k → x61_1_14.ownBlock ≠ some k := fun k e e' => Nat.lt_irrefl _ (Nat.lt_of_lt_of_le (OwnT.block_lt hox61_1_14_22 e').2 (OwnT.block_lt ky75_0_24 e).1)
 have no_x75_0_24_x68_0_19 : ∀ k, x75_0_24.ownBlock = some k → x68_0_19.ownBlock ≠ some k := fun k e e' => Nat.lt_irrefl _ (Nat.lt_of_lt_of_le (OwnT.block_lt hox68_0_19_22 e').2 (OwnT.block_lt ky75_0_24 e).1)
 have no_x75_0_24_x68_1_19 : ∀ k, x75_0_24.ownBlock = some k → x68_1_19.ownBlock ≠ some k := fun k e e' => Nat.lt_irrefl _ (Nat.lt_of_lt_of_le (OwnT.block_lt hox68_1_19_22 e').2 (OwnT.block_lt ky75_0_24 e).1)
 have hsx75_0_24_24 := ky75_0_24.sl.wide (Nat.zero_le _) (.inl rfl)
 have hox75_0_24_24 := OwnT.base ky75_0_24 hE_22.size'
 replace ky75_1_24 : OwnT DG wd22.heap.size 24 ((keyUse seed (((1 : Nat) : Int)) (((2 : Nat) : Int)) a).2.2.2.2.2.1) x75_1_24 wd24 := ky75_1_24
 have nbo_x75_1_24_b3 : x75_1_24.ownBlock ≠ some b3 := fun e => Nat.lt_irrefl _ (Nat.lt_of_lt_of_le hbb3_22.lt (OwnT.block_lt ky75_1_24 e).1)
 have nbo_x75_1_24_b4 : x75_1_24.ownBlock ≠ some b4 := fun e => Nat.lt_irrefl _ (Nat.lt_of_lt_of_le hbb4_22.lt (OwnT.block_lt ky75_1_24 e).1)
 have nbo_x75_1_24_b5 : x75_1_24.ownBlock ≠ some b5 := fun e => Nat.lt_irrefl _ (Nat.lt_of_lt_of_le hbb5_22.lt (OwnT.block_lt ky75_1_24 e).1)
 have nbo_x75_1_24_b9 : x75_1_24.ownBlock ≠ some b9 := fun e => Nat.lt_irrefl _ (Nat.lt_of_lt_of_le hbb9_22.lt (OwnT.block_lt ky75_1_24 e).1)
 have nbo_x75_1_24_b11 : x75_1_24.ownBlock ≠ some b11 := fun e => Nat.lt_irrefl _ (Nat.lt_of_lt_of_le hbb11_22.lt (OwnT.block_lt ky75_1_24 e).1)
 have nbo_x75_1_24_b14 : x75_1_24.ownBlock ≠ some b14 := fun e => Nat.lt_irrefl _ (Nat.lt_of_lt_of_le hbb14_22.lt (OwnT.block_lt ky75_1_24 e).1)
 have nbo_x75_1_24_b16 : x75_1_24.ownBlock ≠ some b16 := fun e => Nat.lt_irrefl _ (Nat.lt_of_lt_of_le hbb16_22.lt (OwnT.block_lt ky75_1_24 e).1)
 have nbo_x75_1_24_b18 : x75_1_24.ownBlock ≠ some b18 := fun e => Nat.lt_irrefl _ (Nat.lt_of_lt_of_le hbb18_22.lt (OwnT.block_lt ky75_1_24 e).1)
 have nbo_x75_1_24_b20 : x75_1_24.ownBlock ≠ some b20 := fun e => Nat.lt_irrefl _ (Nat.lt_of_lt_of_le hbb20_22.lt (OwnT.block_lt ky75_1_24 e).1)
 have no_x75_1_24_x7 : ∀ k, x75_1_24.ownBlock = some k → x7.ownBlock ≠ some k := fun k e e' => Nat.lt_irrefl _ (Nat.lt_of_lt_of_le (OwnT.block_lt hox7_22 e').2 (OwnT.block_lt ky75_1_24 e).1)
 have no_x75_1_24_x8 : ∀ k, x75_1_24.ownBlock = some k → x8.ownBlock ≠ some k := fun k e e' => Nat.lt_irrefl _ (Nat.lt_of_lt_of_le (OwnT.block_lt hox8_22 e').2 (OwnT.block_lt ky75_1_24 e).1)
 have no_x75_1_24_x61_0_14 : ∀ k, x75_1_24.ownBlock = some k → x61_0_14.ownBlock ≠ some k := fun k e e' => Nat.lt_irrefl _ (Nat.lt_of_lt_of_le (OwnT.block_lt hox61_0_14_22 e').2 (OwnT.block_lt ky75_1_24 e).1)
 have no_x75_1_24_x61_1_14 : ∀ k, x75_1_24.ownBlock = some k → x61_1_14.ownBlock ≠ some k := fun k e e' => Nat.lt_irrefl _ (Nat.lt_of_lt_of_le (OwnT.block_lt hox61_1_14_22 e').2 (OwnT.block_lt ky75_1_24 e).1)
 have no_x75_1_24_x68_0_19 : ∀ k, x75_1_24.ownBlock = some k → x68_0_19.ownBlock ≠ some k := fun k e e' => Nat.lt_irrefl _ (Nat.lt_of_lt_of_le (OwnT.block_lt hox68_0_19_22 e').2 (OwnT.block_lt ky75_1_24 e).1)
 have no_x75_1_24_x68_1_19 : ∀ k, x75_1_24.ownBlock = some k → x68_1_19.ownBlock ≠ some k := fun k e e' => Nat.lt_irrefl _ (Nat.lt_of_lt_of_le (OwnT.block_lt hox68_1_19_22 e').2 (OwnT.block_lt ky75_1_24 e).1)
 have hsx75_1_24_24 := ky75_1_24.sl.wide (Nat.zero_le _) (.inl rfl)
 have hox75_1_24_24 := OwnT.base ky75_1_24 hE_22.size'
 have s76_24 : get a24 76 = i64 (((keyUse seed (((1 : Nat) : Int)) (((2 : Nat) : Int)) a).2.2.2.2.2.2 : Nat) : Int) := t76
 clear hE_22 hN_23 hD_23 s4_23 s5_23 s7_23 s8_23 s9_23 s12_23 s15_23 s16_23 s17_23 s18_23 s19_23 s20_23 s21_23 hbb3_22 hbb4_22 hbb5_22 hbb9_22 hbb11_22 hbb14_22 hbb16_22 hbb18_22 hbb20_22 hsx7_22 hsx8_22 hsx61_0_14_22 hsx61_1_14_22 hsx68_0_19_22 hsx68_1_19_22 hox7_22 hox8_22 hox61_0_14_22 hox61_1_14_22 hox68_0_19_22 hox68_1_19_22
 refine tail_put rfl rfl hN_24 hD_24 (by decide) (does_alloc zero_30 (fun b22 wd25 he lo_b22 hbb22_25 => fun a25 hN_25 hD_25 hv hO => ?_))
 have s22_25 := hv
 have hE_25 := hE_24.trans he
 have hbb3_25 := hbb3_24.ext' he
 have hbb4_25 := hbb4_24.ext' he
 have hbb5_25 := hbb5_24.ext' he
 have hbb9_25 := hbb9_24.ext' he
 have hbb11_25 := hbb11_24.ext' he
 have hbb14_25 := hbb14_24.ext' he
 have hbb16_25 := hbb16_24.ext' he
 have hbb18_25 := hbb18_24.ext' he
 have hbb20_25 := hbb20_24.ext' he
 have hsx7_25 := hsx7_24.ext' he
 have hsx8_25 := hsx8_24.ext' he
 have hsx61_0_14_25 := hsx61_0_14_24.ext' he
 have hsx61_1_14_25 := hsx61_1_14_24.ext' he
 have hsx68_0_19_25 := hsx68_0_19_24.ext' he
 have hsx68_1_19_25 := hsx68_1_19_24.ext' he
 have hsx75_0_24_25 := hsx75_0_24_24.ext' he
 have hsx75_1_24_25 := hsx75_1_24_24.ext' he
 have hox7_25 := hox7_24.ext' he
 have hox8_25 := hox8_24.ext' he
 have hox61_0_14_25 := hox61_0_14_24.ext' he
 have hox61_1_14_25 := hox61_1_14_24.ext' he
 have hox68_0_19_25 := hox68_0_19_24.ext' he
 have hox68_1_19_25 := hox68_1_19_24.ext' he
 have hox75_0_24_25 := hox75_0_24_24.ext' he
 have hox75_1_24_25 := hox75_1_24_24.ext' he
 have fr_b22 : w0.heap.size ≤ b22 := Nat.le_trans hE_24.size' lo_b22
 have ne_b3_b22 : b3 ≠ b22 := fun e => Nat.lt_irrefl _ (Nat.lt_of_lt_of_le hbb3_24.lt (e ▸ lo_b22))
 have ne_b4_b22 : b4 ≠ b22 := fun e => Nat.lt_irrefl _ (Nat.lt_of_lt_of_le hbb4_24.lt (e ▸ lo_b22))
 have ne_b5_b22 : b5 ≠ b22 := fun e => Nat.lt_irrefl _ (Nat.lt_of_lt_of_le hbb5_24.lt (e ▸ lo_b22))
 have ne_b9_b22 : b9 ≠ b22 := fun e => Nat.lt_irrefl _ (Nat.lt_of_lt_of_le hbb9_24.lt (e ▸ lo_b22))
 have ne_b11_b22 : b11 ≠ b22 := fun e => Nat.lt_irrefl _ (Nat.lt_of_lt_of_le hbb11_24.lt (e ▸ lo_b22))
 have ne_b14_b22 : b14 ≠ b22 := fun e => Nat.lt_irrefl _ (Nat.lt_of_lt_of_le hbb14_24.lt (e ▸ lo_b22))
 have ne_b16_b22 : b16 ≠ b22 := fun e => Nat.lt_irrefl _ (Nat.lt_of_lt_of_le hbb16_24.lt (e ▸ lo_b22))
 have ne_b18_b22 : b18 ≠ b22 := fun e => Nat.lt_irrefl _ (Nat.lt_of_lt_of_le hbb18_24.lt (e ▸ lo_b22))
 have ne_b20_b22 : b20 ≠ b22 := fun e => Nat.lt_irrefl _ (Nat.lt_of_lt_of_le hbb20_24.lt (e ▸ lo_b22))
 have nb_x7_b22 := SlT.old hsx7_24 lo_b22
 have nb_x8_b22 := SlT.old hsx8_24 lo_b22
 have nb_x61_0_14_b22 := SlT.old hsx61_0_14_24 lo_b22
 have nb_x61_1_14_b22 := SlT.old hsx61_1_14_24 lo_b22
 have nb_x68_0_19_b22 := SlT.old hsx68_0_19_24 lo_b22
 have nb_x68_1_19_b22 := SlT.old hsx68_1_19_24 lo_b22
 have nb_x75_0_24_b22 := SlT.old hsx75_0_24_24 lo_b22
 have nb_x75_1_24_b22 := SlT.old hsx75_1_24_24 lo_b22
 have nbo_x7_b22 : x7.ownBlock ≠ some b22 := fun e => Nat.lt_irrefl _ (Nat.lt_of_lt_of_le (OwnT.block_lt hox7_24 e).2 lo_b22)
 have nbo_x8_b22 : x8.ownBlock ≠ some b22 := fun e => Nat.lt_irrefl _ (Nat.lt_of_lt_of_le (OwnT.block_lt hox8_24 e).2 lo_b22)
 have nbo_x61_0_14_b22 : x61_0_14.ownBlock ≠ some b22 := fun e => Nat.lt_irrefl _ (Nat.lt_of_lt_of_le (OwnT.block_lt hox61_0_14_24 e).2 lo_b22)
 have nbo_x61_1_14_b22 : x61_1_14.ownBlock ≠ some b22 := fun e => Nat.lt_irrefl _ (Nat.lt_of_lt_of_le (OwnT.block_lt hox61_1_14_24 e).2 lo_b22)
 have nbo_x68_0_19_b22 : x68_0_19.ownBlock ≠ some b22 := fun e => Nat.lt_irrefl _ (Nat.lt_of_lt_of_le (OwnT.block_lt hox68_0_19_24 e).2 lo_b22)
 have nbo_x68_1_19_b22 : x68_1_19.ownBlock ≠ some b22 := fun e => Nat.lt_irrefl _ (Nat.lt_of_lt_of_le (OwnT.block_lt hox68_1_19_24 e).2 lo_b22)
 have nbo_x75_0_24_b22 : x75_0_24.ownBlock ≠ some b22 := fun e => Nat.lt_irrefl _ (Nat.lt_of_lt_of_le (OwnT.block_lt hox75_0_24_24 e).2 lo_b22)
 have nbo_x75_1_24_b22 : x75_1_24.ownBlock ≠ some b22 := fun e => Nat.lt_irrefl _ (Nat.lt_of_lt_of_le (OwnT.block_lt hox75_1_24_24 e).2 lo_b22)
 have s4_25 := (hO 4 rfl).trans s4_24
 have s5_25 := (hO 5 rfl).trans s5_24
 have s7_25 := (hO 7 rfl).trans s7_24
 have s8_25 := (hO 8 rfl).trans s8_24
 have s9_25 := (hO 9 rfl).trans s9_24
 have s12_25 := (hO 12 rfl).trans s12_24
 have s15_25 := (hO 15 rfl).trans s15_24
 have s17_25 := (hO 17 rfl).trans s17_24
 have s18_25 := (hO 18 rfl).trans s18_24
 have s19_25 := (hO 19 rfl).trans s19_24
 have s20_25 := (hO 20 rfl).trans s20_24
 have s21_25 := (hO 21 rfl).trans s21_24
 have s74_25 := (hO 74 rfl).trans s74_24
 have s75_25 := (hO 75 rfl).trans s75_24
 have s76_25 := (hO 76 rfl).trans s76_24
 clear hO hv hN_24 hD_24 hE_24 hbb3_24 hbb4_24 hbb5_24 hbb9_24 hbb11_24 hbb14_24 hbb16_24 hbb18_24 hbb20_24 hsx7_24 hsx8_24 hsx61_0_14_24 hsx61_1_14_24 hsx68_0_19_24 hsx68_1_19_24 hsx75_0_24_24 hsx75_1_24_24 hox7_24 hox8_24 hox61_0_14_24 hox61_1_14_24 hox68_0_19_24 hox68_1_19_24 hox75_0_24_24 hox75_1_24_24 s4_24 s5_24 s7_24 s8_24 s9_24 s12_24 s15_24 s17_24 s18_24 s19_24 s20_24 s21_24 s74_24 s75_24 s76_24
 refine tail_put rfl rfl hN_25 hD_25 (by decide) (does_alloc zero_37 (fun b23 wd26 he lo_b23 hbb23_26 => fun a26 hN_26 hD_26 hv hO => ?_))
 have s23_26 := hv
 have hE_26 := hE_25.trans he
 have hbb3_26 := hbb3_25.ext' he
 have hbb4_26 := hbb4_25.ext' he
 have hbb5_26 := hbb5_25.ext' he
 have hbb9_26 := hbb9_25.ext' he
 have hbb11_26 := hbb11_25.ext' he
 have hbb14_26 := hbb14_25.ext' he
 have hbb16_26 := hbb16_25.ext' he
 have hbb18_26 := hbb18_25.ext' he
 have hbb20_26 := hbb20_25.ext' he
 have hbb22_26 := hbb22_25.ext' he
 have hsx7_26 := hsx7_25.ext' he
 have hsx8_26 := hsx8_25.ext' he
 have hsx61_0_14_26 := hsx61_0_14_25.ext' he
 have hsx61_1_14_26 := hsx61_1_14_25.ext' he
 have hsx68_0_19_26 := hsx68_0_19_25.ext' he
 have hsx68_1_19_26 := hsx68_1_19_25.ext' he
 have hsx75_0_24_26 := hsx75_0_24_25.ext' he
 have hsx75_1_24_26 := hsx75_1_24_25.ext' he
 have hox7_26 := hox7_25.ext' he
 have hox8_26 := hox8_25.ext' he
 have hox61_0_14_26 := hox61_0_14_25.ext' he
 have hox61_1_14_26 := hox61_1_14_25.ext' he
 have hox68_0_19_26 := hox68_0_19_25.ext' he
 have hox68_1_19_26 := hox68_1_19_25.ext' he
 have hox75_0_24_26 := hox75_0_24_25.ext' he
 have hox75_1_24_26 := hox75_1_24_25.ext' he
 have fr_b23 : w0.heap.size ≤ b23 := Nat.le_trans hE_25.size' lo_b23
 have ne_b3_b23 : b3 ≠ b23 := fun e => Nat.lt_irrefl _ (Nat.lt_of_lt_of_le hbb3_25.lt (e ▸ lo_b23))
 have ne_b4_b23 : b4 ≠ b23 := fun e => Nat.lt_irrefl _ (Nat.lt_of_lt_of_le hbb4_25.lt (e ▸ lo_b23))
 have ne_b5_b23 : b5 ≠ b23 := fun e => Nat.lt_irrefl _ (Nat.lt_of_lt_of_le hbb5_25.lt (e ▸ lo_b23))
 have ne_b9_b23 : b9 ≠ b23 := fun e => Nat.lt_irrefl _ (Nat.lt_of_lt_of_le hbb9_25.lt (e ▸ lo_b23))
 have ne_b11_b23 : b11 ≠ b23 := fun e => Nat.lt_irrefl _ (Nat.lt_of_lt_of_le hbb11_25.lt (e ▸ lo_b23))
 have ne_b14_b23 : b14 ≠ b23 := fun e => Nat.lt_irrefl _ (Nat.lt_of_lt_of_le hbb14_25.lt (e ▸ lo_b23))
 have ne_b16_b23 : b16 ≠ b23 := fun e => Nat.lt_irrefl _ (Nat.lt_of_lt_of_le hbb16_25.lt (e ▸ lo_b23))
 have ne_b18_b23 : b18 ≠ b23 := fun e => Nat.lt_irrefl _ (Nat.lt_of_lt_of_le hbb18_25.lt (e ▸ lo_b23))
 have ne_b20_b23 : b20 ≠ b23 := fun e => Nat.lt_irrefl _ (Nat.lt_of_lt_of_le hbb20_25.lt (e ▸ lo_b23))
 have ne_b22_b23 : b22 ≠ b23 := fun e => Nat.lt_irrefl _ (Nat.lt_of_lt_of_le hbb22_25.lt (e ▸ lo_b23))
 have nb_x7_b23 := SlT.old hsx7_25 lo_b23
 have nb_x8_b23 := SlT.old hsx8_25 lo_b23
 have nb_x61_0_14_b23 := SlT.old hsx61_0_14_25 lo_b23
 have nb_x61_1_14_b23 := SlT.old hsx61_1_14_25 lo_b23
 have nb_x68_0_19_b23 := SlT.old hsx68_0_19_25 lo_b23
 have nb_x68_1_19_b23 := SlT.old hsx68_1_19_25 lo_b23
 have nb_x75_0_24_b23 := SlT.old hsx75_0_24_25 lo_b23
 have nb_x75_1_24_b23 := SlT.old hsx75_1_24_25 lo_b23
 have nbo_x7_b23 : x7.ownBlock ≠ some b23 := fun e => Nat.lt_irrefl _ (Nat.lt_of_lt_of_le (OwnT.block_lt hox7_25 e).2 lo_b23)
 have nbo_x8_b23 : x8.ownBlock ≠ some b23 := fun e => Nat.lt_irrefl _ (Nat.lt_of_lt_of_le (OwnT.block_lt hox8_25 e).2 lo_b23)
 have nbo_x61_0_14_b23 : x61_0_14.ownBlock ≠ some b23 := fun e => Nat.lt_irrefl _ (Nat.lt_of_lt_of_le (OwnT.block_lt hox61_0_14_25 e).2 lo_b23)
 have nbo_x61_1_14_b23 : x61_1_14.ownBlock ≠ some b23 := fun e => Nat.lt_irrefl _ (Nat.lt_of_lt_of_le (OwnT.block_lt hox61_1_14_25 e).2 lo_b23)
 have nbo_x68_0_19_b23 : x68_0_19.ownBlock ≠ some b23 := fun e => Nat.lt_irrefl _ (Nat.lt_of_lt_of_le (OwnT.block_lt hox68_0_19_25 e).2 lo_b23)
 have nbo_x68_1_19_b23 : x68_1_19.ownBlock ≠ some b23 := fun e => Nat.lt_irrefl _ (Nat.lt_of_lt_of_le (OwnT.block_lt hox68_1_19_25 e).2 lo_b23)
 have nbo_x75_0_24_b23 : x75_0_24.ownBlock ≠ some b23 := fun e => Nat.lt_irrefl _ (Nat.lt_of_lt_of_le (OwnT.block_lt hox75_0_24_25 e).2 lo_b23)
 have nbo_x75_1_24_b23 : x75_1_24.ownBlock ≠ some b23 := fun e => Nat.lt_irrefl _ (Nat.lt_of_lt_of_le (OwnT.block_lt hox75_1_24_25 e).2 lo_b23)
 have s4_26 := (hO 4 rfl).trans s4_25
 have s5_26 := (hO 5 rfl).trans s5_25
 have s7_26 := (hO 7 rfl).trans s7_25
 have s8_26 := (hO 8 rfl).trans s8_25
 have s9_26 := (hO 9 rfl).trans s9_25
 have s12_26 := (hO 12 rfl).trans s12_25
 have s15_26 := (hO 15 rfl).trans s15_25
 have s17_26 := (hO 17 rfl).trans s17_25
 have s18_26 := (hO 18 rfl).trans s18_25
 have s19_26 := (hO 19 rfl).trans s19_25
 have s20_26 := (hO 20 rfl).trans s20_25
 have s21_26 := (hO 21 rfl).trans s21_25
 have s22_26 := (hO 22 rfl).trans s22_25
 have s74_26 := (hO 74 rfl).trans s74_25
 have s75_26 := (hO 75 rfl).trans s75_25
 have s76_26 := (hO 76 rfl).trans s76_25
 clear hO hv hN_25 hD_25 hE_25 hbb3_25 hbb4_25 hbb5_25 hbb9_25 hbb11_25 hbb14_25 hbb16_25 hbb18_25 hbb20_25 hbb22_25 hsx7_25 hsx8_25 hsx61_0_14_25 hsx61_1_14_25 hsx68_0_19_25 hsx68_1_19_25 hsx75_0_24_25 hsx75_1_24_25 hox7_25 hox8_25 hox61_0_14_25 hox61_1_14_25 hox68_0_19_25 hox68_1_19_25 hox75_0_24_25 hox75_1_24_25 s4_25 s5_25 s7_25 s8_25 s9_25 s12_25 s15_25 s17_25 s18_25 s19_25 s20_25 s21_25 s22_25 s74_25 s75_25 s76_25
 refine tail_none rfl rfl (does_storeD (o := 0) (n := 6) (cs' := [w32 ((keyUse seed (((1 : Nat) : Int)) (((2 : Nat) : Int)) a).1).a, w32 ((keyUse seed (((1 : Nat) : Int)) (((2 : Nat) : Int)) a).1).b, w32 ((keyUse seed (((1 : Nat) : Int)) (((2 : Nat) : Int)) a).1).c, w32 ((keyUse seed (((1 : Nat) : Int)) (((2 : Nat) : Int)) a).1).d, i64 ((keyUse seed (((1 : Nat) : Int)) (((2 : Nat) : Int)) a).2.1), i64 ((keyUse seed (((1 : Nat) : Int)) (((2 : Nat) : Int)) a).2.2.1)]) (V := Value.agg #[w32 ((keyUse seed (((1 : Nat) : Int)) (((2 : Nat) : Int)) a).1).a, w32 ((keyUse seed (((1 : Nat) : Int)) (((2 : Nat) : Int)) a).1).b, w32 ((keyUse seed (((1 : Nat) : Int)) (((2 : Nat) : Int)) a).1).c, w32 ((keyUse seed (((1 : Nat) : Int)) (((2 : Nat) : Int)) a).1).d, i64 ((keyUse seed (((1 : Nat) : Int)) (((2 : Nat) : Int)) a).2.1), i64 ((keyUse seed (((1 : Nat) : Int)) (((2 : Nat) : Int)) a).2.2.1)]) s22_26 s74_26 hbb22_26 (Nat.le_of_ble_eq_true rfl) rfl siz_30 rfl rfl (fun wd27 hX hz hbb22_27 => ?_))
 have hE_27 := hE_26.since hX (fun k e => e ▸ fr_b22)
 have hbb3_27 := hbb3_26.ext hX ne_b3_b22
 have hbb4_27 := hbb4_26.ext hX ne_b4_b22
 have hbb5_27 := hbb5_26.ext hX ne_b5_b22
 have hbb9_27 := hbb9_26.ext hX ne_b9_b22
 have hbb11_27 := hbb11_26.ext hX ne_b11_b22
 have hbb14_27 := hbb14_26.ext hX ne_b14_b22
 have hbb16_27 := hbb16_26.ext hX ne_b16_b22
 have hbb18_27 := hbb18_26.ext hX ne_b18_b22
 have hbb20_27 := hbb20_26.ext hX ne_b20_b22
 have hbb23_27 := hbb23_26.ext hX ne_b22_b23.symm
 have hsx7_27 := SlT.over hsx7_26 hX nb_x7_b22
 have hsx8_27 := SlT.over hsx8_26 hX nb_x8_b22
 have hsx61_0_14_27 := SlT.over hsx61_0_14_26 hX nb_x61_0_14_b22
 have hsx61_1_14_27 := SlT.over hsx61_1_14_26 hX nb_x61_1_14_b22
 have hsx68_0_19_27 := SlT.over hsx68_0_19_26 hX nb_x68_0_19_b22
 have hsx68_1_19_27 := SlT.over hsx68_1_19_26 hX nb_x68_1_19_b22
 have hsx75_0_24_27 := SlT.over hsx75_0_24_26 hX nb_x75_0_24_b22
 have hsx75_1_24_27 := SlT.over hsx75_1_24_26 hX nb_x75_1_24_b22
 have hox7_27 := OwnT.ext hox7_26 hX (fun k hk e => nbo_x7_b22 (e ▸ hk))
 have hox8_27 := OwnT.ext hox8_26 hX (fun k hk e => nbo_x8_b22 (e ▸ hk))
 have hox61_0_14_27 := OwnT.ext hox61_0_14_26 hX (fun k hk e => nbo_x61_0_14_b22 (e ▸ hk))
 have hox61_1_14_27 := OwnT.ext hox61_1_14_26 hX (fun k hk e => nbo_x61_1_14_b22 (e ▸ hk))
 have hox68_0_19_27 := OwnT.ext hox68_0_19_26 hX (fun k hk e => nbo_x68_0_19_b22 (e ▸ hk))
 have hox68_1_19_27 := OwnT.ext hox68_1_19_26 hX (fun k hk e => nbo_x68_1_19_b22 (e ▸ hk))
 have hox75_0_24_27 := OwnT.ext hox75_0_24_26 hX (fun k hk e => nbo_x75_0_24_b22 (e ▸ hk))
 have hox75_1_24_27 := OwnT.ext hox75_1_24_26 hX (fun k hk e => nbo_x75_1_24_b22 (e ▸ hk))
 clear hX hz hE_26 hbb3_26 hbb4_26 hbb5_26 hbb9_26 hbb11_26 hbb14_26 hbb16_26 hbb18_26 hbb20_26 hbb22_26 hbb23_26 hsx7_26 hsx8_26 hsx61_0_14_26 hsx61_1_14_26 hsx68_0_19_26 hsx68_1_19_26 hsx75_0_24_26 hsx75_1_24_26 hox7_26 hox8_26 hox61_0_14_26 hox61_1_14_26 hox68_0_19_26 hox68_1_19_26 hox75_0_24_26 hox75_1_24_26
 refine tail_none rfl rfl (does_storeD (o := 0) (n := 3) (cs' := [i64 ((keyUse seed (((1 : Nat) : Int)) (((2 : Nat) : Int)) a).2.2.2.1), x75_0_24, x75_1_24]) (V := Value.agg #[i64 ((keyUse seed (((1 : Nat) : Int)) (((2 : Nat) : Int)) a).2.2.2.1), x75_0_24, x75_1_24]) s23_26 s75_26 hbb23_27 (Nat.le_of_ble_eq_true rfl) rfl siz_37 (one_cons rfl (one_cons (SlT.one hsx75_0_24_27) (one_cons (SlT.one hsx75_1_24_27) one_nil))) rfl (fun wd28 hX hz hbb23_28 => ?_))
 have hE_28 := hE_27.since hX (fun k e => e ▸ fr_b23)
 have hbb3_28 := hbb3_27.ext hX ne_b3_b23
 have hbb4_28 := hbb4_27.ext hX ne_b4_b23
 have hbb5_28 := hbb5_27.ext hX ne_b5_b23
 have hbb9_28 := hbb9_27.ext hX ne_b9_b23
 have hbb11_28 := hbb11_27.ext hX ne_b11_b23
 have hbb14_28 := hbb14_27.ext hX ne_b14_b23
 have hbb16_28 := hbb16_27.ext hX ne_b16_b23
 have hbb18_28 := hbb18_27.ext hX ne_b18_b23
 have hbb20_28 := hbb20_27.ext hX ne_b20_b23
 have hbb22_28 := hbb22_27.ext hX ne_b22_b23
 have hsx7_28 := SlT.over hsx7_27 hX nb_x7_b23
 have hsx8_28 := SlT.over hsx8_27 hX nb_x8_b23
 have hsx61_0_14_28 := SlT.over hsx61_0_14_27 hX nb_x61_0_14_b23
 have hsx61_1_14_28 := SlT.over hsx61_1_14_27 hX nb_x61_1_14_b23
 have hsx68_0_19_28 := SlT.over hsx68_0_19_27 hX nb_x68_0_19_b23
 have hsx68_1_19_28 := SlT.over hsx68_1_19_27 hX nb_x68_1_19_b23
 have hsx75_0_24_28 := SlT.over hsx75_0_24_27 hX nb_x75_0_24_b23
 have hsx75_1_24_28 := SlT.over hsx75_1_24_27 hX nb_x75_1_24_b23
 have hox7_28 := OwnT.ext hox7_27 hX (fun k hk e => nbo_x7_b23 (e ▸ hk))
 have hox8_28 := OwnT.ext hox8_27 hX (fun k hk e => nbo_x8_b23 (e ▸ hk))
 have hox61_0_14_28 := OwnT.ext hox61_0_14_27 hX (fun k hk e => nbo_x61_0_14_b23 (e ▸ hk))
 have hox61_1_14_28 := OwnT.ext hox61_1_14_27 hX (fun k hk e => nbo_x61_1_14_b23 (e ▸ hk))
 have hox68_0_19_28 := OwnT.ext hox68_0_19_27 hX (fun k hk e => nbo_x68_0_19_b23 (e ▸ hk))
 have hox68_1_19_28 := OwnT.ext hox68_1_19_27 hX (fun k hk e => nbo_x68_1_19_b23 (e ▸ hk))
 have hox75_0_24_28 := OwnT.ext hox75_0_24_27 hX (fun k hk e => nbo_x75_0_24_b23 (e ▸ hk))
 have hox75_1_24_28 := OwnT.ext hox75_1_24_27 hX (fun k hk e => nbo_x75_1_24_b23 (e ▸ hk))
 clear hX hz hE_27 hbb3_27 hbb4_27 hbb5_27 hbb9_27 hbb11_27 hbb14_27 hbb16_27 hbb18_27 hbb20_27 hbb22_27 hbb23_27 hsx7_27 hsx8_27 hsx61_0_14_27 hsx61_1_14_27 hsx68_0_19_27 hsx68_1_19_27 hsx75_0_24_27 hsx75_1_24_27 hox7_27 hox8_27 hox61_0_14_27 hox61_1_14_27 hox68_0_19_27 hox68_1_19_27 hox75_0_24_27 hox75_1_24_27
 refine tail_put rfl rfl hN_26 hD_26 (by decide) (does_assign (V := i64 (((keyUse seed (((1 : Nat) : Int)) (((2 : Nat) : Int)) a).2.2.2.2.2.2 : Nat) : Int)) s76_26 (fun a29 hN_29 hD_29 hv hO => ?_))
 have s24_29 := hv
 have s4_29 := (hO 4 rfl).trans s4_26
 have s5_29 := (hO 5 rfl).trans s5_26
 have s7_29 := (hO 7 rfl).trans s7_26
 have s8_29 := (hO 8 rfl).trans s8_26
 have s9_29 := (hO 9 rfl).trans s9_26
 have s12_29 := (hO 12 rfl).trans s12_26
 have s15_29 := (hO 15 rfl).trans s15_26
 have s17_29 := (hO 17 rfl).trans s17_26
 have s18_29 := (hO 18 rfl).trans s18_26
 have s19_29 := (hO 19 rfl).trans s19_26
 have s20_29 := (hO 20 rfl).trans s20_26
 have s21_29 := (hO 21 rfl).trans s21_26
 clear hO hv hN_26 hD_26 s4_26 s5_26 s7_26 s8_26 s9_26 s12_26 s15_26 s17_26 s18_26 s19_26 s20_26 s21_26 s22_26 s23_26 s74_26 s75_26 s76_26
 refine tail_nil ?_
 refine wp_seq ?_
 refine region_lex [] [(77, Pr.ex (Dg.val (Sd.lone seed))), (78, Pr.ex (Dg.val (a))), (79, Pr.ex (x7)), (80, Pr.ex (Value.bool (oneCheck (Sd.lone seed) a (signed seed a)))), (81, Pr.ex (Value.bool (oneCheck (Sd.lone seed) a (signed seed a)))), (82, Pr.ifb (oneCheck (Sd.lone seed) a (signed seed a)) (Pr.ex (Dg.val (Sd.lone seed)))), (83, Pr.ifb (oneCheck (Sd.lone seed) a (signed seed a)) (Pr.ex (Dg.val (b)))), (84, Pr.ifb (oneCheck (Sd.lone seed) a (signed seed a)) (Pr.ex (x8))), (85, Pr.ifb (oneCheck (Sd.lone seed) a (signed seed a)) (Pr.ex (Value.bool (oneCheck (Sd.lone seed) b (signed seed b))))), (86, Pr.ex (Value.bool ((oneCheck (Sd.lone seed) a (signed seed a)) && (oneCheck (Sd.lone seed) b (signed seed b))))), (87, Pr.ex (Value.bool ((oneCheck (Sd.lone seed) a (signed seed a)) && (oneCheck (Sd.lone seed) b (signed seed b))))), (88, Pr.ifb ((oneCheck (Sd.lone seed) a (signed seed a)) && (oneCheck (Sd.lone seed) b (signed seed b))) (Pr.ex (Value.bool ((aheadO a (signed seed a) b (signed seed b)).2.2)))), (89, Pr.ifb ((oneCheck (Sd.lone seed) a (signed seed a)) && (oneCheck (Sd.lone seed) b (signed seed b))) (Pr.ex (Dg.val (a)))), (90, Pr.ifb ((oneCheck (Sd.lone seed) a (signed seed a)) && (oneCheck (Sd.lone seed) b (signed seed b))) (Pr.ex (Dg.val (b)))), (91, Pr.ifb ((oneCheck (Sd.lone seed) a (signed seed a)) && (oneCheck (Sd.lone seed) b (signed seed b))) (Pr.ex (Value.bool (!decide (a = b))))), (92, Pr.ifb ((oneCheck (Sd.lone seed) a (signed seed a)) && (oneCheck (Sd.lone seed) b (signed seed b))) (Pr.ex (Value.bool ((((aheadO a (signed seed a) b (signed seed b)).2.2) == (!decide (a = b))))))), (93, Pr.ex (Value.bool (((oneCheck (Sd.lone seed) a (signed seed a)) && (oneCheck (Sd.lone seed) b (signed seed b))) && ((((aheadO a (signed seed a) b (signed seed b)).2.2) == (!decide (a = b))))))), (94, Pr.ex (Value.bool (((oneCheck (Sd.lone seed) a (signed seed a)) && (oneCheck (Sd.lone seed) b (signed seed b))) && ((((aheadO a (signed seed a) b (signed seed b)).2.2) == (!decide (a = b))))))), (95, Pr.ifb (((oneCheck (Sd.lone seed) a (signed seed a)) && (oneCheck (Sd.lone seed) b (signed seed b))) && ((((aheadO a (signed seed a) b (signed seed b)).2.2) == (!decide (a = b))))) (Pr.ex (Value.bool ((aheadO b (signed seed b) a (signed seed a)).2.2)))), (96, Pr.ifb (((oneCheck (Sd.lone seed) a (signed seed a)) && (oneCheck (Sd.lone seed) b (signed seed b))) && ((((aheadO a (signed seed a) b (signed seed b)).2.2) == (!decide (a = b))))) (Pr.ex (Dg.val (a)))), (97, Pr.ifb (((oneCheck (Sd.lone seed) a (signed seed a)) && (oneCheck (Sd.lone seed) b (signed seed b))) && ((((aheadO a (signed seed a) b (signed seed b)).2.2) == (!decide (a = b))))) (Pr.ex (Dg.val (b)))), (98, Pr.ifb (((oneCheck (Sd.lone seed) a (signed seed a)) && (oneCheck (Sd.lone seed) b (signed seed b))) && ((((aheadO a (signed seed a) b (signed seed b)).2.2) == (!decide (a = b))))) (Pr.ex (Value.bool (!decide (a = b))))), (99, Pr.ifb (((oneCheck (Sd.lone seed) a (signed seed a)) && (oneCheck (Sd.lone seed) b (signed seed b))) && ((((aheadO a (signed seed a) b (signed seed b)).2.2) == (!decide (a = b))))) (Pr.ex (Value.bool ((((aheadO b (signed seed b) a (signed seed a)).2.2) == (!decide (a = b))))))), (100, Pr.ex (Value.bool ((((oneCheck (Sd.lone seed) a (signed seed a)) && (oneCheck (Sd.lone seed) b (signed seed b))) && ((((aheadO a (signed seed a) b (signed seed b)).2.2) == (!decide (a = b))))) && ((((aheadO b (signed seed b) a (signed seed a)).2.2) == (!decide (a = b))))))), (101, Pr.ex (Value.bool ((((oneCheck (Sd.lone seed) a (signed seed a)) && (oneCheck (Sd.lone seed) b (signed seed b))) && ((((aheadO a (signed seed a) b (signed seed b)).2.2) == (!decide (a = b))))) && ((((aheadO b (signed seed b) a (signed seed a)).2.2) == (!decide (a = b))))))), (102, Pr.ifb ((((oneCheck (Sd.lone seed) a (signed seed a)) && (oneCheck (Sd.lone seed) b (signed seed b))) && ((((aheadO a (signed seed a) b (signed seed b)).2.2) == (!decide (a = b))))) && ((((aheadO b (signed seed b) a (signed seed a)).2.2) == (!decide (a = b))))) (Pr.ex (i64 ((0 : Nat) : Int)))), (103, Pr.ifb ((((oneCheck (Sd.lone seed) a (signed seed a)) && (oneCheck (Sd.lone seed) b (signed seed b))) && ((((aheadO a (signed seed a) b (signed seed b)).2.2) == (!decide (a = b))))) && ((((aheadO b (signed seed b) a (signed seed a)).2.2) == (!decide (a = b))))) (Pr.ex (Value.bool (true)))), (104, Pr.ex (Value.bool (((((oneCheck (Sd.lone seed) a (signed seed a)) && (oneCheck (Sd.lone seed) b (signed seed b))) && ((((aheadO a (signed seed a) b (signed seed b)).2.2) == (!decide (a = b))))) && ((((aheadO b (signed seed b) a (signed seed a)).2.2) == (!decide (a = b))))) && true))), (105, Pr.ex (Value.bool (((((oneCheck (Sd.lone seed) a (signed seed a)) && (oneCheck (Sd.lone seed) b (signed seed b))) && ((((aheadO a (signed seed a) b (signed seed b)).2.2) == (!decide (a = b))))) && ((((aheadO b (signed seed b) a (signed seed a)).2.2) == (!decide (a = b))))) && true))), (106, Pr.ifb (((((oneCheck (Sd.lone seed) a (signed seed a)) && (oneCheck (Sd.lone seed) b (signed seed b))) && ((((aheadO a (signed seed a) b (signed seed b)).2.2) == (!decide (a = b))))) && ((((aheadO b (signed seed b) a (signed seed a)).2.2) == (!decide (a = b))))) && true) (Pr.ex (i64 ((0 : Nat) : Int)))), (107, Pr.ifb (((((oneCheck (Sd.lone seed) a (signed seed a)) && (oneCheck (Sd.lone seed) b (signed seed b))) && ((((aheadO a (signed seed a) b (signed seed b)).2.2) == (!decide (a = b))))) && ((((aheadO b (signed seed b) a (signed seed a)).2.2) == (!decide (a = b))))) && true) (Pr.ex (Value.bool (true)))), (108, Pr.ex (Value.bool ((((((oneCheck (Sd.lone seed) a (signed seed a)) && (oneCheck (Sd.lone seed) b (signed seed b))) && ((((aheadO a (signed seed a) b (signed seed b)).2.2) == (!decide (a = b))))) && ((((aheadO b (signed seed b) a (signed seed a)).2.2) == (!decide (a = b))))) && true) && true))), (109, Pr.ex (Value.bool ((((((oneCheck (Sd.lone seed) a (signed seed a)) && (oneCheck (Sd.lone seed) b (signed seed b))) && ((((aheadO a (signed seed a) b (signed seed b)).2.2) == (!decide (a = b))))) && ((((aheadO b (signed seed b) a (signed seed a)).2.2) == (!decide (a = b))))) && true) && true))), (110, Pr.ifb ((((((oneCheck (Sd.lone seed) a (signed seed a)) && (oneCheck (Sd.lone seed) b (signed seed b))) && ((((aheadO a (signed seed a) b (signed seed b)).2.2) == (!decide (a = b))))) && ((((aheadO b (signed seed b) a (signed seed a)).2.2) == (!decide (a = b))))) && true) && true) (Pr.ex (i64 ((0 : Nat) : Int)))), (111, Pr.ifb ((((((oneCheck (Sd.lone seed) a (signed seed a)) && (oneCheck (Sd.lone seed) b (signed seed b))) && ((((aheadO a (signed seed a) b (signed seed b)).2.2) == (!decide (a = b))))) && ((((aheadO b (signed seed b) a (signed seed a)).2.2) == (!decide (a = b))))) && true) && true) (Pr.ex (Value.bool (true)))), (112, Pr.ex (Value.bool (((((((oneCheck (Sd.lone seed) a (signed seed a)) && (oneCheck (Sd.lone seed) b (signed seed b))) && ((((aheadO a (signed seed a) b (signed seed b)).2.2) == (!decide (a = b))))) && ((((aheadO b (signed seed b) a (signed seed a)).2.2) == (!decide (a = b))))) && true) && true) && true))), (113, Pr.ex (Value.bool (((((((oneCheck (Sd.lone seed) a (signed seed a)) && (oneCheck (Sd.lone seed) b (signed seed b))) && ((((aheadO a (signed seed a) b (signed seed b)).2.2) == (!decide (a = b))))) && ((((aheadO b (signed seed b) a (signed seed a)).2.2) == (!decide (a = b))))) && true) && true) && true))), (114, Pr.ifb (((((((oneCheck (Sd.lone seed) a (signed seed a)) && (oneCheck (Sd.lone seed) b (signed seed b))) && ((((aheadO a (signed seed a) b (signed seed b)).2.2) == (!decide (a = b))))) && ((((aheadO b (signed seed b) a (signed seed a)).2.2) == (!decide (a = b))))) && true) && true) && true) (Pr.ex (i64 (((keyUse seed (((1 : Nat) : Int)) (((2 : Nat) : Int)) a).2.2.2.2.2.2 : Nat) : Int)))), (115, Pr.ifb (((((((oneCheck (Sd.lone seed) a (signed seed a)) && (oneCheck (Sd.lone seed) b (signed seed b))) && ((((aheadO a (signed seed a) b (signed seed b)).2.2) == (!decide (a = b))))) && ((((aheadO b (signed seed b) a (signed seed a)).2.2) == (!decide (a = b))))) && true) && true) && true) (Pr.ex (Value.bool (decide ((((keyUse seed (((1 : Nat) : Int)) (((2 : Nat) : Int)) a).2.2.2.2.2.2 : Nat) : Int) = ((9 : Nat) : Int)))))), (116, Pr.ex (Value.bool ((((((((oneCheck (Sd.lone seed) a (signed seed a)) && (oneCheck (Sd.lone seed) b (signed seed b))) && ((((aheadO a (signed seed a) b (signed seed b)).2.2) == (!decide (a = b))))) && ((((aheadO b (signed seed b) a (signed seed a)).2.2) == (!decide (a = b))))) && true) && true) && true) && (decide ((((keyUse seed (((1 : Nat) : Int)) (((2 : Nat) : Int)) a).2.2.2.2.2.2 : Nat) : Int) = ((9 : Nat) : Int)))))), (117, Pr.ex (Value.bool ((((((((oneCheck (Sd.lone seed) a (signed seed a)) && (oneCheck (Sd.lone seed) b (signed seed b))) && ((((aheadO a (signed seed a) b (signed seed b)).2.2) == (!decide (a = b))))) && ((((aheadO b (signed seed b) a (signed seed a)).2.2) == (!decide (a = b))))) && true) && true) && true) && (decide ((((keyUse seed (((1 : Nat) : Int)) (((2 : Nat) : Int)) a).2.2.2.2.2.2 : Nat) : Int) = ((9 : Nat) : Int)))))), (118, Pr.ifb ((((((((oneCheck (Sd.lone seed) a (signed seed a)) && (oneCheck (Sd.lone seed) b (signed seed b))) && ((((aheadO a (signed seed a) b (signed seed b)).2.2) == (!decide (a = b))))) && ((((aheadO b (signed seed b) a (signed seed a)).2.2) == (!decide (a = b))))) && true) && true) && true) && (decide ((((keyUse seed (((1 : Nat) : Int)) (((2 : Nat) : Int)) a).2.2.2.2.2.2 : Nat) : Int) = ((9 : Nat) : Int)))) (Pr.ex (Value.pointer (some ⟨b18, 0, none⟩)))), (119, Pr.ifb ((((((((oneCheck (Sd.lone seed) a (signed seed a)) && (oneCheck (Sd.lone seed) b (signed seed b))) && ((((aheadO a (signed seed a) b (signed seed b)).2.2) == (!decide (a = b))))) && ((((aheadO b (signed seed b) a (signed seed a)).2.2) == (!decide (a = b))))) && true) && true) && true) && (decide ((((keyUse seed (((1 : Nat) : Int)) (((2 : Nat) : Int)) a).2.2.2.2.2.2 : Nat) : Int) = ((9 : Nat) : Int)))) (Pr.ex (i64 ((0 : Nat) : Int)))), (120, Pr.ifb ((((((((oneCheck (Sd.lone seed) a (signed seed a)) && (oneCheck (Sd.lone seed) b (signed seed b))) && ((((aheadO a (signed seed a) b (signed seed b)).2.2) == (!decide (a = b))))) && ((((aheadO b (signed seed b) a (signed seed a)).2.2) == (!decide (a = b))))) && true) && true) && true) && (decide ((((keyUse seed (((1 : Nat) : Int)) (((2 : Nat) : Int)) a).2.2.2.2.2.2 : Nat) : Int) = ((9 : Nat) : Int)))) (Pr.ex (Value.pointer (some ⟨b20, 0, none⟩)))), (121, Pr.ifb ((((((((oneCheck (Sd.lone seed) a (signed seed a)) && (oneCheck (Sd.lone seed) b (signed seed b))) && ((((aheadO a (signed seed a) b (signed seed b)).2.2) == (!decide (a = b))))) && ((((aheadO b (signed seed b) a (signed seed a)).2.2) == (!decide (a = b))))) && true) && true) && true) && (decide ((((keyUse seed (((1 : Nat) : Int)) (((2 : Nat) : Int)) a).2.2.2.2.2.2 : Nat) : Int) = ((9 : Nat) : Int)))) (Pr.ex (i64 ((1 : Nat) : Int)))), (122, Pr.ifb ((((((((oneCheck (Sd.lone seed) a (signed seed a)) && (oneCheck (Sd.lone seed) b (signed seed b))) && ((((aheadO a (signed seed a) b (signed seed b)).2.2) == (!decide (a = b))))) && ((((aheadO b (signed seed b) a (signed seed a)).2.2) == (!decide (a = b))))) && true) && true) && true) && (decide ((((keyUse seed (((1 : Nat) : Int)) (((2 : Nat) : Int)) a).2.2.2.2.2.2 : Nat) : Int) = ((9 : Nat) : Int)))) (Pr.ex (Value.bool (true)))), (123, Pr.ex (Value.bool (((((((((oneCheck (Sd.lone seed) a (signed seed a)) && (oneCheck (Sd.lone seed) b (signed seed b))) && ((((aheadO a (signed seed a) b (signed seed b)).2.2) == (!decide (a = b))))) && ((((aheadO b (signed seed b) a (signed seed a)).2.2) == (!decide (a = b))))) && true) && true) && true) && (decide ((((keyUse seed (((1 : Nat) : Int)) (((2 : Nat) : Int)) a).2.2.2.2.2.2 : Nat) : Int) = ((9 : Nat) : Int)))) && true))), (6, Pr.ex (Value.bool (((((((((oneCheck (Sd.lone seed) a (signed seed a)) && (oneCheck (Sd.lone seed) b (signed seed b))) && ((((aheadO a (signed seed a) b (signed seed b)).2.2) == (!decide (a = b))))) && ((((aheadO b (signed seed b) a (signed seed a)).2.2) == (!decide (a = b))))) && true) && true) && true) && (decide ((((keyUse seed (((1 : Nat) : Int)) (((2 : Nat) : Int)) a).2.2.2.2.2.2 : Nat) : Int) = ((9 : Nat) : Int)))) && true)))] 48 hN_29 hD_29 (by kernel_rfl) (by kernel_rfl) ?_ ?_
 refine Asks.cons ?_ (Asks.cons ?_ (Asks.cons ?_ (Asks.cons ?_ (Asks.cons ?_ (Asks.cons ?_ (Asks.cons ?_ (Asks.cons ?_ (Asks.cons ?_ (Asks.cons ?_ (Asks.cons ?_ (Asks.cons ?_ (Asks.cons ?_ (Asks.cons ?_ (Asks.cons ?_ (Asks.cons ?_ (Asks.cons ?_ (Asks.cons ?_ (Asks.cons ?_ (Asks.cons ?_ (Asks.cons ?_ (Asks.cons ?_ (Asks.cons ?_ (Asks.cons ?_ (Asks.cons ?_ (Asks.cons ?_ (Asks.cons ?_ (Asks.cons ?_ (Asks.cons ?_ (Asks.cons ?_ (Asks.cons ?_ (Asks.cons ?_ (Asks.cons ?_ (Asks.cons ?_ (Asks.cons ?_ (Asks.cons ?_ (Asks.cons ?_ (Asks.cons ?_ (Asks.cons ?_ (Asks.cons ?_ (Asks.cons ?_ (Asks.cons ?_ (Asks.cons ?_ (Asks.cons ?_ (Asks.cons ?_ (Asks.cons ?_ (Asks.cons ?_ (Asks.cons ?_ (Asks.zero _))))))))))))))))))))))))))))))))))))))))))))))))
 exact Ask.plain rfl rfl fun aq wq hNq hO hR hT => does_loadD (o := 0) (n := 4) (mid := [w32 (Sd.lone seed).a, w32 (Sd.lone seed).b, w32 (Sd.lone seed).c, w32 (Sd.lone seed).d]) ((hO 9 rfl).trans s9_29) (hbb9_28.ext' hR) rfl rfl (Nat.le_of_ble_eq_true rfl) row_24 rfl ⟨Ext.refl _, rfl⟩
 exact Ask.plain rfl rfl fun aq wq hNq hO hR hT => does_loadD (o := 0) (n := 4) (mid := [w32 (a).a, w32 (a).b, w32 (a).c, w32 (a).d]) ((hO 4 rfl).trans s4_29) (hbb4_28.ext' hR) rfl rfl (Nat.le_of_ble_eq_true rfl) row_24 rfl ⟨Ext.refl _, rfl⟩
 exact Ask.plain rfl rfl fun aq wq hNq hO hR hT => does_move (V := x7) ((hO 7 rfl).trans s7_29) ⟨Ext.refl _, rfl⟩
 exact Ask.plain rfl rfl fun aq wq hNq hO hR hT => does_ret (vs := #[Dg.val (Sd.lone seed), Dg.val (a), x7]) call_18 (args3 (hT 77 rfl rfl) (hT 78 rfl rfl) (hT 79 rfl rfl)) rfl ((oneCheck_ (Sd.lone seed) a (signed seed a) (x7) wq (hL.ext (hE_28.trans hR)) ((hsx7_28.ext' hR).wide (Nat.zero_le _) (.inl rfl)) (by rw [signed_length]; decide)).mono fun v w2 h => ⟨h.2, h.1⟩)
 exact Ask.plain rfl rfl fun aq wq hNq hO hR hT => does_move (V := Value.bool (oneCheck (Sd.lone seed) a (signed seed a))) (hT 80 rfl rfl) ⟨Ext.refl _, rfl⟩
 refine Ask.guarded (B := oneCheck (Sd.lone seed) a (signed seed a)) (want := true) (t := 81) rfl rfl rfl rfl (by decide) (fun aq wq hO hR hT => hT 81 rfl rfl) (fun hG aq wq hNq hO hR hT => ?_) (fun hno _ => fun hc => absurd hc hno)
 exact does_loadD (o := 0) (n := 4) (mid := [w32 (Sd.lone seed).a, w32 (Sd.lone seed).b, w32 (Sd.lone seed).c, w32 (Sd.lone seed).d]) ((hO 9 rfl).trans s9_29) (hbb9_28.ext' hR) rfl rfl (Nat.le_of_ble_eq_true rfl) row_24 rfl ⟨Ext.refl _, fun _ => rfl⟩
 refine Ask.guarded (B := oneCheck (Sd.lone seed) a (signed seed a)) (want := true) (t := 81) rfl rfl rfl rfl (by decide) (fun aq wq hO hR hT => hT 81 rfl rfl) (fun hG aq wq hNq hO hR hT => ?_) (fun hno _ => fun hc => absurd hc hno)
 exact does_loadD (o := 0) (n := 4) (mid := [w32 (b).a, w32 (b).b, w32 (b).c, w32 (b).d]) ((hO 5 rfl).trans s5_29) (hbb5_28.ext' hR) rfl rfl (Nat.le_of_ble_eq_true rfl) row_24 rfl ⟨Ext.refl _, fun _ => rfl⟩
 refine Ask.guarded (B := oneCheck (Sd.lone seed) a (signed seed a)) (want := true) (t := 81) rfl rfl rfl rfl (by decide) (fun aq wq hO hR hT => hT 81 rfl rfl) (fun hG aq wq hNq hO hR hT => ?_) (fun hno _ => fun hc => absurd hc hno)
 exact does_move (V := x8) ((hO 8 rfl).trans s8_29) ⟨Ext.refl _, fun _ => rfl⟩
 refine Ask.guarded (B := oneCheck (Sd.lone seed) a (signed seed a)) (want := true) (t := 81) rfl rfl rfl rfl (by decide) (fun aq wq hO hR hT => hT 81 rfl rfl) (fun hG aq wq hNq hO hR hT => ?_) (fun hno _ => fun hc => absurd hc hno)
 exact does_ret (vs := #[Dg.val (Sd.lone seed), Dg.val (b), x8]) call_18 (args3 (hT 82 rfl rfl hG) (hT 83 rfl rfl hG) (hT 84 rfl rfl hG)) rfl ((oneCheck_ (Sd.lone seed) b (signed seed b) (x8) wq (hL.ext (hE_28.trans hR)) ((hsx8_28.ext' hR).wide (Nat.zero_le _) (.inl rfl)) (by rw [signed_length]; decide)).mono fun v w2 h => ⟨h.2, fun _ => h.1⟩)
 exact Ask.plain rfl rfl fun aq wq hNq hO hR hT => does_and (B := oneCheck (Sd.lone seed) a (signed seed a)) (X := oneCheck (Sd.lone seed) b (signed seed b)) (hT 81 rfl rfl) (fun hB => (hT 85 rfl rfl hB)) rfl ⟨Ext.refl _, rfl⟩
 exact Ask.plain rfl rfl fun aq wq hNq hO hR hT => does_move (V := Value.bool ((oneCheck (Sd.lone seed) a (signed seed a)) && (oneCheck (Sd.lone seed) b (signed seed b)))) (hT 86 rfl rfl) ⟨Ext.refl _, rfl⟩
 refine Ask.guarded (B := (oneCheck (Sd.lone seed) a (signed seed a)) && (oneCheck (Sd.lone seed) b (signed seed b))) (want := true) (t := 87) rfl rfl rfl rfl (by decide) (fun aq wq hO hR hT => hT 87 rfl rfl) (fun hG aq wq hNq hO hR hT => ?_) (fun hno _ => fun hc => absurd hc hno)
 exact does_move (V := Value.bool ((aheadO a (signed seed a) b (signed seed b)).2.2)) ((hO 12 rfl).trans s12_29) ⟨Ext.refl _, fun _ => rfl⟩
 refine Ask.guarded (B := (oneCheck (Sd.lone seed) a (signed seed a)) && (oneCheck (Sd.lone seed) b (signed seed b))) (want := true) (t := 87) rfl rfl rfl rfl (by decide) (fun aq wq hO hR hT => hT 87 rfl rfl) (fun hG aq wq hNq hO hR hT => ?_) (fun hno _ => fun hc => absurd hc hno)
 exact does_loadD (o := 0) (n := 4) (mid := [w32 (a).a, w32 (a).b, w32 (a).c, w32 (a).d]) ((hO 4 rfl).trans s4_29) (hbb4_28.ext' hR) rfl rfl (Nat.le_of_ble_eq_true rfl) row_24 rfl ⟨Ext.refl _, fun _ => rfl⟩
 refine Ask.guarded (B := (oneCheck (Sd.lone seed) a (signed seed a)) && (oneCheck (Sd.lone seed) b (signed seed b))) (want := true) (t := 87) rfl rfl rfl rfl (by decide) (fun aq wq hO hR hT => hT 87 rfl rfl) (fun hG aq wq hNq hO hR hT => ?_) (fun hno _ => fun hc => absurd hc hno)
 exact does_loadD (o := 0) (n := 4) (mid := [w32 (b).a, w32 (b).b, w32 (b).c, w32 (b).d]) ((hO 5 rfl).trans s5_29) (hbb5_28.ext' hR) rfl rfl (Nat.le_of_ble_eq_true rfl) row_24 rfl ⟨Ext.refl _, fun _ => rfl⟩
 refine Ask.guarded (B := (oneCheck (Sd.lone seed) a (signed seed a)) && (oneCheck (Sd.lone seed) b (signed seed b))) (want := true) (t := 87) rfl rfl rfl rfl (by decide) (fun aq wq hO hR hT => hT 87 rfl rfl) (fun hG aq wq hNq hO hR hT => ?_) (fun hno _ => fun hc => absurd hc hno)
 exact does_neT (a := a) (b := b) eq_24 (hT 89 rfl rfl hG) (hT 90 rfl rfl hG) ⟨Ext.refl _, fun _ => rfl⟩
 refine Ask.guarded (B := (oneCheck (Sd.lone seed) a (signed seed a)) && (oneCheck (Sd.lone seed) b (signed seed b))) (want := true) (t := 87) rfl rfl rfl rfl (by decide) (fun aq wq hO hR hT => hT 87 rfl rfl) (fun hG aq wq hNq hO hR hT => ?_) (fun hno _ => fun hc => absurd hc hno)
 exact does_eqB Tryd.underlying4 (hT 88 rfl rfl hG) (hT 91 rfl rfl hG) ⟨Ext.refl _, fun _ => rfl⟩
 exact Ask.plain rfl rfl fun aq wq hNq hO hR hT => does_and (B := (oneCheck (Sd.lone seed) a (signed seed a)) && (oneCheck (Sd.lone seed) b (signed seed b))) (X := (((aheadO a (signed seed a) b (signed seed b)).2.2) == (!decide (a = b)))) (hT 87 rfl rfl) (fun hB => (hT 92 rfl rfl hB)) rfl ⟨Ext.refl _, rfl⟩
 exact Ask.plain rfl rfl fun aq wq hNq hO hR hT => does_move (V := Value.bool (((oneCheck (Sd.lone seed) a (signed seed a)) && (oneCheck (Sd.lone seed) b (signed seed b))) && ((((aheadO a (signed seed a) b (signed seed b)).2.2) == (!decide (a = b)))))) (hT 93 rfl rfl) ⟨Ext.refl _, rfl⟩
 refine Ask.guarded (B := ((oneCheck (Sd.lone seed) a (signed seed a)) && (oneCheck (Sd.lone seed) b (signed seed b))) && ((((aheadO a (signed seed a) b (signed seed b)).2.2) == (!decide (a = b))))) (want := true) (t := 94) rfl rfl rfl rfl (by decide) (fun aq wq hO hR hT => hT 94 rfl rfl) (fun hG aq wq hNq hO hR hT => ?_) (fun hno _ => fun hc => absurd hc hno)
 exact does_move (V := Value.bool ((aheadO b (signed seed b) a (signed seed a)).2.2)) ((hO 15 rfl).trans s15_29) ⟨Ext.refl _, fun _ => rfl⟩
 refine Ask.guarded (B := ((oneCheck (Sd.lone seed) a (signed seed a)) && (oneCheck (Sd.lone seed) b (signed seed b))) && ((((aheadO a (signed seed a) b (signed seed b)).2.2) == (!decide (a = b))))) (want := true) (t := 94) rfl rfl rfl rfl (by decide) (fun aq wq hO hR hT => hT 94 rfl rfl) (fun hG aq wq hNq hO hR hT => ?_) (fun hno _ => fun hc => absurd hc hno)
 exact does_loadD (o := 0) (n := 4) (mid := [w32 (a).a, w32 (a).b, w32 (a).c, w32 (a).d]) ((hO 4 rfl).trans s4_29) (hbb4_28.ext' hR) rfl rfl (Nat.le_of_ble_eq_true rfl) row_24 rfl ⟨Ext.refl _, fun _ => rfl⟩
 refine Ask.guarded (B := ((oneCheck (Sd.lone seed) a (signed seed a)) && (oneCheck (Sd.lone seed) b (signed seed b))) && ((((aheadO a (signed seed a) b (signed seed b)).2.2) == (!decide (a = b))))) (want := true) (t := 94) rfl rfl rfl rfl (by decide) (fun aq wq hO hR hT => hT 94 rfl rfl) (fun hG aq wq hNq hO hR hT => ?_) (fun hno _ => fun hc => absurd hc hno)
 exact does_loadD (o := 0) (n := 4) (mid := [w32 (b).a, w32 (b).b, w32 (b).c, w32 (b).d]) ((hO 5 rfl).trans s5_29) (hbb5_28.ext' hR) rfl rfl (Nat.le_of_ble_eq_true rfl) row_24 rfl ⟨Ext.refl _, fun _ => rfl⟩
 refine Ask.guarded (B := ((oneCheck (Sd.lone seed) a (signed seed a)) && (oneCheck (Sd.lone seed) b (signed seed b))) && ((((aheadO a (signed seed a) b (signed seed b)).2.2) == (!decide (a = b))))) (want := true) (t := 94) rfl rfl rfl rfl (by decide) (fun aq wq hO hR hT => hT 94 rfl rfl) (fun hG aq wq hNq hO hR hT => ?_) (fun hno _ => fun hc => absurd hc hno)
 exact does_neT (a := a) (b := b) eq_24 (hT 96 rfl rfl hG) (hT 97 rfl rfl hG) ⟨Ext.refl _, fun _ => rfl⟩
 refine Ask.guarded (B := ((oneCheck (Sd.lone seed) a (signed seed a)) && (oneCheck (Sd.lone seed) b (signed seed b))) && ((((aheadO a (signed seed a) b (signed seed b)).2.2) == (!decide (a = b))))) (want := true) (t := 94) rfl rfl rfl rfl (by decide) (fun aq wq hO hR hT => hT 94 rfl rfl) (fun hG aq wq hNq hO hR hT => ?_) (fun hno _ => fun hc => absurd hc hno)
 exact does_eqB Tryd.underlying4 (hT 95 rfl rfl hG) (hT 98 rfl rfl hG) ⟨Ext.refl _, fun _ => rfl⟩
 exact Ask.plain rfl rfl fun aq wq hNq hO hR hT => does_and (B := ((oneCheck (Sd.lone seed) a (signed seed a)) && (oneCheck (Sd.lone seed) b (signed seed b))) && ((((aheadO a (signed seed a) b (signed seed b)).2.2) == (!decide (a = b))))) (X := (((aheadO b (signed seed b) a (signed seed a)).2.2) == (!decide (a = b)))) (hT 94 rfl rfl) (fun hB => (hT 99 rfl rfl hB)) rfl ⟨Ext.refl _, rfl⟩
 exact Ask.plain rfl rfl fun aq wq hNq hO hR hT => does_move (V := Value.bool ((((oneCheck (Sd.lone seed) a (signed seed a)) && (oneCheck (Sd.lone seed) b (signed seed b))) && ((((aheadO a (signed seed a) b (signed seed b)).2.2) == (!decide (a = b))))) && ((((aheadO b (signed seed b) a (signed seed a)).2.2) == (!decide (a = b)))))) (hT 100 rfl rfl) ⟨Ext.refl _, rfl⟩
 refine Ask.guarded (B := (((oneCheck (Sd.lone seed) a (signed seed a)) && (oneCheck (Sd.lone seed) b (signed seed b))) && ((((aheadO a (signed seed a) b (signed seed b)).2.2) == (!decide (a = b))))) && ((((aheadO b (signed seed b) a (signed seed a)).2.2) == (!decide (a = b))))) (want := true) (t := 101) rfl rfl rfl rfl (by decide) (fun aq wq hO hR hT => hT 101 rfl rfl) (fun hG aq wq hNq hO hR hT => ?_) (fun hno _ => fun hc => absurd hc hno)
 exact does_move (V := i64 ((0 : Nat) : Int)) ((hO 17 rfl).trans s17_29) ⟨Ext.refl _, fun _ => rfl⟩
 refine Ask.guarded (B := (((oneCheck (Sd.lone seed) a (signed seed a)) && (oneCheck (Sd.lone seed) b (signed seed b))) && ((((aheadO a (signed seed a) b (signed seed b)).2.2) == (!decide (a = b))))) && ((((aheadO b (signed seed b) a (signed seed a)).2.2) == (!decide (a = b))))) (want := true) (t := 101) rfl rfl rfl rfl (by decide) (fun aq wq hO hR hT => hT 101 rfl rfl) (fun hG aq wq hNq hO hR hT => ?_) (fun hno _ => fun hc => absurd hc hno)
 exact does_eql (a := ((0 : Nat) : Int)) (b := ((0 : Nat) : Int)) (hT 102 rfl rfl hG) rfl ⟨Ext.refl _, fun _ => rfl⟩
 exact Ask.plain rfl rfl fun aq wq hNq hO hR hT => does_and (B := (((oneCheck (Sd.lone seed) a (signed seed a)) && (oneCheck (Sd.lone seed) b (signed seed b))) && ((((aheadO a (signed seed a) b (signed seed b)).2.2) == (!decide (a = b))))) && ((((aheadO b (signed seed b) a (signed seed a)).2.2) == (!decide (a = b))))) (X := true) (hT 101 rfl rfl) (fun hB => (hT 103 rfl rfl hB)) rfl ⟨Ext.refl _, rfl⟩
 exact Ask.plain rfl rfl fun aq wq hNq hO hR hT => does_move (V := Value.bool (((((oneCheck (Sd.lone seed) a (signed seed a)) && (oneCheck (Sd.lone seed) b (signed seed b))) && ((((aheadO a (signed seed a) b (signed seed b)).2.2) == (!decide (a = b))))) && ((((aheadO b (signed seed b) a (signed seed a)).2.2) == (!decide (a = b))))) && true)) (hT 104 rfl rfl) ⟨Ext.refl _, rfl⟩
 refine Ask.guarded (B := ((((oneCheck (Sd.lone seed) a (signed seed a)) && (oneCheck (Sd.lone seed) b (signed seed b))) && ((((aheadO a (signed seed a) b (signed seed b)).2.2) == (!decide (a = b))))) && ((((aheadO b (signed seed b) a (signed seed a)).2.2) == (!decide (a = b))))) && true) (want := true) (t := 105) rfl rfl rfl rfl (by decide) (fun aq wq hO hR hT => hT 105 rfl rfl) (fun hG aq wq hNq hO hR hT => ?_) (fun hno _ => fun hc => absurd hc hno)
 exact does_move (V := i64 ((0 : Nat) : Int)) ((hO 19 rfl).trans s19_29) ⟨Ext.refl _, fun _ => rfl⟩
 refine Ask.guarded (B := ((((oneCheck (Sd.lone seed) a (signed seed a)) && (oneCheck (Sd.lone seed) b (signed seed b))) && ((((aheadO a (signed seed a) b (signed seed b)).2.2) == (!decide (a = b))))) && ((((aheadO b (signed seed b) a (signed seed a)).2.2) == (!decide (a = b))))) && true) (want := true) (t := 105) rfl rfl rfl rfl (by decide) (fun aq wq hO hR hT => hT 105 rfl rfl) (fun hG aq wq hNq hO hR hT => ?_) (fun hno _ => fun hc => absurd hc hno)
 exact does_eql (a := ((0 : Nat) : Int)) (b := ((0 : Nat) : Int)) (hT 106 rfl rfl hG) rfl ⟨Ext.refl _, fun _ => rfl⟩
 exact Ask.plain rfl rfl fun aq wq hNq hO hR hT => does_and (B := ((((oneCheck (Sd.lone seed) a (signed seed a)) && (oneCheck (Sd.lone seed) b (signed seed b))) && ((((aheadO a (signed seed a) b (signed seed b)).2.2) == (!decide (a = b))))) && ((((aheadO b (signed seed b) a (signed seed a)).2.2) == (!decide (a = b))))) && true) (X := true) (hT 105 rfl rfl) (fun hB => (hT 107 rfl rfl hB)) rfl ⟨Ext.refl _, rfl⟩
 exact Ask.plain rfl rfl fun aq wq hNq hO hR hT => does_move (V := Value.bool ((((((oneCheck (Sd.lone seed) a (signed seed a)) && (oneCheck (Sd.lone seed) b (signed seed b))) && ((((aheadO a (signed seed a) b (signed seed b)).2.2) == (!decide (a = b))))) && ((((aheadO b (signed seed b) a (signed seed a)).2.2) == (!decide (a = b))))) && true) && true)) (hT 108 rfl rfl) ⟨Ext.refl _, rfl⟩
 refine Ask.guarded (B := (((((oneCheck (Sd.lone seed) a (signed seed a)) && (oneCheck (Sd.lone seed) b (signed seed b))) && ((((aheadO a (signed seed a) b (signed seed b)).2.2) == (!decide (a = b))))) && ((((aheadO b (signed seed b) a (signed seed a)).2.2) == (!decide (a = b))))) && true) && true) (want := true) (t := 109) rfl rfl rfl rfl (by decide) (fun aq wq hO hR hT => hT 109 rfl rfl) (fun hG aq wq hNq hO hR hT => ?_) (fun hno _ => fun hc => absurd hc hno)
 exact does_move (V := i64 ((0 : Nat) : Int)) ((hO 21 rfl).trans s21_29) ⟨Ext.refl _, fun _ => rfl⟩
 refine Ask.guarded (B := (((((oneCheck (Sd.lone seed) a (signed seed a)) && (oneCheck (Sd.lone seed) b (signed seed b))) && ((((aheadO a (signed seed a) b (signed seed b)).2.2) == (!decide (a = b))))) && ((((aheadO b (signed seed b) a (signed seed a)).2.2) == (!decide (a = b))))) && true) && true) (want := true) (t := 109) rfl rfl rfl rfl (by decide) (fun aq wq hO hR hT => hT 109 rfl rfl) (fun hG aq wq hNq hO hR hT => ?_) (fun hno _ => fun hc => absurd hc hno)
 exact does_eql (a := ((0 : Nat) : Int)) (b := ((0 : Nat) : Int)) (hT 110 rfl rfl hG) rfl ⟨Ext.refl _, fun _ => rfl⟩
 exact Ask.plain rfl rfl fun aq wq hNq hO hR hT => does_and (B := (((((oneCheck (Sd.lone seed) a (signed seed a)) && (oneCheck (Sd.lone seed) b (signed seed b))) && ((((aheadO a (signed seed a) b (signed seed b)).2.2) == (!decide (a = b))))) && ((((aheadO b (signed seed b) a (signed seed a)).2.2) == (!decide (a = b))))) && true) && true) (X := true) (hT 109 rfl rfl) (fun hB => (hT 111 rfl rfl hB)) rfl ⟨Ext.refl _, rfl⟩
 exact Ask.plain rfl rfl fun aq wq hNq hO hR hT => does_move (V := Value.bool (((((((oneCheck (Sd.lone seed) a (signed seed a)) && (oneCheck (Sd.lone seed) b (signed seed b))) && ((((aheadO a (signed seed a) b (signed seed b)).2.2) == (!decide (a = b))))) && ((((aheadO b (signed seed b) a (signed seed a)).2.2) == (!decide (a = b))))) && true) && true) && true)) (hT 112 rfl rfl) ⟨Ext.refl _, rfl⟩
 refine Ask.guarded (B := ((((((oneCheck (Sd.lone seed) a (signed seed a)) && (oneCheck (Sd.lone seed) b (signed seed b))) && ((((aheadO a (signed seed a) b (signed seed b)).2.2) == (!decide (a = b))))) && ((((aheadO b (signed seed b) a (signed seed a)).2.2) == (!decide (a = b))))) && true) && true) && true) (want := true) (t := 113) rfl rfl rfl rfl (by decide) (fun aq wq hO hR hT => hT 113 rfl rfl) (fun hG aq wq hNq hO hR hT => ?_) (fun hno _ => fun hc => absurd hc hno)
 exact does_move (V := i64 (((keyUse seed (((1 : Nat) : Int)) (((2 : Nat) : Int)) a).2.2.2.2.2.2 : Nat) : Int)) ((hO 24 rfl).trans s24_29) ⟨Ext.refl _, fun _ => rfl⟩
 refine Ask.guarded (B := ((((((oneCheck (Sd.lone seed) a (signed seed a)) && (oneCheck (Sd.lone seed) b (signed seed b))) && ((((aheadO a (signed seed a) b (signed seed b)).2.2) == (!decide (a = b))))) && ((((aheadO b (signed seed b) a (signed seed a)).2.2) == (!decide (a = b))))) && true) && true) && true) (want := true) (t := 113) rfl rfl rfl rfl (by decide) (fun aq wq hO hR hT => hT 113 rfl rfl) (fun hG aq wq hNq hO hR hT => ?_) (fun hno _ => fun hc => absurd hc hno)
 exact does_eql (a := (((keyUse seed (((1 : Nat) : Int)) (((2 : Nat) : Int)) a).2.2.2.2.2.2 : Nat) : Int)) (b := ((9 : Nat) : Int)) (hT 114 rfl rfl hG) rfl ⟨Ext.refl _, fun _ => rfl⟩
 exact Ask.plain rfl rfl fun aq wq hNq hO hR hT => does_and (B := ((((((oneCheck (Sd.lone seed) a (signed seed a)) && (oneCheck (Sd.lone seed) b (signed seed b))) && ((((aheadO a (signed seed a) b (signed seed b)).2.2) == (!decide (a = b))))) && ((((aheadO b (signed seed b) a (signed seed a)).2.2) == (!decide (a = b))))) && true) && true) && true) (X := decide ((((keyUse seed (((1 : Nat) : Int)) (((2 : Nat) : Int)) a).2.2.2.2.2.2 : Nat) : Int) = ((9 : Nat) : Int))) (hT 113 rfl rfl) (fun hB => (hT 115 rfl rfl hB)) rfl ⟨Ext.refl _, rfl⟩
 exact Ask.plain rfl rfl fun aq wq hNq hO hR hT => does_move (V := Value.bool ((((((((oneCheck (Sd.lone seed) a (signed seed a)) && (oneCheck (Sd.lone seed) b (signed seed b))) && ((((aheadO a (signed seed a) b (signed seed b)).2.2) == (!decide (a = b))))) && ((((aheadO b (signed seed b) a (signed seed a)).2.2) == (!decide (a = b))))) && true) && true) && true) && (decide ((((keyUse seed (((1 : Nat) : Int)) (((2 : Nat) : Int)) a).2.2.2.2.2.2 : Nat) : Int) = ((9 : Nat) : Int))))) (hT 116 rfl rfl) ⟨Ext.refl _, rfl⟩
 refine Ask.guarded (B := (((((((oneCheck (Sd.lone seed) a (signed seed a)) && (oneCheck (Sd.lone seed) b (signed seed b))) && ((((aheadO a (signed seed a) b (signed seed b)).2.2) == (!decide (a = b))))) && ((((aheadO b (signed seed b) a (signed seed a)).2.2) == (!decide (a = b))))) && true) && true) && true) && (decide ((((keyUse seed (((1 : Nat) : Int)) (((2 : Nat) : Int)) a).2.2.2.2.2.2 : Nat) : Int) = ((9 : Nat) : Int)))) (want := true) (t := 117) rfl rfl rfl rfl (by decide) (fun aq wq hO hR hT => hT 117 rfl rfl) (fun hG aq wq hNq hO hR hT => ?_) (fun hno _ => fun hc => absurd hc hno)
 exact does_field (o' := 0) fld_37_0 ((hO 18 rfl).trans s18_29) rfl ⟨Ext.refl _, fun _ => rfl⟩
 refine Ask.guarded (B := (((((((oneCheck (Sd.lone seed) a (signed seed a)) && (oneCheck (Sd.lone seed) b (signed seed b))) && ((((aheadO a (signed seed a) b (signed seed b)).2.2) == (!decide (a = b))))) && ((((aheadO b (signed seed b) a (signed seed a)).2.2) == (!decide (a = b))))) && true) && true) && true) && (decide ((((keyUse seed (((1 : Nat) : Int)) (((2 : Nat) : Int)) a).2.2.2.2.2.2 : Nat) : Int) = ((9 : Nat) : Int)))) (want := true) (t := 117) rfl rfl rfl rfl (by decide) (fun aq wq hO hR hT => hT 117 rfl rfl) (fun hG aq wq hNq hO hR hT => ?_) (fun hno _ => fun hc => absurd hc hno)
 exact does_loadD1 (o := 0) (V := i64 ((0 : Nat) : Int)) (hT 118 rfl rfl hG) (hbb18_28.ext' hR) rfl one_3 ⟨Ext.refl _, fun _ => rfl⟩
 refine Ask.guarded (B := (((((((oneCheck (Sd.lone seed) a (signed seed a)) && (oneCheck (Sd.lone seed) b (signed seed b))) && ((((aheadO a (signed seed a) b (signed seed b)).2.2) == (!decide (a = b))))) && ((((aheadO b (signed seed b) a (signed seed a)).2.2) == (!decide (a = b))))) && true) && true) && true) && (decide ((((keyUse seed (((1 : Nat) : Int)) (((2 : Nat) : Int)) a).2.2.2.2.2.2 : Nat) : Int) = ((9 : Nat) : Int)))) (want := true) (t := 117) rfl rfl rfl rfl (by decide) (fun aq wq hO hR hT => hT 117 rfl rfl) (fun hG aq wq hNq hO hR hT => ?_) (fun hno _ => fun hc => absurd hc hno)
 exact does_field (o' := 0) fld_37_0 ((hO 20 rfl).trans s20_29) rfl ⟨Ext.refl _, fun _ => rfl⟩
 refine Ask.guarded (B := (((((((oneCheck (Sd.lone seed) a (signed seed a)) && (oneCheck (Sd.lone seed) b (signed seed b))) && ((((aheadO a (signed seed a) b (signed seed b)).2.2) == (!decide (a = b))))) && ((((aheadO b (signed seed b) a (signed seed a)).2.2) == (!decide (a = b))))) && true) && true) && true) && (decide ((((keyUse seed (((1 : Nat) : Int)) (((2 : Nat) : Int)) a).2.2.2.2.2.2 : Nat) : Int) = ((9 : Nat) : Int)))) (want := true) (t := 117) rfl rfl rfl rfl (by decide) (fun aq wq hO hR hT => hT 117 rfl rfl) (fun hG aq wq hNq hO hR hT => ?_) (fun hno _ => fun hc => absurd hc hno)
 exact does_loadD1 (o := 0) (V := i64 ((1 : Nat) : Int)) (hT 120 rfl rfl hG) (hbb20_28.ext' hR) rfl one_3 ⟨Ext.refl _, fun _ => rfl⟩
 refine Ask.guarded (B := (((((((oneCheck (Sd.lone seed) a (signed seed a)) && (oneCheck (Sd.lone seed) b (signed seed b))) && ((((aheadO a (signed seed a) b (signed seed b)).2.2) == (!decide (a = b))))) && ((((aheadO b (signed seed b) a (signed seed a)).2.2) == (!decide (a = b))))) && true) && true) && true) && (decide ((((keyUse seed (((1 : Nat) : Int)) (((2 : Nat) : Int)) a).2.2.2.2.2.2 : Nat) : Int) = ((9 : Nat) : Int)))) (want := true) (t := 117) rfl rfl rfl rfl (by decide) (fun aq wq hO hR hT => hT 117 rfl rfl) (fun hG aq wq hNq hO hR hT => ?_) (fun hno _ => fun hc => absurd hc hno)
 exact does_neq (a := ((0 : Nat) : Int)) (b := ((1 : Nat) : Int)) (hT 119 rfl rfl hG) (hT 121 rfl rfl hG) ⟨Ext.refl _, fun _ => rfl⟩
 exact Ask.plain rfl rfl fun aq wq hNq hO hR hT => does_and (B := (((((((oneCheck (Sd.lone seed) a (signed seed a)) && (oneCheck (Sd.lone seed) b (signed seed b))) && ((((aheadO a (signed seed a) b (signed seed b)).2.2) == (!decide (a = b))))) && ((((aheadO b (signed seed b) a (signed seed a)).2.2) == (!decide (a = b))))) && true) && true) && true) && (decide ((((keyUse seed (((1 : Nat) : Int)) (((2 : Nat) : Int)) a).2.2.2.2.2.2 : Nat) : Int) = ((9 : Nat) : Int)))) (X := true) (hT 117 rfl rfl) (fun hB => (hT 122 rfl rfl hB)) rfl ⟨Ext.refl _, rfl⟩
 exact Ask.plain rfl rfl fun aq wq hNq hO hR hT => does_assign (V := Value.bool (((((((((oneCheck (Sd.lone seed) a (signed seed a)) && (oneCheck (Sd.lone seed) b (signed seed b))) && ((((aheadO a (signed seed a) b (signed seed b)).2.2) == (!decide (a = b))))) && ((((aheadO b (signed seed b) a (signed seed a)).2.2) == (!decide (a = b))))) && true) && true) && true) && (decide ((((keyUse seed (((1 : Nat) : Int)) (((2 : Nat) : Int)) a).2.2.2.2.2.2 : Nat) : Int) = ((9 : Nat) : Int)))) && true)) (hT 123 rfl rfl) ⟨Ext.refl _, rfl⟩
 intro a30 wd30 hN_30 hD_30 hO hR hA hU
 obtain ⟨_, _, _, _, _, _, _, _, _, _, _, _, _, _, _, _, _, _, _, _, _, _, _, _, _, _, _, _, _, _, _, _, _, _, _, _, _, _, _, _, _, _, _, _, _, _, _, t6, _⟩ := hA
 have hE_30 := hE_28.trans hR
 have hbb3_30 := hbb3_28.ext' hR
 have hbb4_30 := hbb4_28.ext' hR
 have hbb5_30 := hbb5_28.ext' hR
 have hbb9_30 := hbb9_28.ext' hR
 have hbb11_30 := hbb11_28.ext' hR
 have hbb14_30 := hbb14_28.ext' hR
 have hbb16_30 := hbb16_28.ext' hR
 have hbb18_30 := hbb18_28.ext' hR
 have hbb20_30 := hbb20_28.ext' hR
 have hbb22_30 := hbb22_28.ext' hR
 have hbb23_30 := hbb23_28.ext' hR
 have hsx7_30 := hsx7_28.ext' hR
 have hsx8_30 := hsx8_28.ext' hR
 have hsx61_0_14_30 := hsx61_0_14_28.ext' hR
 have hsx61_1_14_30 := hsx61_1_14_28.ext' hR
 have hsx68_0_19_30 := hsx68_0_19_28.ext' hR
 have hsx68_1_19_30 := hsx68_1_19_28.ext' hR
 have hsx75_0_24_30 := hsx75_0_24_28.ext' hR
 have hsx75_1_24_30 := hsx75_1_24_28.ext' hR
 have hox7_30 := hox7_28.ext' hR
 have hox8_30 := hox8_28.ext' hR
 have hox61_0_14_30 := hox61_0_14_28.ext' hR
 have hox61_1_14_30 := hox61_1_14_28.ext' hR
 have hox68_0_19_30 := hox68_0_19_28.ext' hR
 have hox68_1_19_30 := hox68_1_19_28.ext' hR
 have hox75_0_24_30 := hox75_0_24_28.ext' hR
 have hox75_1_24_30 := hox75_1_24_28.ext' hR
 have s6_30 : get a30 6 = Value.bool (((((((((oneCheck (Sd.lone seed) a (signed seed a)) && (oneCheck (Sd.lone seed) b (signed seed b))) && ((((aheadO a (signed seed a) b (signed seed b)).2.2) == (!decide (a = b))))) && ((((aheadO b (signed seed b) a (signed seed a)).2.2) == (!decide (a = b))))) && true) && true) && true) && (decide ((((keyUse seed (((1 : Nat) : Int)) (((2 : Nat) : Int)) a).2.2.2.2.2.2 : Nat) : Int) = ((9 : Nat) : Int)))) && true) := t6
 clear hE_28 hN_29 hD_29 s4_29 s5_29 s7_29 s8_29 s9_29 s12_29 s15_29 s17_29 s18_29 s19_29 s20_29 s21_29 s24_29 hbb3_28 hbb4_28 hbb5_28 hbb9_28 hbb11_28 hbb14_28 hbb16_28 hbb18_28 hbb20_28 hbb22_28 hbb23_28 hsx7_28 hsx8_28 hsx61_0_14_28 hsx61_1_14_28 hsx68_0_19_28 hsx68_1_19_28 hsx75_0_24_28 hsx75_1_24_28 hox7_28 hox8_28 hox61_0_14_28 hox61_1_14_28 hox68_0_19_28 hox68_1_19_28 hox75_0_24_28 hox75_1_24_28
 refine tail_nil ?_
 refine wp_ret ?_
 refine res_one (V := Value.bool (((((((((oneCheck (Sd.lone seed) a (signed seed a)) && (oneCheck (Sd.lone seed) b (signed seed b))) && ((((aheadO a (signed seed a) b (signed seed b)).2.2) == (!decide (a = b))))) && ((((aheadO b (signed seed b) a (signed seed a)).2.2) == (!decide (a = b))))) && true) && true) && true) && (decide ((((keyUse seed (((1 : Nat) : Int)) (((2 : Nat) : Int)) a).2.2.2.2.2.2 : Nat) : Int) = ((9 : Nat) : Int)))) && true)) rfl hD_30 s6_30 ?_
 exact ⟨congrArg Value.bool (by rw [oneCheck_signed, oneCheck_signed, ahead_law, ahead_law, show keyUse seed ((1 : Nat) : Int) ((2 : Nat) : Int) a = _ from keyUse_arg (by decide) (by decide)]; simp [eq_comm]), hE_30⟩

end Go.Proofs.YtaeohnkfmachfabDoor
