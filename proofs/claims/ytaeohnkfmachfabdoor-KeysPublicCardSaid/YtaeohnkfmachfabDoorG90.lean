/- The walks of functions of the program: printed. -/
import Derived.Test.YtaeohnkfmachfabDoorK
import Derived.Test.YtaeohnkfmachfabDoorG3
import Derived.Test.YtaeohnkfmachfabDoorG60
import Derived.Test.YtaeohnkfmachfabDoorF0
set_option maxRecDepth 100000
namespace Go.Proofs.YtaeohnkfmachfabDoor
open Go Go.RowKit Sk Sd
theorem begin_ (seed : Dg) (i : Nat) (w0 : World) (hL : Laid w0) :
    Gives Tryd.prog 34 #[Dg.val (seed), i64 ((i : Nat) : Int)] w0 (Pr.ex (Dg.val (Sd.start seed i))) := by
 refine enter (N := 10) Tryd.func34 rfl rfl ?_
 intro a0 hN_0 hD_0 hA
 have s0_0 : get a0 0 = Dg.val (seed) := hA 0 _ rfl
 have s1_0 : get a0 1 = i64 ((i : Nat) : Int) := hA 1 _ rfl
 clear hA
 have hE_0 : Ext w0 w0 := Ext.refl w0
 refine wp_seq ?_
 refine region_lex [2, 4] [(2, Pr.box' w0.heap.size 24 [w32 (seed).a, w32 (seed).b, w32 (seed).c, w32 (seed).d]), (4, Pr.box' w0.heap.size 24 [w32 (Dg.zero).a, w32 (Dg.zero).b, w32 (Dg.zero).c, w32 (Dg.zero).d])] 2 hN_0 hD_0 (by kernel_rfl) (by kernel_rfl) ?_ ?_
 refine Asks.cons ?_ (Asks.cons ?_ (Asks.zero _))
 refine Ask.fresh rfl rfl ?_
 intro aq wq hNq hO hR hT
 exact does_box (V := Dg.val (seed)) ((hO 0 rfl).trans s0_0) (fun b w2 he hlo hb => ⟨he, ⟨b, rfl, Nat.le_trans hR.size' hlo, hb⟩, ⟨b, rfl, hlo, hb.lt⟩⟩)
 refine Ask.fresh rfl rfl ?_
 intro aq wq hNq hO hR hT
 exact does_alloc zero_24 (fun b w2 he hlo hb => ⟨he, ⟨b, rfl, Nat.le_trans hR.size' hlo, hb⟩, ⟨b, rfl, hlo, hb.lt⟩⟩)
 intro a1 wd1 hN_1 hD_1 hO hR hA hU
 obtain ⟨t2, t4, _⟩ := hA
 have hE_1 := hE_0.trans hR
 have s1_1 := (hO 1 rfl).trans s1_0
 obtain ⟨b2, s2_1, lo_b2, hbb2_1⟩ := t2
 have fr_b2 : w0.heap.size ≤ b2 := Nat.le_trans hE_0.size' lo_b2
 obtain ⟨b4, s4_1, lo_b4, hbb4_1⟩ := t4
 have fr_b4 : w0.heap.size ≤ b4 := Nat.le_trans hE_0.size' lo_b4
 obtain ⟨u0, ⟨u1, _⟩⟩ := hU
 have ne_b2_b4 : b2 ≠ b4 := fun e => u0 4 (by decide) (by rw [s2_1, s4_1, e])
 clear hE_0 hN_0 hD_0 s0_0 s1_0
 refine tail_nil ?_
 refine wp_seq ?_
 refine region_lex [] [(5, Pr.ex (Dg.val (seed))), (6, Pr.ex (i64 ((i : Nat) : Int))), (7, Pr.ex (w32 (UInt32.ofNat i))), (8, Pr.ex (Dg.val ((⟨UInt32.ofNat i, 0, 0, 0⟩ : Dg)))), (9, Pr.ex (Dg.val (pair seed ((⟨UInt32.ofNat i, 0, 0, 0⟩ : Dg)))))] 5 hN_1 hD_1 (by kernel_rfl) (by kernel_rfl) ?_ ?_
 refine Asks.cons ?_ (Asks.cons ?_ (Asks.cons ?_ (Asks.cons ?_ (Asks.cons ?_ (Asks.zero _)))))
 exact Ask.plain rfl rfl fun aq wq hNq hO hR hT => does_loadD (o := 0) (n := 4) (mid := [w32 (seed).a, w32 (seed).b, w32 (seed).c, w32 (seed).d]) ((hO 2 rfl).trans s2_1) (hbb2_1.ext' hR) rfl rfl (Nat.le_of_ble_eq_true rfl) row_24 rfl ⟨Ext.refl _, rfl⟩
 exact Ask.plain rfl rfl fun aq wq hNq hO hR hT => does_move (V := i64 ((i : Nat) : Int)) ((hO 1 rfl).trans s1_1) ⟨Ext.refl _, rfl⟩
 exact Ask.plain rfl rfl fun aq wq hNq hO hR hT => does_conv ⟨_, Tryd.underlying3⟩ Tryd.underlying22 (hT 6 rfl rfl) (wrap_u32 _) ⟨Ext.refl _, rfl⟩
 exact Ask.plain rfl rfl fun aq wq hNq hO hR hT => does_build (vs := #[(0, w32 (UInt32.ofNat i))]) (V := Dg.val ((⟨UInt32.ofNat i, 0, 0, 0⟩ : Dg))) (parts1 (hT 7 rfl rfl)) (by kernel_rfl) ⟨Ext.refl _, rfl⟩
 exact Ask.plain rfl rfl fun aq wq hNq hO hR hT => does_ret (vs := #[Dg.val (seed), Dg.val ((⟨UInt32.ofNat i, 0, 0, 0⟩ : Dg))]) call_46 (args2 (hT 5 rfl rfl) (hT 8 rfl rfl)) rfl ((pair_ (seed) ((⟨UInt32.ofNat i, 0, 0, 0⟩ : Dg)) wq (hL.ext (hE_1.trans hR))).mono fun v w2 h => ⟨h.2, h.1⟩)
 intro a2 wd2 hN_2 hD_2 hO hR hA hU
 obtain ⟨_, _, _, _, t9, _⟩ := hA
 have hE_2 := hE_1.trans hR
 have s4_2 := (hO 4 rfl).trans s4_1
 have hbb2_2 := hbb2_1.ext' hR
 have hbb4_2 := hbb4_1.ext' hR
 have s9_2 : get a2 9 = Dg.val (pair seed ((⟨UInt32.ofNat i, 0, 0, 0⟩ : Dg))) := t9
 clear hE_1 hN_1 hD_1 s1_1 s2_1 s4_1 hbb2_1 hbb4_1
 refine tail_none rfl rfl (does_storeD (o := 0) (n := 4) (cs' := [w32 (pair seed ((⟨UInt32.ofNat i, 0, 0, 0⟩ : Dg))).a, w32 (pair seed ((⟨UInt32.ofNat i, 0, 0, 0⟩ : Dg))).b, w32 (pair seed ((⟨UInt32.ofNat i, 0, 0, 0⟩ : Dg))).c, w32 (pair seed ((⟨UInt32.ofNat i, 0, 0, 0⟩ : Dg))).d]) (V := Dg.val (pair seed ((⟨UInt32.ofNat i, 0, 0, 0⟩ : Dg)))) s4_2 s9_2 hbb4_2 (Nat.le_of_ble_eq_true rfl) rfl siz_24 rfl rfl (fun wd3 hX hz hbb4_3 => ?_))
 have hE_3 := hE_2.since hX (fun k e => e ▸ fr_b4)
 have hbb2_3 := hbb2_2.ext hX ne_b2_b4
 clear hX hz hE_2 hbb2_2 hbb4_2
 refine tail_nil ?_
 refine wp_ret ?_
 refine res_one (V := Dg.val (pair seed ((⟨UInt32.ofNat i, 0, 0, 0⟩ : Dg)))) rfl hD_2 (ResIs.cell s4_2 hbb4_3 row_24 rfl rfl) ?_
 exact ⟨rfl, hE_3⟩

theorem public1 (seed : Dg) (i bd : Nat) (w0 : World) (hL : Laid w0) (hbd : Has w0 bd 24 [w32 seed.a, w32 seed.b, w32 seed.c, w32 seed.d]) :
    Gives Tryd.prog 36 #[i64 ((i : Nat) : Int), Value.pointer (some ⟨bd, 0, none⟩)] w0 (Pr.ex (Dg.val (link1 seed i))) := by
 refine enter (N := 8) Tryd.func36 rfl rfl ?_
 intro a0 hN_0 hD_0 hA
 have s0_0 : get a0 0 = i64 ((i : Nat) : Int) := hA 0 _ rfl
 have s1_0 : get a0 1 = Value.pointer (some ⟨bd, 0, none⟩) := hA 1 _ rfl
 clear hA
 have hE_0 : Ext w0 w0 := Ext.refl w0
 refine wp_seq ?_
 refine region_lex [3] [(3, Pr.box' w0.heap.size 24 [w32 (Dg.zero).a, w32 (Dg.zero).b, w32 (Dg.zero).c, w32 (Dg.zero).d])] 1 hN_0 hD_0 (by kernel_rfl) (by kernel_rfl) ?_ ?_
 refine Asks.cons ?_ (Asks.zero _)
 refine Ask.fresh rfl rfl ?_
 intro aq wq hNq hO hR hT
 exact does_alloc zero_24 (fun b w2 he hlo hb => ⟨he, ⟨b, rfl, Nat.le_trans hR.size' hlo, hb⟩, ⟨b, rfl, hlo, hb.lt⟩⟩)
 intro a1 wd1 hN_1 hD_1 hO hR hA hU
 obtain ⟨t3, _⟩ := hA
 have hE_1 := hE_0.trans hR
 have s0_1 := (hO 0 rfl).trans s0_0
 have s1_1 := (hO 1 rfl).trans s1_0
 have hbbd_1 := hbd.ext' hR
 obtain ⟨b3, s3_1, lo_b3, hbb3_1⟩ := t3
 have ne_bd_b3 : bd ≠ b3 := fun e => Nat.lt_irrefl _ (Nat.lt_of_lt_of_le hbd.lt (e ▸ lo_b3))
 have fr_b3 : w0.heap.size ≤ b3 := Nat.le_trans hE_0.size' lo_b3
 clear hE_0 hN_0 hD_0 s0_0 s1_0 hbd
 refine tail_nil ?_
 refine wp_seq ?_
 refine region_lex [] [(4, Pr.ex (Dg.val (seed))), (5, Pr.ex (i64 ((i : Nat) : Int))), (6, Pr.ex (Dg.val (Sd.start seed i))), (7, Pr.ex (Dg.val (walk (Sd.start seed i) 15)))] 4 hN_1 hD_1 (by kernel_rfl) (by kernel_rfl) ?_ ?_
 refine Asks.cons ?_ (Asks.cons ?_ (Asks.cons ?_ (Asks.cons ?_ (Asks.zero _))))
 exact Ask.plain rfl rfl fun aq wq hNq hO hR hT => does_loadD (o := 0) (n := 4) (mid := [w32 (seed).a, w32 (seed).b, w32 (seed).c, w32 (seed).d]) ((hO 1 rfl).trans s1_1) (hbbd_1.ext' hR) rfl rfl (Nat.le_of_ble_eq_true rfl) row_24 rfl ⟨Ext.refl _, rfl⟩
 exact Ask.plain rfl rfl fun aq wq hNq hO hR hT => does_move (V := i64 ((i : Nat) : Int)) ((hO 0 rfl).trans s0_1) ⟨Ext.refl _, rfl⟩
 exact Ask.plain rfl rfl fun aq wq hNq hO hR hT => does_ret (vs := #[Dg.val (seed), i64 ((i : Nat) : Int)]) call_34 (args2 (hT 4 rfl rfl) (hT 5 rfl rfl)) rfl ((begin_ seed i wq (hL.ext (hE_1.trans hR))).mono fun v w2 h => ⟨h.2, h.1⟩)
 exact Ask.plain rfl rfl fun aq wq hNq hO hR hT => does_ret (vs := #[Dg.val (Sd.start seed i), i64 ((15 : Nat) : Int)]) call_33 (args2 (hT 6 rfl rfl) rfl) rfl ((along_ (Sd.start seed i) (15) wq (hL.ext (hE_1.trans hR)) (by omega)).mono fun v w2 h => ⟨h.2, h.1⟩)
 intro a2 wd2 hN_2 hD_2 hO hR hA hU
 obtain ⟨_, _, _, t7, _⟩ := hA
 have hE_2 := hE_1.trans hR
 have s3_2 := (hO 3 rfl).trans s3_1
 have hbbd_2 := hbbd_1.ext' hR
 have hbb3_2 := hbb3_1.ext' hR
 have s7_2 : get a2 7 = Dg.val (walk (Sd.start seed i) 15) := t7
 clear hE_1 hN_1 hD_1 s0_1 s1_1 s3_1 hbbd_1 hbb3_1
 refine tail_none rfl rfl (does_storeD (o := 0) (n := 4) (cs' := [w32 (walk (Sd.start seed i) 15).a, w32 (walk (Sd.start seed i) 15).b, w32 (walk (Sd.start seed i) 15).c, w32 (walk (Sd.start seed i) 15).d]) (V := Dg.val (walk (Sd.start seed i) 15)) s3_2 s7_2 hbb3_2 (Nat.le_of_ble_eq_true rfl) rfl siz_24 rfl rfl (fun wd3 hX hz hbb3_3 => ?_))
 have hE_3 := hE_2.since hX (fun k e => e ▸ fr_b3)
 have hbbd_3 := hbbd_2.ext hX ne_bd_b3
 clear hX hz hE_2 hbbd_2 hbb3_2
 refine tail_nil ?_
 refine wp_ret ?_
 refine res_one (V := Dg.val (walk (Sd.start seed i) 15)) rfl hD_2 (ResIs.cell s3_2 hbb3_3 row_24 rfl rfl) ?_
 exact ⟨rfl, hE_3⟩

theorem ends2 (seed : Dg) (bd : Nat) (w0 : World) (hL : Laid w0) (hbd : Has w0 bd 24 [w32 seed.a, w32 seed.b, w32 seed.c, w32 seed.d]) :
    Gives Tryd.prog 35 #[Value.func (.func 36) #[] #[Value.pointer (some ⟨bd, 0, none⟩)]] w0 (Pr.ex (Dg.val (Sd.lone seed))) := by
 refine enter (N := 16) Tryd.func35 rfl rfl ?_
 intro a0 hN_0 hD_0 hA
 have s0_0 : get a0 0 = Value.func (.func 36) #[] #[Value.pointer (some ⟨bd, 0, none⟩)] := hA 0 _ rfl
 clear hA
 have hE_0 : Ext w0 w0 := Ext.refl w0
 refine wp_seq ?_
 refine region_lex [2] [(2, Pr.box' w0.heap.size 24 [w32 (Dg.zero).a, w32 (Dg.zero).b, w32 (Dg.zero).c, w32 (Dg.zero).d])] 1 hN_0 hD_0 (by kernel_rfl) (by kernel_rfl) ?_ ?_
 refine Asks.cons ?_ (Asks.zero _)
 refine Ask.fresh rfl rfl ?_
 intro aq wq hNq hO hR hT
 exact does_alloc zero_24 (fun b w2 he hlo hb => ⟨he, ⟨b, rfl, Nat.le_trans hR.size' hlo, hb⟩, ⟨b, rfl, hlo, hb.lt⟩⟩)
 intro a1 wd1 hN_1 hD_1 hO hR hA hU
 obtain ⟨t2, _⟩ := hA
 have hE_1 := hE_0.trans hR
 have s0_1 := (hO 0 rfl).trans s0_0
 have hbbd_1 := hbd.ext' hR
 obtain ⟨b2, s2_1, lo_b2, hbb2_1⟩ := t2
 have ne_bd_b2 : bd ≠ b2 := fun e => Nat.lt_irrefl _ (Nat.lt_of_lt_of_le hbd.lt (e ▸ lo_b2))
 have fr_b2 : w0.heap.size ≤ b2 := Nat.le_trans hE_0.size' lo_b2
 clear hE_0 hN_0 hD_0 s0_0 hbd
 refine tail_nil ?_
 refine wp_seq ?_
 refine region_lex [3] [(5, Pr.ex (Dg.val ((⟨(35 : UInt32), 0, 0, 0⟩ : Dg)))), (3, Pr.box' wd1.heap.size 24 [w32 (Dg.zero).a, w32 (Dg.zero).b, w32 (Dg.zero).c, w32 (Dg.zero).d])] 2 hN_1 hD_1 (by kernel_rfl) (by kernel_rfl) ?_ ?_
 refine Asks.cons ?_ (Asks.cons ?_ (Asks.zero _))
 exact Ask.plain rfl rfl fun aq wq hNq hO hR hT => does_build (vs := #[(0, w32 (35))]) (V := Dg.val ((⟨(35 : UInt32), 0, 0, 0⟩ : Dg))) (parts1 rfl) (by kernel_rfl) ⟨Ext.refl _, rfl⟩
 refine Ask.fresh rfl rfl ?_
 intro aq wq hNq hO hR hT
 exact does_alloc zero_24 (fun b w2 he hlo hb => ⟨he, ⟨b, rfl, Nat.le_trans hR.size' hlo, hb⟩, ⟨b, rfl, hlo, hb.lt⟩⟩)
 intro a2 wd2 hN_2 hD_2 hO hR hA hU
 obtain ⟨t5, t3, _⟩ := hA
 have hE_2 := hE_1.trans hR
 have s0_2 := (hO 0 rfl).trans s0_1
 have s2_2 := (hO 2 rfl).trans s2_1
 have hbbd_2 := hbbd_1.ext' hR
 have hbb2_2 := hbb2_1.ext' hR
 have s5_2 : get a2 5 = Dg.val ((⟨(35 : UInt32), 0, 0, 0⟩ : Dg)) := t5
 obtain ⟨b3, s3_2, lo_b3, hbb3_2⟩ := t3
 have ne_bd_b3 : bd ≠ b3 := fun e => Nat.lt_irrefl _ (Nat.lt_of_lt_of_le hbbd_1.lt (e ▸ lo_b3))
 have ne_b2_b3 : b2 ≠ b3 := fun e => Nat.lt_irrefl _ (Nat.lt_of_lt_of_le hbb2_1.lt (e ▸ lo_b3))
 have fr_b3 : w0.heap.size ≤ b3 := Nat.le_trans hE_1.size' lo_b3
 clear hE_1 hN_1 hD_1 s0_1 s2_1 hbbd_1 hbb2_1
 refine tail_none rfl rfl (does_storeD (o := 0) (n := 4) (cs' := [w32 ((⟨(35 : UInt32), 0, 0, 0⟩ : Dg)).a, w32 ((⟨(35 : UInt32), 0, 0, 0⟩ : Dg)).b, w32 ((⟨(35 : UInt32), 0, 0, 0⟩ : Dg)).c, w32 ((⟨(35 : UInt32), 0, 0, 0⟩ : Dg)).d]) (V := Dg.val ((⟨(35 : UInt32), 0, 0, 0⟩ : Dg))) s3_2 s5_2 hbb3_2 (Nat.le_of_ble_eq_true rfl) rfl siz_24 rfl rfl (fun wd3 hX hz hbb3_3 => ?_))
 have hE_3 := hE_2.since hX (fun k e => e ▸ fr_b3)
 have hbbd_3 := hbbd_2.ext hX ne_bd_b3
 have hbb2_3 := hbb2_2.ext hX ne_b2_b3
 clear hX hz hE_2 hbbd_2 hbb2_2 hbb3_2
 refine tail_nil ?_
 refine wp_seq ?_
 refine wp_seq ?_
 refine region_lex [] [(6, Pr.ex (i64 ((0 : Nat) : Int)))] 1 hN_2 hD_2 (by kernel_rfl) (by kernel_rfl) ?_ ?_
 refine Asks.cons ?_ (Asks.zero _)
 exact Ask.plain rfl rfl fun aq wq hNq hO hR hT => does_move (V := i64 ((0 : Nat) : Int)) rfl ⟨Ext.refl _, rfl⟩
 intro a4 wd4 hN_4 hD_4 hO hR hA hU
 obtain ⟨t6, _⟩ := hA
 have hE_4 := hE_3.trans hR
 have s0_4 := (hO 0 rfl).trans s0_2
 have s2_4 := (hO 2 rfl).trans s2_2
 have s3_4 := (hO 3 rfl).trans s3_2
 have hbbd_4 := hbbd_3.ext' hR
 have hbb2_4 := hbb2_3.ext' hR
 have hbb3_4 := hbb3_3.ext' hR
 have s6_4 : get a4 6 = i64 ((0 : Nat) : Int) := t6
 clear hE_3 hN_2 hD_2 s0_2 s2_2 s3_2 s5_2 hbbd_3 hbb2_3 hbb3_3
 refine tail_nil ?_
 refine wp_block ?_
 refine loop_g (fun mz az wz => ∃ k : Nat, mz = 35 - k ∧ (az.tmps.size = 16) ∧ (az.defers = []) ∧ (get az 0 = Value.func (.func 36) #[] #[Value.pointer (some ⟨bd, 0, none⟩)]) ∧ (get az 2 = Value.pointer (some ⟨b2, 0, none⟩)) ∧ (get az 3 = Value.pointer (some ⟨b3, 0, none⟩)) ∧ (get az 6 = i64 ((k : Nat) : Int)) ∧ (Ext w0 wz) ∧ (Has wz bd 24 [w32 (seed).a, w32 (seed).b, w32 (seed).c, w32 (seed).d]) ∧ (Has wz b2 24 [w32 (Dg.zero).a, w32 (Dg.zero).b, w32 (Dg.zero).c, w32 (Dg.zero).d]) ∧ (Has wz b3 24 [w32 (tied (⟨(35 : UInt32), (0 : UInt32), (0 : UInt32), (0 : UInt32)⟩ : Dg) ((List.range k).map (link1 seed))).a, w32 (tied (⟨(35 : UInt32), (0 : UInt32), (0 : UInt32), (0 : UInt32)⟩ : Dg) ((List.range k).map (link1 seed))).b, w32 (tied (⟨(35 : UInt32), (0 : UInt32), (0 : UInt32), (0 : UInt32)⟩ : Dg) ((List.range k).map (link1 seed))).c, w32 (tied (⟨(35 : UInt32), (0 : UInt32), (0 : UInt32), (0 : UInt32)⟩ : Dg) ((List.range k).map (link1 seed))).d]) ∧ (k ≤ 35)) ?_ ?_
 exact ⟨_, 0, rfl, hN_4, hD_4, s0_4, s2_4, s3_4, s6_4, hE_4, hbbd_4, hbb2_4, hbb3_4, by decide⟩
 rintro mz a5 wd5 ⟨k, rfl, hN_5, hD_5, s0_5, s2_5, s3_5, s6_5, hE_5, hbbd_5, hbb2_5, hbb3_5, hk⟩
 refine wp_seq ?_
 refine region_lex [] [(7, Pr.ex (Value.bool (decide (((k : Nat) : Int) < ((35 : Nat) : Int)))))] 1 hN_5 hD_5 (by kernel_rfl) (by kernel_rfl) ?_ ?_
 refine Asks.cons ?_ (Asks.zero _)
 exact Ask.plain rfl rfl fun aq wq hNq hO hR hT => does_lss (a := ((k : Nat) : Int)) (b := ((35 : Nat) : Int)) ((hO 6 rfl).trans s6_5) rfl ⟨Ext.refl _, rfl⟩
 intro a6 wd6 hN_6 hD_6 hO hR hA hU
 obtain ⟨t7, _⟩ := hA
 have hE_6 := hE_5.trans hR
 have s0_6 := (hO 0 rfl).trans s0_5
 have s2_6 := (hO 2 rfl).trans s2_5
 have s3_6 := (hO 3 rfl).trans s3_5
 have s6_6 := (hO 6 rfl).trans s6_5
 have hbbd_6 := hbbd_5.ext' hR
 have hbb2_6 := hbb2_5.ext' hR
 have hbb3_6 := hbb3_5.ext' hR
 have s7_6 : get a6 7 = Value.bool (decide (((k : Nat) : Int) < ((35 : Nat) : Int))) := t7
 clear hE_5 hN_5 hD_5 s0_5 s2_5 s3_5 s6_5 hbbd_5 hbb2_5 hbb3_5
 refine tail_nil ?_
 refine wp_seq ?_
 refine wp_if (B := decide (((k : Nat) : Int) < ((35 : Nat) : Int))) s7_6 (fun hc0 => ?_) (fun hc0 => ?_)
 have hc0 := of_decide_eq_true hc0
 refine wp_skip ?_
 refine wp_seq ?_
 refine wp_block ?_
 refine wp_seq ?_
 refine region_lex [] [(8, Pr.ex (i64 ((k : Nat) : Int))), (4, Pr.ex (i64 ((k : Nat) : Int)))] 2 hN_6 hD_6 (by kernel_rfl) (by kernel_rfl) ?_ ?_
 refine Asks.cons ?_ (Asks.cons ?_ (Asks.zero _))
 exact Ask.plain rfl rfl fun aq wq hNq hO hR hT => does_move (V := i64 ((k : Nat) : Int)) ((hO 6 rfl).trans s6_6) ⟨Ext.refl _, rfl⟩
 exact Ask.plain rfl rfl fun aq wq hNq hO hR hT => does_assign (V := i64 ((k : Nat) : Int)) (hT 8 rfl rfl) ⟨Ext.refl _, rfl⟩
 intro a7 wd7 hN_7 hD_7 hO hR hA hU
 obtain ⟨_, t4, _⟩ := hA
 have hE_7 := hE_6.trans hR
 have s0_7 := (hO 0 rfl).trans s0_6
 have s2_7 := (hO 2 rfl).trans s2_6
 have s3_7 := (hO 3 rfl).trans s3_6
 have s6_7 := (hO 6 rfl).trans s6_6
 have hbbd_7 := hbbd_6.ext' hR
 have hbb2_7 := hbb2_6.ext' hR
 have hbb3_7 := hbb3_6.ext' hR
 have s4_7 : get a7 4 = i64 ((k : Nat) : Int) := t4
 clear hE_6 hN_6 hD_6 s0_6 s2_6 s3_6 s6_6 s7_6 hbbd_6 hbb2_6 hbb3_6
 refine tail_nil ?_
 refine region_any [] [(9, Pr.ex (Dg.val (tied (⟨(35 : UInt32), (0 : UInt32), (0 : UInt32), (0 : UInt32)⟩ : Dg) ((List.range k).map (link1 seed))))), (10, Pr.ex (Value.func (.func 36) #[] #[Value.pointer (some ⟨bd, 0, none⟩)])), (11, Pr.ex (i64 ((k : Nat) : Int))), (12, Pr.ex (Dg.val (link1 seed k))), (13, Pr.ex (Dg.val (pair (tied (⟨(35 : UInt32), (0 : UInt32), (0 : UInt32), (0 : UInt32)⟩ : Dg) ((List.range k).map (link1 seed))) (link1 seed k))))] 5 mixed hN_7 hD_7 (by kernel_rfl) (by kernel_rfl) (by kernel_rfl) ?_ ?_
 refine Asks.cons ?_ (Asks.cons ?_ (Asks.cons ?_ (Asks.cons ?_ (Asks.cons ?_ (Asks.zero _)))))
 exact Ask.plainD rfl rfl fun aq wq hNq hO hR hT => does_loadD (o := 0) (n := 4) (mid := [w32 (tied (⟨(35 : UInt32), (0 : UInt32), (0 : UInt32), (0 : UInt32)⟩ : Dg) ((List.range k).map (link1 seed))).a, w32 (tied (⟨(35 : UInt32), (0 : UInt32), (0 : UInt32), (0 : UInt32)⟩ : Dg) ((List.range k).map (link1 seed))).b, w32 (tied (⟨(35 : UInt32), (0 : UInt32), (0 : UInt32), (0 : UInt32)⟩ : Dg) ((List.range k).map (link1 seed))).c, w32 (tied (⟨(35 : UInt32), (0 : UInt32), (0 : UInt32), (0 : UInt32)⟩ : Dg) ((List.range k).map (link1 seed))).d]) ((hO 3 rfl).trans s3_7) (hbb3_7.ext' hR) rfl rfl (Nat.le_of_ble_eq_true rfl) row_24 rfl ⟨Ext.refl _, rfl⟩
 exact Ask.plainD rfl rfl fun aq wq hNq hO hR hT => does_move (V := Value.func (.func 36) #[] #[Value.pointer (some ⟨bd, 0, none⟩)]) ((hO 0 rfl).trans s0_7) ⟨Ext.refl _, rfl⟩
 exact Ask.plainD rfl rfl fun aq wq hNq hO hR hT => does_move (V := i64 ((k : Nat) : Int)) ((hO 4 rfl).trans s4_7) ⟨Ext.refl _, rfl⟩
 exact Ask.plainD rfl rfl fun aq wq hNq hO hR hT => does_retv (vs := #[i64 ((k : Nat) : Int)]) (cap := #[Value.pointer (some ⟨bd, 0, none⟩)]) call_36 (args1 (hT 11 rfl rfl)) (hT 10 rfl rfl) ((public1 seed k bd wq (hL.ext (hE_7.trans hR)) (hbbd_7.ext' hR)).mono fun v w2 h => ⟨h.2, h.1⟩)
 exact Ask.plainD rfl rfl fun aq wq hNq hO hR hT => does_ret (vs := #[Dg.val (tied (⟨(35 : UInt32), (0 : UInt32), (0 : UInt32), (0 : UInt32)⟩ : Dg) ((List.range k).map (link1 seed))), Dg.val (link1 seed k)]) call_46 (args2 (hT 9 rfl rfl) (hT 12 rfl rfl)) rfl ((pair_ (tied (⟨(35 : UInt32), (0 : UInt32), (0 : UInt32), (0 : UInt32)⟩ : Dg) ((List.range k).map (link1 seed))) (link1 seed k) wq (hL.ext (hE_7.trans hR))).mono fun v w2 h => ⟨h.2, h.1⟩)
 intro a8 wd8 hN_8 hD_8 hO hR hA hU
 obtain ⟨_, _, _, _, t13, _⟩ := hA
 have hE_8 := hE_7.trans hR
 have s0_8 := (hO 0 rfl).trans s0_7
 have s2_8 := (hO 2 rfl).trans s2_7
 have s3_8 := (hO 3 rfl).trans s3_7
 have s6_8 := (hO 6 rfl).trans s6_7
 have hbbd_8 := hbbd_7.ext' hR
 have hbb2_8 := hbb2_7.ext' hR
 have hbb3_8 := hbb3_7.ext' hR
 have s13_8 : get a8 13 = Dg.val (pair (tied (⟨(35 : UInt32), (0 : UInt32), (0 : UInt32), (0 : UInt32)⟩ : Dg) ((List.range k).map (link1 seed))) (link1 seed k)) := t13
 clear hE_7 hN_7 hD_7 s0_7 s2_7 s3_7 s4_7 s6_7 hbbd_7 hbb2_7 hbb3_7
 refine tail_none rfl rfl (does_storeD (o := 0) (n := 4) (cs' := [w32 (pair (tied (⟨(35 : UInt32), (0 : UInt32), (0 : UInt32), (0 : UInt32)⟩ : Dg) ((List.range k).map (link1 seed))) (link1 seed k)).a, w32 (pair (tied (⟨(35 : UInt32), (0 : UInt32), (0 : UInt32), (0 : UInt32)⟩ : Dg) ((List.range k).map (link1 seed))) (link1 seed k)).b, w32 (pair (tied (⟨(35 : UInt32), (0 : UInt32), (0 : UInt32), (0 : UInt32)⟩ : Dg) ((List.range k).map (link1 seed))) (link1 seed k)).c, w32 (pair (tied (⟨(35 : UInt32), (0 : UInt32), (0 : UInt32), (0 : UInt32)⟩ : Dg) ((List.range k).map (link1 seed))) (link1 seed k)).d]) (V := Dg.val (pair (tied (⟨(35 : UInt32), (0 : UInt32), (0 : UInt32), (0 : UInt32)⟩ : Dg) ((List.range k).map (link1 seed))) (link1 seed k))) s3_8 s13_8 hbb3_8 (Nat.le_of_ble_eq_true rfl) rfl siz_24 rfl rfl (fun wd9 hX hz hbb3_9 => ?_))
 have hE_9 := hE_8.since hX (fun k e => e ▸ fr_b3)
 have hbbd_9 := hbbd_8.ext hX ne_bd_b3
 have hbb2_9 := hbb2_8.ext hX ne_b2_b3
 clear hX hz hE_8 hbbd_8 hbb2_8 hbb3_8
 refine tail_nil ?_
 refine region_lex [] [(14, Pr.ex (i64 ((k + 1 : Nat) : Int)))] 1 hN_8 hD_8 (by kernel_rfl) (by kernel_rfl) ?_ ?_
 refine Asks.cons ?_ (Asks.zero _)
 exact Ask.plain rfl rfl fun aq wq hNq hO hR hT => does_add (a := ((k : Nat) : Int)) (b := ((1 : Nat) : Int)) (r := ((k + 1 : Nat) : Int)) ((hO 6 rfl).trans s6_8) rfl (by omega) (by omega) (by omega) ⟨Ext.refl _, rfl⟩
 intro a10 wd10 hN_10 hD_10 hO hR hA hU
 obtain ⟨t14, _⟩ := hA
 have hE_10 := hE_9.trans hR
 have s0_10 := (hO 0 rfl).trans s0_8
 have s2_10 := (hO 2 rfl).trans s2_8
 have s3_10 := (hO 3 rfl).trans s3_8
 have s6_10 := (hO 6 rfl).trans s6_8
 have hbbd_10 := hbbd_9.ext' hR
 have hbb2_10 := hbb2_9.ext' hR
 have hbb3_10 := hbb3_9.ext' hR
 have s14_10 : get a10 14 = i64 ((k + 1 : Nat) : Int) := t14
 clear hE_9 hN_8 hD_8 s0_8 s2_8 s3_8 s6_8 s13_8 hbbd_9 hbb2_9 hbb3_9
 refine tail_put rfl rfl hN_10 hD_10 (by decide) (does_move (V := i64 ((k + 1 : Nat) : Int)) s14_10 (fun a11 hN_11 hD_11 hv hO => ?_))
 have s6_11 := hv
 have s0_11 := (hO 0 rfl).trans s0_10
 have s2_11 := (hO 2 rfl).trans s2_10
 have s3_11 := (hO 3 rfl).trans s3_10
 clear hO hv hN_10 hD_10 s0_10 s2_10 s3_10 s14_10 s6_10
 refine tail_nil ?_
 exact ⟨_, by omega, k + 1, rfl, hN_11, hD_11, s0_11, s2_11, s3_11, s6_11, hE_10, hbbd_10, hbb2_10, (by have h := hbb3_10; rw [tied_step (f := link1 seed) (k := k) rfl] at h; exact h), by omega⟩
 have hc0 := of_decide_eq_false hc0
 refine wp_exit ?_
 refine wp_seq ?_
 refine region_lex [] [(15, Pr.ex (Dg.val (tied (⟨(35 : UInt32), (0 : UInt32), (0 : UInt32), (0 : UInt32)⟩ : Dg) ((List.range k).map (link1 seed)))))] 1 hN_6 hD_6 (by kernel_rfl) (by kernel_rfl) ?_ ?_
 refine Asks.cons ?_ (Asks.zero _)
 exact Ask.plain rfl rfl fun aq wq hNq hO hR hT => does_loadD (o := 0) (n := 4) (mid := [w32 (tied (⟨(35 : UInt32), (0 : UInt32), (0 : UInt32), (0 : UInt32)⟩ : Dg) ((List.range k).map (link1 seed))).a, w32 (tied (⟨(35 : UInt32), (0 : UInt32), (0 : UInt32), (0 : UInt32)⟩ : Dg) ((List.range k).map (link1 seed))).b, w32 (tied (⟨(35 : UInt32), (0 : UInt32), (0 : UInt32), (0 : UInt32)⟩ : Dg) ((List.range k).map (link1 seed))).c, w32 (tied (⟨(35 : UInt32), (0 : UInt32), (0 : UInt32), (0 : UInt32)⟩ : Dg) ((List.range k).map (link1 seed))).d]) ((hO 3 rfl).trans s3_6) (hbb3_6.ext' hR) rfl rfl (Nat.le_of_ble_eq_true rfl) row_24 rfl ⟨Ext.refl _, rfl⟩
 intro a12 wd12 hN_12 hD_12 hO hR hA hU
 obtain ⟨t15, _⟩ := hA
 have hE_12 := hE_6.trans hR
 have s2_12 := (hO 2 rfl).trans s2_6
 have hbbd_12 := hbbd_6.ext' hR
 have hbb2_12 := hbb2_6.ext' hR
 have hbb3_12 := hbb3_6.ext' hR
 have s15_12 : get a12 15 = Dg.val (tied (⟨(35 : UInt32), (0 : UInt32), (0 : UInt32), (0 : UInt32)⟩ : Dg) ((List.range k).map (link1 seed))) := t15
 clear hE_6 hN_6 hD_6 s0_6 s2_6 s3_6 s6_6 s7_6 hbbd_6 hbb2_6 hbb3_6
 refine tail_none rfl rfl (does_storeD (o := 0) (n := 4) (cs' := [w32 (tied (⟨(35 : UInt32), (0 : UInt32), (0 : UInt32), (0 : UInt32)⟩ : Dg) ((List.range k).map (link1 seed))).a, w32 (tied (⟨(35 : UInt32), (0 : UInt32), (0 : UInt32), (0 : UInt32)⟩ : Dg) ((List.range k).map (link1 seed))).b, w32 (tied (⟨(35 : UInt32), (0 : UInt32), (0 : UInt32), (0 : UInt32)⟩ : Dg) ((List.range k).map (link1 seed))).c, w32 (tied (⟨(35 : UInt32), (0 : UInt32), (0 : UInt32), (0 : UInt32)⟩ : Dg) ((List.range k).map (link1 seed))).d]) (V := Dg.val (tied (⟨(35 : UInt32), (0 : UInt32), (0 : UInt32), (0 : UInt32)⟩ : Dg) ((List.range k).map (link1 seed)))) s2_12 s15_12 hbb2_12 (Nat.le_of_ble_eq_true rfl) rfl siz_24 rfl rfl (fun wd13 hX hz hbb2_13 => ?_))
 have hE_13 := hE_12.since hX (fun k e => e ▸ fr_b2)
 have hbbd_13 := hbbd_12.ext hX ne_bd_b2
 have hbb3_13 := hbb3_12.ext hX ne_b2_b3.symm
 clear hX hz hE_12 hbbd_12 hbb2_12 hbb3_12
 refine tail_nil ?_
 refine wp_ret ?_
 refine res_one (V := Dg.val (tied (⟨(35 : UInt32), (0 : UInt32), (0 : UInt32), (0 : UInt32)⟩ : Dg) ((List.range k).map (link1 seed)))) rfl hD_12 (ResIs.cell s2_12 hbb2_13 row_24 rfl rfl) ?_
 have hk35 : k = 35 := by omega
 subst hk35
 exact ⟨by show Dg.val _ = Dg.val _; rw [lone_eq], hE_13⟩

theorem public_ (seed : Dg) (w0 : World) (hL : Laid w0) :
    Gives Tryd.prog 16 #[Dg.val (seed)] w0 (Pr.ex (Dg.val (Sd.lone seed))) := by
 refine enter (N := 5) Tryd.func16 rfl rfl ?_
 intro a0 hN_0 hD_0 hA
 have s0_0 : get a0 0 = Dg.val (seed) := hA 0 _ rfl
 clear hA
 have hE_0 : Ext w0 w0 := Ext.refl w0
 refine wp_seq ?_
 refine region_lex [1, 2] [(1, Pr.box' w0.heap.size 24 [w32 (seed).a, w32 (seed).b, w32 (seed).c, w32 (seed).d]), (2, Pr.box' w0.heap.size 24 [w32 (Dg.zero).a, w32 (Dg.zero).b, w32 (Dg.zero).c, w32 (Dg.zero).d])] 2 hN_0 hD_0 (by kernel_rfl) (by kernel_rfl) ?_ ?_
 refine Asks.cons ?_ (Asks.cons ?_ (Asks.zero _))
 refine Ask.fresh rfl rfl ?_
 intro aq wq hNq hO hR hT
 exact does_box (V := Dg.val (seed)) ((hO 0 rfl).trans s0_0) (fun b w2 he hlo hb => ⟨he, ⟨b, rfl, Nat.le_trans hR.size' hlo, hb⟩, ⟨b, rfl, hlo, hb.lt⟩⟩)
 refine Ask.fresh rfl rfl ?_
 intro aq wq hNq hO hR hT
 exact does_alloc zero_24 (fun b w2 he hlo hb => ⟨he, ⟨b, rfl, Nat.le_trans hR.size' hlo, hb⟩, ⟨b, rfl, hlo, hb.lt⟩⟩)
 intro a1 wd1 hN_1 hD_1 hO hR hA hU
 obtain ⟨t1, t2, _⟩ := hA
 have hE_1 := hE_0.trans hR
 obtain ⟨b1, s1_1, lo_b1, hbb1_1⟩ := t1
 have fr_b1 : w0.heap.size ≤ b1 := Nat.le_trans hE_0.size' lo_b1
 obtain ⟨b2, s2_1, lo_b2, hbb2_1⟩ := t2
 have fr_b2 : w0.heap.size ≤ b2 := Nat.le_trans hE_0.size' lo_b2
 obtain ⟨u0, ⟨u1, _⟩⟩ := hU
 have ne_b1_b2 : b1 ≠ b2 := fun e => u0 2 (by decide) (by rw [s1_1, s2_1, e])
 clear hE_0 hN_0 hD_0 s0_0
 refine tail_nil ?_
 refine wp_seq ?_
 refine region_lex [] [(3, Pr.ex (Value.func (.func 36) #[] #[Value.pointer (some ⟨b1, 0, none⟩)])), (4, Pr.ex (Dg.val (Sd.lone seed)))] 2 hN_1 hD_1 (by kernel_rfl) (by kernel_rfl) ?_ ?_
 refine Asks.cons ?_ (Asks.cons ?_ (Asks.zero _))
 exact Ask.plain rfl rfl fun aq wq hNq hO hR hT => does_makeFunc (vs := #[Value.pointer (some ⟨b1, 0, none⟩)]) (args1 ((hO 1 rfl).trans s1_1)) ⟨Ext.refl _, rfl⟩
 exact Ask.plain rfl rfl fun aq wq hNq hO hR hT => does_ret (vs := #[Value.func (.func 36) #[] #[Value.pointer (some ⟨b1, 0, none⟩)]]) call_35 (args1 (hT 3 rfl rfl)) rfl ((ends2 seed b1 wq (hL.ext (hE_1.trans hR)) (hbb1_1.ext' hR)).mono fun v w2 h => ⟨h.2, h.1⟩)
 intro a2 wd2 hN_2 hD_2 hO hR hA hU
 obtain ⟨_, t4, _⟩ := hA
 have hE_2 := hE_1.trans hR
 have s2_2 := (hO 2 rfl).trans s2_1
 have hbb1_2 := hbb1_1.ext' hR
 have hbb2_2 := hbb2_1.ext' hR
 have s4_2 : get a2 4 = Dg.val (Sd.lone seed) := t4
 clear hE_1 hN_1 hD_1 s1_1 s2_1 hbb1_1 hbb2_1
 refine tail_none rfl rfl (does_storeD (o := 0) (n := 4) (cs' := [w32 (Sd.lone seed).a, w32 (Sd.lone seed).b, w32 (Sd.lone seed).c, w32 (Sd.lone seed).d]) (V := Dg.val (Sd.lone seed)) s2_2 s4_2 hbb2_2 (Nat.le_of_ble_eq_true rfl) rfl siz_24 rfl rfl (fun wd3 hX hz hbb2_3 => ?_))
 have hE_3 := hE_2.since hX (fun k e => e ▸ fr_b2)
 have hbb1_3 := hbb1_2.ext hX ne_b1_b2
 clear hX hz hE_2 hbb1_2 hbb2_2
 refine tail_nil ?_
 refine wp_ret ?_
 refine res_one (V := Dg.val (Sd.lone seed)) rfl hD_2 (ResIs.cell s2_2 hbb2_3 row_24 rfl rfl) ?_
 exact ⟨rfl, hE_3⟩

end Go.Proofs.YtaeohnkfmachfabDoor
