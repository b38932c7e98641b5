/- The walks of functions of the program: printed. -/
import Derived.Test.YtaeohnkfmachfabDoorK
import Derived.Test.YtaeohnkfmachfabDoorG3
import Derived.Test.YtaeohnkfmachfabDoorF0
set_option maxRecDepth 100000
namespace Go.Proofs.YtaeohnkfmachfabDoor
open Go Go.RowKit Sk Sd
theorem along_ (x : Dg) (n : Nat) (w0 : World) (hL : Laid w0) (hn : n ≤ 15) :
    Gives Tryd.prog 33 #[Dg.val (x), i64 ((n : Nat) : Int)] w0 (Pr.ex (Dg.val (walk x n))) := by
 refine enter (N := 13) Tryd.func33 rfl rfl ?_
 intro a0 hN_0 hD_0 hA
 have s0_0 : get a0 0 = Dg.val (x) := hA 0 _ rfl
 have s1_0 : get a0 1 = i64 ((n : Nat) : Int) := hA 1 _ rfl
 clear hA
 have hE_0 : Ext w0 w0 := Ext.refl w0
 refine wp_seq ?_
 refine region_lex [2, 4] [(2, Pr.box' w0.heap.size 24 [w32 (x).a, w32 (x).b, w32 (x).c, w32 (x).d]), (4, Pr.box' w0.heap.size 24 [w32 (Dg.zero).a, w32 (Dg.zero).b, w32 (Dg.zero).c, w32 (Dg.zero).d])] 2 hN_0 hD_0 (by kernel_rfl) (by kernel_rfl) ?_ ?_
 refine Asks.cons ?_ (Asks.cons ?_ (Asks.zero _))
 refine Ask.fresh rfl rfl ?_
 intro aq wq hNq hO hR hT
 exact does_box (V := Dg.val (x)) ((hO 0 rfl).trans s0_0) (fun b w2 he hlo hb => ⟨he, ⟨b, rfl, Nat.le_trans hR.size' hlo, hb⟩, ⟨b, rfl, hlo, hb.lt⟩⟩)
 refine Ask.fresh rfl rfl ?_
 intro aq wq hNq hO hR hT
 exact does_alloc zero_24 (fun b w2 he hlo hb => ⟨he, ⟨b, rfl, Nat.le_trans hR.size' hlo, hb⟩, ⟨b, rfl, hlo, hb.lt⟩⟩)
 intro a1 wd1 hN_1 hD_1 hO hR hA hU
 obtain ⟨t2, t4, _⟩ := hA
 have hE_1 := hE_0.trans hR
 have s1_1 := (hO 1 rfl).trans s1_0
 obtain ⟨b2, s2_1, lo_b2, hbb2_1⟩ := t2
 have fr_b2 : w0.heap.size ≤ b2 := Nat.le_trans hE_0.size' lo_b2
 obtain ⟨b4, s4_1, lo_b4, hbb4_1⟩ := t4
 have fr_b4 : w0.heap.size ≤ b4 := Nat.le_trans hE_0.size' lo_b4
 obtain ⟨u0, ⟨u1, _⟩⟩ := hU
 have ne_b2_b4 : b2 ≠ b4 := fun e => u0 4 (by decide) (by rw [s2_1, s4_1, e])
 clear hE_0 hN_0 hD_0 s0_0 s1_0
 refine tail_nil ?_
 refine wp_seq ?_
 refine wp_seq ?_
 refine region_lex [] [(5, Pr.ex (i64 ((n : Nat) : Int))), (6, Pr.ex (i64 ((0 : Nat) : Int)))] 2 hN_1 hD_1 (by kernel_rfl) (by kernel_rfl) ?_ ?_
 refine Asks.cons ?_ (Asks.cons ?_ (Asks.zero _))
 exact Ask.plain rfl rfl fun aq wq hNq hO hR hT => does_move (V := i64 ((n : Nat) : Int)) ((hO 1 rfl).trans s1_1) ⟨Ext.refl _, rfl⟩
 exact Ask.plain rfl rfl fun aq wq hNq hO hR hT => does_move (V := i64 ((0 : Nat) : Int)) rfl ⟨Ext.refl _, rfl⟩
 intro a2 wd2 hN_2 hD_2 hO hR hA hU
 obtain ⟨t5, t6, _⟩ := hA
 have hE_2 := hE_1.trans hR
 have s2_2 := (hO 2 rfl).trans s2_1
 have s4_2 := (hO 4 rfl).trans s4_1
 have hbb2_2 := hbb2_1.ext' hR
 have hbb4_2 := hbb4_1.ext' hR
 have s5_2 : get a2 5 = i64 ((n : Nat) : Int) := t5
 have s6_2 : get a2 6 = i64 ((0 : Nat) : Int) := t6
 clear hE_1 hN_1 hD_1 s1_1 s2_1 s4_1 hbb2_1 hbb4_1
 refine tail_nil ?_
 refine wp_block ?_
 refine loop_g (fun mz az wz => ∃ k : Nat, mz = n - k ∧ (az.tmps.size = 13) ∧ (az.defers = []) ∧ (get az 2 = Value.pointer (some ⟨b2, 0, none⟩)) ∧ (get az 4 = Value.pointer (some ⟨b4, 0, none⟩)) ∧ (get az 5 = i64 ((n : Nat) : Int)) ∧ (get az 6 = i64 ((k : Nat) : Int)) ∧ (Ext w0 wz) ∧ (Has wz b2 24 [w32 (walk x k).a, w32 (walk x k).b, w32 (walk x k).c, w32 (walk x k).d]) ∧ (Has wz b4 24 [w32 (Dg.zero).a, w32 (Dg.zero).b, w32 (Dg.zero).c, w32 (Dg.zero).d]) ∧ (k ≤ n)) ?_ ?_
 exact ⟨_, 0, rfl, hN_2, hD_2, s2_2, s4_2, s5_2, s6_2, hE_2, hbb2_2, hbb4_2, Nat.zero_le _⟩
 rintro mz a3 wd3 ⟨k, rfl, hN_3, hD_3, s2_3, s4_3, s5_3, s6_3, hE_3, hbb2_3, hbb4_3, hk⟩
 refine wp_seq ?_
 refine region_lex [] [(7, Pr.ex (Value.bool (decide (((k : Nat) : Int) < ((n : Nat) : Int)))))] 1 hN_3 hD_3 (by kernel_rfl) (by kernel_rfl) ?_ ?_
 refine Asks.cons ?_ (Asks.zero _)
 exact Ask.plain rfl rfl fun aq wq hNq hO hR hT => does_lss (a := ((k : Nat) : Int)) (b := ((n : Nat) : Int)) ((hO 6 rfl).trans s6_3) ((hO 5 rfl).trans s5_3) ⟨Ext.refl _, rfl⟩
 intro a4 wd4 hN_4 hD_4 hO hR hA hU
 obtain ⟨t7, _⟩ := hA
 have hE_4 := hE_3.trans hR
 have s2_4 := (hO 2 rfl).trans s2_3
 have s4_4 := (hO 4 rfl).trans s4_3
 have s5_4 := (hO 5 rfl).trans s5_3
 have s6_4 := (hO 6 rfl).trans s6_3
 have hbb2_4 := hbb2_3.ext' hR
 have hbb4_4 := hbb4_3.ext' hR
 have s7_4 : get a4 7 = Value.bool (decide (((k : Nat) : Int) < ((n : Nat) : Int))) := t7
 clear hE_3 hN_3 hD_3 s2_3 s4_3 s5_3 s6_3 hbb2_3 hbb4_3
 refine tail_nil ?_
 refine wp_seq ?_
 refine wp_if (B := decide (((k : Nat) : Int) < ((n : Nat) : Int))) s7_4 (fun hc0 => ?_) (fun hc0 => ?_)
 have hc0 := of_decide_eq_true hc0
 refine wp_skip ?_
 refine wp_seq ?_
 refine wp_block ?_
 refine region_lex [] [(8, Pr.ex (Dg.val (walk x k))), (9, Pr.ex (Dg.val ((⟨(0 : UInt32), (0 : UInt32), (0 : UInt32), (1 : UInt32)⟩ : Dg)))), (10, Pr.ex (Dg.val (pair (walk x k) ((⟨(0 : UInt32), (0 : UInt32), (0 : UInt32), (1 : UInt32)⟩ : Dg)))))] 3 hN_4 hD_4 (by kernel_rfl) (by kernel_rfl) ?_ ?_
 refine Asks.cons ?_ (Asks.cons ?_ (Asks.cons ?_ (Asks.zero _)))
 exact Ask.plain rfl rfl fun aq wq hNq hO hR hT => does_loadD (o := 0) (n := 4) (mid := [w32 (walk x k).a, w32 (walk x k).b, w32 (walk x k).c, w32 (walk x k).d]) ((hO 2 rfl).trans s2_4) (hbb2_4.ext' hR) rfl rfl (Nat.le_of_ble_eq_true rfl) row_24 rfl ⟨Ext.refl _, rfl⟩
 exact Ask.plain rfl rfl fun aq wq hNq hO hR hT => does_build (vs := #[(0, w32 (0)), (1, w32 (0)), (2, w32 (0)), (3, w32 (1))]) (V := Dg.val ((⟨(0 : UInt32), (0 : UInt32), (0 : UInt32), (1 : UInt32)⟩ : Dg))) (parts4 rfl rfl rfl rfl) (by kernel_rfl) ⟨Ext.refl _, rfl⟩
 exact Ask.plain rfl rfl fun aq wq hNq hO hR hT => does_ret (vs := #[Dg.val (walk x k), Dg.val ((⟨(0 : UInt32), (0 : UInt32), (0 : UInt32), (1 : UInt32)⟩ : Dg))]) call_46 (args2 (hT 8 rfl rfl) (hT 9 rfl rfl)) rfl ((pair_ (walk x k) ((⟨(0 : UInt32), (0 : UInt32), (0 : UInt32), (1 : UInt32)⟩ : Dg)) wq (hL.ext (hE_4.trans hR))).mono fun v w2 h => ⟨h.2, h.1⟩)
 intro a5 wd5 hN_5 hD_5 hO hR hA hU
 obtain ⟨_, _, t10, _⟩ := hA
 have hE_5 := hE_4.trans hR
 have s2_5 := (hO 2 rfl).trans s2_4
 have s4_5 := (hO 4 rfl).trans s4_4
 have s5_5 := (hO 5 rfl).trans s5_4
 have s6_5 := (hO 6 rfl).trans s6_4
 have hbb2_5 := hbb2_4.ext' hR
 have hbb4_5 := hbb4_4.ext' hR
 have s10_5 : get a5 10 = Dg.val (pair (walk x k) ((⟨(0 : UInt32), (0 : UInt32), (0 : UInt32), (1 : UInt32)⟩ : Dg))) := t10
 clear hE_4 hN_4 hD_4 s2_4 s4_4 s5_4 s6_4 s7_4 hbb2_4 hbb4_4
 refine tail_none rfl rfl (does_storeD (o := 0) (n := 4) (cs' := [w32 (pair (walk x k) ((⟨(0 : UInt32), (0 : UInt32), (0 : UInt32), (1 : UInt32)⟩ : Dg))).a, w32 (pair (walk x k) ((⟨(0 : UInt32), (0 : UInt32), (0 : UInt32), (1 : UInt32)⟩ : Dg))).b, w32 (pair (walk x k) ((⟨(0 : UInt32), (0 : UInt32), (0 : UInt32), (1 : UInt32)⟩ : Dg))).c, w32 (pair (walk x k) ((⟨(0 : UInt32), (0 : UInt32), (0 : UInt32), (1 : UInt32)⟩ : Dg))).d]) (V := Dg.val (pair (walk x k) ((⟨(0 : UInt32), (0 : UInt32), (0 : UInt32), (1 : UInt32)⟩ : Dg)))) s2_5 s10_5 hbb2_5 (Nat.le_of_ble_eq_true rfl) rfl siz_24 rfl rfl (fun wd6 hX hz hbb2_6 => ?_))
 have hE_6 := hE_5.since hX (fun k e => e ▸ fr_b2)
 have hbb4_6 := hbb4_5.ext hX ne_b2_b4.symm
 clear hX hz hE_5 hbb2_5 hbb4_5
 refine tail_nil ?_
 refine region_lex [] [(11, Pr.ex (i64 ((k + 1 : Nat) : Int)))] 1 hN_5 hD_5 (by kernel_rfl) (by kernel_rfl) ?_ ?_
 refine Asks.cons ?_ (Asks.zero _)
 exact Ask.plain rfl rfl fun aq wq hNq hO hR hT => does_add (a := ((k : Nat) : Int)) (b := ((1 : Nat) : Int)) (r := ((k + 1 : Nat) : Int)) ((hO 6 rfl).trans s6_5) rfl (by omega) (by omega) (by omega) ⟨Ext.refl _, rfl⟩
 intro a7 wd7 hN_7 hD_7 hO hR hA hU
 obtain ⟨t11, _⟩ := hA
 have hE_7 := hE_6.trans hR
 have s2_7 := (hO 2 rfl).trans s2_5
 have s4_7 := (hO 4 rfl).trans s4_5
 have s5_7 := (hO 5 rfl).trans s5_5
 have s6_7 := (hO 6 rfl).trans s6_5
 have hbb2_7 := hbb2_6.ext' hR
 have hbb4_7 := hbb4_6.ext' hR
 have s11_7 : get a7 11 = i64 ((k + 1 : Nat) : Int) := t11
 clear hE_6 hN_5 hD_5 s2_5 s4_5 s5_5 s6_5 s10_5 hbb2_6 hbb4_6
 refine tail_put rfl rfl hN_7 hD_7 (by decide) (does_move (V := i64 ((k + 1 : Nat) : Int)) s11_7 (fun a8 hN_8 hD_8 hv hO => ?_))
 have s6_8 := hv
 have s2_8 := (hO 2 rfl).trans s2_7
 have s4_8 := (hO 4 rfl).trans s4_7
 have s5_8 := (hO 5 rfl).trans s5_7
 clear hO hv hN_7 hD_7 s2_7 s4_7 s5_7 s11_7 s6_7
 refine tail_nil ?_
 exact ⟨_, by omega, k + 1, rfl, hN_8, hD_8, s2_8, s4_8, s5_8, s6_8, hE_7, (by have h := hbb2_7; rw [← walk_step] at h; exact h), hbb4_7, by omega⟩
 have hc0 := of_decide_eq_false hc0
 refine wp_exit ?_
 refine wp_seq ?_
 refine region_lex [] [(12, Pr.ex (Dg.val (walk x k)))] 1 hN_4 hD_4 (by kernel_rfl) (by kernel_rfl) ?_ ?_
 refine Asks.cons ?_ (Asks.zero _)
 exact Ask.plain rfl rfl fun aq wq hNq hO hR hT => does_loadD (o := 0) (n := 4) (mid := [w32 (walk x k).a, w32 (walk x k).b, w32 (walk x k).c, w32 (walk x k).d]) ((hO 2 rfl).trans s2_4) (hbb2_4.ext' hR) rfl rfl (Nat.le_of_ble_eq_true rfl) row_24 rfl ⟨Ext.refl _, rfl⟩
 intro a9 wd9 hN_9 hD_9 hO hR hA hU
 obtain ⟨t12, _⟩ := hA
 have hE_9 := hE_4.trans hR
 have s4_9 := (hO 4 rfl).trans s4_4
 have hbb2_9 := hbb2_4.ext' hR
 have hbb4_9 := hbb4_4.ext' hR
 have s12_9 : get a9 12 = Dg.val (walk x k) := t12
 clear hE_4 hN_4 hD_4 s2_4 s4_4 s5_4 s6_4 s7_4 hbb2_4 hbb4_4
 refine tail_none rfl rfl (does_storeD (o := 0) (n := 4) (cs' := [w32 (walk x k).a, w32 (walk x k).b, w32 (walk x k).c, w32 (walk x k).d]) (V := Dg.val (walk x k)) s4_9 s12_9 hbb4_9 (Nat.le_of_ble_eq_true rfl) rfl siz_24 rfl rfl (fun wd10 hX hz hbb4_10 => ?_))
 have hE_10 := hE_9.since hX (fun k e => e ▸ fr_b4)
 have hbb2_10 := hbb2_9.ext hX ne_b2_b4
 clear hX hz hE_9 hbb2_9 hbb4_9
 refine tail_nil ?_
 refine wp_ret ?_
 refine res_one (V := Dg.val (walk x k)) rfl hD_9 (ResIs.cell s4_9 hbb4_10 row_24 rfl rfl) ?_
 have hkn : k = n := by omega
 subst hkn
 exact ⟨rfl, hE_10⟩

theorem walkR (x : Dg) (n : Nat) (w0 : World) (hn : n ≤ 15) :
    Gives Tryd.prog 39 #[Dg.val (x), i64 ((n : Nat) : Int)] w0 (Pr.ex (Dg.val (walk x n))) := by
 refine enter (N := 15) Tryd.func39 rfl rfl ?_
 intro a0 hN_0 hD_0 hA
 have s0_0 : get a0 0 = Dg.val (x) := hA 0 _ rfl
 have s1_0 : get a0 1 = i64 ((n : Nat) : Int) := hA 1 _ rfl
 clear hA
 have hE_0 : Ext w0 w0 := Ext.refl w0
 refine wp_seq ?_
 refine region_lex [2, 4] [(2, Pr.box' w0.heap.size 24 [w32 (x).a, w32 (x).b, w32 (x).c, w32 (x).d]), (4, Pr.box' w0.heap.size 24 [w32 (Dg.zero).a, w32 (Dg.zero).b, w32 (Dg.zero).c, w32 (Dg.zero).d])] 2 hN_0 hD_0 (by kernel_rfl) (by kernel_rfl) ?_ ?_
 refine Asks.cons ?_ (Asks.cons ?_ (Asks.zero _))
 refine Ask.fresh rfl rfl ?_
 intro aq wq hNq hO hR hT
 exact does_box (V := Dg.val (x)) ((hO 0 rfl).trans s0_0) (fun b w2 he hlo hb => ⟨he, ⟨b, rfl, Nat.le_trans hR.size' hlo, hb⟩, ⟨b, rfl, hlo, hb.lt⟩⟩)
 refine Ask.fresh rfl rfl ?_
 intro aq wq hNq hO hR hT
 exact does_alloc zero_24 (fun b w2 he hlo hb => ⟨he, ⟨b, rfl, Nat.le_trans hR.size' hlo, hb⟩, ⟨b, rfl, hlo, hb.lt⟩⟩)
 intro a1 wd1 hN_1 hD_1 hO hR hA hU
 obtain ⟨t2, t4, _⟩ := hA
 have hE_1 := hE_0.trans hR
 have s1_1 := (hO 1 rfl).trans s1_0
 obtain ⟨b2, s2_1, lo_b2, hbb2_1⟩ := t2
 have fr_b2 : w0.heap.size ≤ b2 := Nat.le_trans hE_0.size' lo_b2
 obtain ⟨b4, s4_1, lo_b4, hbb4_1⟩ := t4
 have fr_b4 : w0.heap.size ≤ b4 := Nat.le_trans hE_0.size' lo_b4
 obtain ⟨u0, ⟨u1, _⟩⟩ := hU
 have ne_b2_b4 : b2 ≠ b4 := fun e => u0 4 (by decide) (by rw [s2_1, s4_1, e])
 clear hE_0 hN_0 hD_0 s0_0 s1_0
 refine tail_nil ?_
 refine wp_seq ?_
 refine wp_seq ?_
 refine region_lex [] [(5, Pr.ex (i64 ((0 : Nat) : Int)))] 1 hN_1 hD_1 (by kernel_rfl) (by kernel_rfl) ?_ ?_
 refine Asks.cons ?_ (Asks.zero _)
 exact Ask.plain rfl rfl fun aq wq hNq hO hR hT => does_assign (V := i64 ((0 : Nat) : Int)) rfl ⟨Ext.refl _, rfl⟩
 intro a2 wd2 hN_2 hD_2 hO hR hA hU
 obtain ⟨t5, _⟩ := hA
 have hE_2 := hE_1.trans hR
 have s1_2 := (hO 1 rfl).trans s1_1
 have s2_2 := (hO 2 rfl).trans s2_1
 have s4_2 := (hO 4 rfl).trans s4_1
 have hbb2_2 := hbb2_1.ext' hR
 have hbb4_2 := hbb4_1.ext' hR
 have s5_2 : get a2 5 = i64 ((0 : Nat) : Int) := t5
 clear hE_1 hN_1 hD_1 s1_1 s2_1 s4_1 hbb2_1 hbb4_1
 refine tail_nil ?_
 refine wp_block ?_
 refine loop_g (fun mz az wz => ∃ k : Nat, mz = n - k ∧ (az.tmps.size = 15) ∧ (az.defers = []) ∧ (get az 1 = i64 ((n : Nat) : Int)) ∧ (get az 2 = Value.pointer (some ⟨b2, 0, none⟩)) ∧ (get az 4 = Value.pointer (some ⟨b4, 0, none⟩)) ∧ (get az 5 = i64 ((k : Nat) : Int)) ∧ (Ext w0 wz) ∧ (Has wz b2 24 [w32 (walk x k).a, w32 (walk x k).b, w32 (walk x k).c, w32 (walk x k).d]) ∧ (Has wz b4 24 [w32 (Dg.zero).a, w32 (Dg.zero).b, w32 (Dg.zero).c, w32 (Dg.zero).d]) ∧ (k ≤ n)) ?_ ?_
 exact ⟨_, 0, rfl, hN_2, hD_2, s1_2, s2_2, s4_2, s5_2, hE_2, hbb2_2, hbb4_2, Nat.zero_le _⟩
 rintro mz a3 wd3 ⟨k, rfl, hN_3, hD_3, s1_3, s2_3, s4_3, s5_3, hE_3, hbb2_3, hbb4_3, hk⟩
 refine wp_seq ?_
 refine wp_seq ?_
 refine region_lex [] [(6, Pr.ex (i64 ((k : Nat) : Int))), (7, Pr.ex (i64 ((n : Nat) : Int))), (8, Pr.ex (Value.bool (decide (((k : Nat) : Int) < ((n : Nat) : Int)))))] 3 hN_3 hD_3 (by kernel_rfl) (by kernel_rfl) ?_ ?_
 refine Asks.cons ?_ (Asks.cons ?_ (Asks.cons ?_ (Asks.zero _)))
 exact Ask.plain rfl rfl fun aq wq hNq hO hR hT => does_move (V := i64 ((k : Nat) : Int)) ((hO 5 rfl).trans s5_3) ⟨Ext.refl _, rfl⟩
 exact Ask.plain rfl rfl fun aq wq hNq hO hR hT => does_move (V := i64 ((n : Nat) : Int)) ((hO 1 rfl).trans s1_3) ⟨Ext.refl _, rfl⟩
 exact Ask.plain rfl rfl fun aq wq hNq hO hR hT => does_lss (a := ((k : Nat) : Int)) (b := ((n : Nat) : Int)) (hT 6 rfl rfl) (hT 7 rfl rfl) ⟨Ext.refl _, rfl⟩
 intro a4 wd4 hN_4 hD_4 hO hR hA hU
 obtain ⟨_, _, t8, _⟩ := hA
 have hE_4 := hE_3.trans hR
 have s1_4 := (hO 1 rfl).trans s1_3
 have s2_4 := (hO 2 rfl).trans s2_3
 have s4_4 := (hO 4 rfl).trans s4_3
 have s5_4 := (hO 5 rfl).trans s5_3
 have hbb2_4 := hbb2_3.ext' hR
 have hbb4_4 := hbb4_3.ext' hR
 have s8_4 : get a4 8 = Value.bool (decide (((k : Nat) : Int) < ((n : Nat) : Int))) := t8
 clear hE_3 hN_3 hD_3 s1_3 s2_3 s4_3 s5_3 hbb2_3 hbb4_3
 refine tail_nil ?_
 refine wp_if (B := decide (((k : Nat) : Int) < ((n : Nat) : Int))) s8_4 (fun hc0 => ?_) (fun hc0 => ?_)
 have hc0 := of_decide_eq_true hc0
 refine wp_skip ?_
 refine wp_seq ?_
 refine wp_block ?_
 refine region_lex [] [(11, Pr.ex (Dg.val (walk x k))), (12, Pr.ex (Dg.val ((⟨(0 : UInt32), (0 : UInt32), (0 : UInt32), (1 : UInt32)⟩ : Dg)))), (13, Pr.ex (Dg.val (pair (walk x k) ((⟨(0 : UInt32), (0 : UInt32), (0 : UInt32), (1 : UInt32)⟩ : Dg)))))] 3 hN_4 hD_4 (by kernel_rfl) (by kernel_rfl) ?_ ?_
 refine Asks.cons ?_ (Asks.cons ?_ (Asks.cons ?_ (Asks.zero _)))
 exact Ask.plain rfl rfl fun aq wq hNq hO hR hT => does_loadD (o := 0) (n := 4) (mid := [w32 (walk x k).a, w32 (walk x k).b, w32 (walk x k).c, w32 (walk x k).d]) ((hO 2 rfl).trans s2_4) (hbb2_4.ext' hR) rfl rfl (Nat.le_of_ble_eq_true rfl) row_24 rfl ⟨Ext.refl _, rfl⟩
 exact Ask.plain rfl rfl fun aq wq hNq hO hR hT => does_build (vs := #[(0, w32 (0)), (1, w32 (0)), (2, w32 (0)), (3, w32 (1))]) (V := Dg.val ((⟨(0 : UInt32), (0 : UInt32), (0 : UInt32), (1 : UInt32)⟩ : Dg))) (parts4 rfl rfl rfl rfl) (by kernel_rfl) ⟨Ext.refl _, rfl⟩
 exact Ask.plain rfl rfl fun aq wq hNq hO hR hT => does_ret (vs := #[Dg.val (walk x k), Dg.val ((⟨(0 : UInt32), (0 : UInt32), (0 : UInt32), (1 : UInt32)⟩ : Dg))]) call_48 (args2 (hT 11 rfl rfl) (hT 12 rfl rfl)) rfl ((pairR (walk x k) ((⟨(0 : UInt32), (0 : UInt32), (0 : UInt32), (1 : UInt32)⟩ : Dg)) wq).mono fun v w2 h => ⟨h.2, h.1⟩)
 intro a5 wd5 hN_5 hD_5 hO hR hA hU
 obtain ⟨_, _, t13, _⟩ := hA
 have hE_5 := hE_4.trans hR
 have s1_5 := (hO 1 rfl).trans s1_4
 have s2_5 := (hO 2 rfl).trans s2_4
 have s4_5 := (hO 4 rfl).trans s4_4
 have s5_5 := (hO 5 rfl).trans s5_4
 have hbb2_5 := hbb2_4.ext' hR
 have hbb4_5 := hbb4_4.ext' hR
 have s13_5 : get a5 13 = Dg.val (pair (walk x k) ((⟨(0 : UInt32), (0 : UInt32), (0 : UInt32), (1 : UInt32)⟩ : Dg))) := t13
 clear hE_4 hN_4 hD_4 s1_4 s2_4 s4_4 s5_4 s8_4 hbb2_4 hbb4_4
 refine tail_none rfl rfl (does_storeD (o := 0) (n := 4) (cs' := [w32 (pair (walk x k) ((⟨(0 : UInt32), (0 : UInt32), (0 : UInt32), (1 : UInt32)⟩ : Dg))).a, w32 (pair (walk x k) ((⟨(0 : UInt32), (0 : UInt32), (0 : UInt32), (1 : UInt32)⟩ : Dg))).b, w32 (pair (walk x k) ((⟨(0 : UInt32), (0 : UInt32), (0 : UInt32), (1 : UInt32)⟩ : Dg))).c, w32 (pair (walk x k) ((⟨(0 : UInt32), (0 : UInt32), (0 : UInt32), (1 : UInt32)⟩ : Dg))).d]) (V := Dg.val (pair (walk x k) ((⟨(0 : UInt32), (0 : UInt32), (0 : UInt32), (1 : UInt32)⟩ : Dg)))) s2_5 s13_5 hbb2_5 (Nat.le_of_ble_eq_true rfl) rfl siz_24 rfl rfl (fun wd6 hX hz hbb2_6 => ?_))
 have hE_6 := hE_5.since hX (fun k e => e ▸ fr_b2)
 have hbb4_6 := hbb4_5.ext hX ne_b2_b4.symm
 clear hX hz hE_5 hbb2_5 hbb4_5
 refine tail_nil ?_
 refine region_lex [] [(9, Pr.ex (i64 ((k : Nat) : Int))), (10, Pr.ex (i64 ((k + 1 : Nat) : Int)))] 2 hN_5 hD_5 (by kernel_rfl) (by kernel_rfl) ?_ ?_
 refine Asks.cons ?_ (Asks.cons ?_ (Asks.zero _))
 exact Ask.plain rfl rfl fun aq wq hNq hO hR hT => does_move (V := i64 ((k : Nat) : Int)) ((hO 5 rfl).trans s5_5) ⟨Ext.refl _, rfl⟩
 exact Ask.plain rfl rfl fun aq wq hNq hO hR hT => does_add (a := ((k : Nat) : Int)) (b := ((1 : Nat) : Int)) (r := ((k + 1 : Nat) : Int)) (hT 9 rfl rfl) rfl (by omega) (by omega) (by omega) ⟨Ext.refl _, rfl⟩
 intro a7 wd7 hN_7 hD_7 hO hR hA hU
 obtain ⟨_, t10, _⟩ := hA
 have hE_7 := hE_6.trans hR
 have s1_7 := (hO 1 rfl).trans s1_5
 have s2_7 := (hO 2 rfl).trans s2_5
 have s4_7 := (hO 4 rfl).trans s4_5
 have s5_7 := (hO 5 rfl).trans s5_5
 have hbb2_7 := hbb2_6.ext' hR
 have hbb4_7 := hbb4_6.ext' hR
 have s10_7 : get a7 10 = i64 ((k + 1 : Nat) : Int) := t10
 clear hE_6 hN_5 hD_5 s1_5 s2_5 s4_5 s5_5 s13_5 hbb2_6 hbb4_6
 refine tail_put rfl rfl hN_7 hD_7 (by decide) (does_assign (V := i64 ((k + 1 : Nat) : Int)) s10_7 (fun a8 hN_8 hD_8 hv hO => ?_))
 have s5_8 := hv
 have s1_8 := (hO 1 rfl).trans s1_7
 have s2_8 := (hO 2 rfl).trans s2_7
 have s4_8 := (hO 4 rfl).trans s4_7
 clear hO hv hN_7 hD_7 s1_7 s2_7 s4_7 s10_7 s5_7
 refine tail_nil ?_
 exact ⟨_, by omega, k + 1, rfl, hN_8, hD_8, s1_8, s2_8, s4_8, s5_8, hE_7, (by have h := hbb2_7; rw [← walk_step] at h; exact h), hbb4_7, by omega⟩
 have hc0 := of_decide_eq_false hc0
 refine wp_exit ?_
 refine wp_seq ?_
 refine region_lex [] [(14, Pr.ex (Dg.val (walk x k)))] 1 hN_4 hD_4 (by kernel_rfl) (by kernel_rfl) ?_ ?_
 refine Asks.cons ?_ (Asks.zero _)
 exact Ask.plain rfl rfl fun aq wq hNq hO hR hT => does_loadD (o := 0) (n := 4) (mid := [w32 (walk x k).a, w32 (walk x k).b, w32 (walk x k).c, w32 (walk x k).d]) ((hO 2 rfl).trans s2_4) (hbb2_4.ext' hR) rfl rfl (Nat.le_of_ble_eq_true rfl) row_24 rfl ⟨Ext.refl _, rfl⟩
 intro a9 wd9 hN_9 hD_9 hO hR hA hU
 obtain ⟨t14, _⟩ := hA
 have hE_9 := hE_4.trans hR
 have s4_9 := (hO 4 rfl).trans s4_4
 have hbb2_9 := hbb2_4.ext' hR
 have hbb4_9 := hbb4_4.ext' hR
 have s14_9 : get a9 14 = Dg.val (walk x k) := t14
 clear hE_4 hN_4 hD_4 s1_4 s2_4 s4_4 s5_4 s8_4 hbb2_4 hbb4_4
 refine tail_none rfl rfl (does_storeD (o := 0) (n := 4) (cs' := [w32 (walk x k).a, w32 (walk x k).b, w32 (walk x k).c, w32 (walk x k).d]) (V := Dg.val (walk x k)) s4_9 s14_9 hbb4_9 (Nat.le_of_ble_eq_true rfl) rfl siz_24 rfl rfl (fun wd10 hX hz hbb4_10 => ?_))
 have hE_10 := hE_9.since hX (fun k e => e ▸ fr_b4)
 have hbb2_10 := hbb2_9.ext hX ne_b2_b4
 clear hX hz hE_9 hbb2_9 hbb4_9
 refine tail_nil ?_
 refine wp_ret ?_
 refine res_one (V := Dg.val (walk x k)) rfl hD_9 (ResIs.cell s4_9 hbb4_10 row_24 rfl rfl) ?_
 have hkn : k = n := by omega
 subst hkn
 exact ⟨rfl, hE_10⟩

end Go.Proofs.YtaeohnkfmachfabDoor
