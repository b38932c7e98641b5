/- The walks of functions of the program: printed. -/
import Derived.Test.YtaeohnkfmachfabDoorG1
import Derived.Test.YtaeohnkfmachfabDoorG2
import Derived.Test.YtaeohnkfmachfabDoorF0
set_option maxRecDepth 100000
namespace Go.Proofs.YtaeohnkfmachfabDoor
open Go Go.RowKit Sk Sd
theorem mixR (s : St) (w0 : World) :
    Gives Tryd.prog 65 #[Value.agg #[w32 (s.a), w32 (s.b), w32 (s.c), w32 (s.d), w32 (s.e), w32 (s.f), w32 (s.g), w32 (s.h)]] w0 (Pr.ex (St.val s.mix)) := by
 refine enter (N := 63) Tryd.func65 rfl rfl ?_
 intro a0 hN_0 hD_0 hA
 have s0_0 : get a0 0 = Value.agg #[w32 (s.a), w32 (s.b), w32 (s.c), w32 (s.d), w32 (s.e), w32 (s.f), w32 (s.g), w32 (s.h)] := hA 0 _ rfl
 clear hA
 have hE_0 : Ext w0 w0 := Ext.refl w0
 refine wp_seq ?_
 refine region_lex [1, 2] [(1, Pr.box' w0.heap.size 83 [w32 (s.a), w32 (s.b), w32 (s.c), w32 (s.d), w32 (s.e), w32 (s.f), w32 (s.g), w32 (s.h)]), (2, Pr.box' w0.heap.size 83 [w32 (0), w32 (0), w32 (0), w32 (0), w32 (0), w32 (0), w32 (0), w32 (0)])] 2 hN_0 hD_0 (by kernel_rfl) (by kernel_rfl) ?_ ?_
 refine Asks.cons ?_ (Asks.cons ?_ (Asks.zero _))
 refine Ask.fresh rfl rfl ?_
 intro aq wq hNq hO hR hT
 exact does_box (V := Value.agg #[w32 (s.a), w32 (s.b), w32 (s.c), w32 (s.d), w32 (s.e), w32 (s.f), w32 (s.g), w32 (s.h)]) ((hO 0 rfl).trans s0_0) (fun b w2 he hlo hb => ⟨he, ⟨b, rfl, Nat.le_trans hR.size' hlo, hb⟩, ⟨b, rfl, hlo, hb.lt⟩⟩)
 refine Ask.fresh rfl rfl ?_
 intro aq wq hNq hO hR hT
 exact does_alloc zero_83 (fun b w2 he hlo hb => ⟨he, ⟨b, rfl, Nat.le_trans hR.size' hlo, hb⟩, ⟨b, rfl, hlo, hb.lt⟩⟩)
 intro a1 wd1 hN_1 hD_1 hO hR hA hU
 obtain ⟨t1, t2, _⟩ := hA
 have hE_1 := hE_0.trans hR
 obtain ⟨b1, s1_1, lo_b1, hbb1_1⟩ := t1
 have fr_b1 : w0.heap.size ≤ b1 := Nat.le_trans hE_0.size' lo_b1
 obtain ⟨b2, s2_1, lo_b2, hbb2_1⟩ := t2
 have fr_b2 : w0.heap.size ≤ b2 := Nat.le_trans hE_0.size' lo_b2
 obtain ⟨u0, ⟨u1, _⟩⟩ := hU
 have ne_b1_b2 : b1 ≠ b2 := fun e => u0 2 (by decide) (by rw [s1_1, s2_1, e])
 clear hE_0 hN_0 hD_0 s0_0
 refine tail_nil ?_
 refine wp_seq ?_
 refine region_lex [3] [(8, Pr.ex (Value.agg #[i64 ((7 : Nat) : Int), i64 ((9 : Nat) : Int), i64 ((13 : Nat) : Int), i64 ((18 : Nat) : Int)])), (3, Pr.box' wd1.heap.size 104 [i64 ((0 : Nat) : Int), i64 ((0 : Nat) : Int), i64 ((0 : Nat) : Int), i64 ((0 : Nat) : Int)])] 2 hN_1 hD_1 (by kernel_rfl) (by kernel_rfl) ?_ ?_
 refine Asks.cons ?_ (Asks.cons ?_ (Asks.zero _))
 exact Ask.plain rfl rfl fun aq wq hNq hO hR hT => does_ret (vs := #[]) call_74 args0 rfl ((turnsR wq).mono fun v w2 h => ⟨h.2, h.1⟩)
 refine Ask.fresh rfl rfl ?_
 intro aq wq hNq hO hR hT
 exact does_alloc zero_104 (fun b w2 he hlo hb => ⟨he, ⟨b, rfl, Nat.le_trans hR.size' hlo, hb⟩, ⟨b, rfl, hlo, hb.lt⟩⟩)
 intro a2 wd2 hN_2 hD_2 hO hR hA hU
 obtain ⟨t8, t3, _⟩ := hA
 have hE_2 := hE_1.trans hR
 have s1_2 := (hO 1 rfl).trans s1_1
 have s2_2 := (hO 2 rfl).trans s2_1
 have hbb1_2 := hbb1_1.ext' hR
 have hbb2_2 := hbb2_1.ext' hR
 have s8_2 : get a2 8 = Value.agg #[i64 ((7 : Nat) : Int), i64 ((9 : Nat) : Int), i64 ((13 : Nat) : Int), i64 ((18 : Nat) : Int)] := t8
 obtain ⟨b3, s3_2, lo_b3, hbb3_2⟩ := t3
 have ne_b1_b3 : b1 ≠ b3 := fun e => Nat.lt_irrefl _ (Nat.lt_of_lt_of_le hbb1_1.lt (e ▸ lo_b3))
 have ne_b2_b3 : b2 ≠ b3 := fun e => Nat.lt_irrefl _ (Nat.lt_of_lt_of_le hbb2_1.lt (e ▸ lo_b3))
 have fr_b3 : w0.heap.size ≤ b3 := Nat.le_trans hE_1.size' lo_b3
 clear hE_1 hN_1 hD_1 s1_1 s2_1 hbb1_1 hbb2_1
 refine tail_none rfl rfl (does_storeD (o := 0) (n := 4) (cs' := [i64 ((7 : Nat) : Int), i64 ((9 : Nat) : Int), i64 ((13 : Nat) : Int), i64 ((18 : Nat) : Int)]) (V := Value.agg #[i64 ((7 : Nat) : Int), i64 ((9 : Nat) : Int), i64 ((13 : Nat) : Int), i64 ((18 : Nat) : Int)]) s3_2 s8_2 hbb3_2 (Nat.le_of_ble_eq_true rfl) rfl siz_104 rfl rfl (fun wd3 hX hz hbb3_3 => ?_))
 have hE_3 := hE_2.since hX (fun k e => e ▸ fr_b3)
 have hbb1_3 := hbb1_2.ext hX ne_b1_b3
 have hbb2_3 := hbb2_2.ext hX ne_b2_b3
 clear hX hz hE_2 hbb1_2 hbb2_2 hbb3_2
 refine tail_nil ?_
 refine wp_seq ?_
 refine wp_seq ?_
 refine region_lex [] [(4, Pr.ex (i64 ((0 : Nat) : Int)))] 1 hN_2 hD_2 (by kernel_rfl) (by kernel_rfl) ?_ ?_
 refine Asks.cons ?_ (Asks.zero _)
 exact Ask.plain rfl rfl fun aq wq hNq hO hR hT => does_assign (V := i64 ((0 : Nat) : Int)) rfl ⟨Ext.refl _, rfl⟩
 intro a4 wd4 hN_4 hD_4 hO hR hA hU
 obtain ⟨t4, _⟩ := hA
 have hE_4 := hE_3.trans hR
 have s1_4 := (hO 1 rfl).trans s1_2
 have s2_4 := (hO 2 rfl).trans s2_2
 have s3_4 := (hO 3 rfl).trans s3_2
 have hbb1_4 := hbb1_3.ext' hR
 have hbb2_4 := hbb2_3.ext' hR
 have hbb3_4 := hbb3_3.ext' hR
 have s4_4 : get a4 4 = i64 ((0 : Nat) : Int) := t4
 clear hE_3 hN_2 hD_2 s1_2 s2_2 s3_2 s8_2 hbb1_3 hbb2_3 hbb3_3
 refine tail_nil ?_
 refine wp_block ?_
 refine loop_g (fun mz az wz => ∃ k : Nat, mz = 8 - k ∧ (az.tmps.size = 63) ∧ (az.defers = []) ∧ (get az 1 = Value.pointer (some ⟨b1, 0, none⟩)) ∧ (get az 2 = Value.pointer (some ⟨b2, 0, none⟩)) ∧ (get az 3 = Value.pointer (some ⟨b3, 0, none⟩)) ∧ (get az 4 = i64 ((k : Nat) : Int)) ∧ (Ext w0 wz) ∧ (Has wz b1 83 [w32 ((s.rounds k).a), w32 ((s.rounds k).b), w32 ((s.rounds k).c), w32 ((s.rounds k).d), w32 ((s.rounds k).e), w32 ((s.rounds k).f), w32 ((s.rounds k).g), w32 ((s.rounds k).h)]) ∧ (Has wz b2 83 [w32 (0), w32 (0), w32 (0), w32 (0), w32 (0), w32 (0), w32 (0), w32 (0)]) ∧ (Has wz b3 104 [i64 ((7 : Nat) : Int), i64 ((9 : Nat) : Int), i64 ((13 : Nat) : Int), i64 ((18 : Nat) : Int)]) ∧ (k ≤ 8)) ?_ ?_
 exact ⟨_, 0, rfl, hN_4, hD_4, s1_4, s2_4, s3_4, s4_4, hE_4, hbb1_4, hbb2_4, hbb3_4, by omega⟩
 rintro mz a5 wd5 ⟨k, rfl, hN_5, hD_5, s1_5, s2_5, s3_5, s4_5, hE_5, hbb1_5, hbb2_5, hbb3_5, hk⟩
 refine wp_seq ?_
 refine wp_seq ?_
 refine region_lex [] [(9, Pr.ex (i64 ((k : Nat) : Int))), (10, Pr.ex (Value.bool (decide (((k : Nat) : Int) < ((8 : Nat) : Int)))))] 2 hN_5 hD_5 (by kernel_rfl) (by kernel_rfl) ?_ ?_
 refine Asks.cons ?_ (Asks.cons ?_ (Asks.zero _))
 exact Ask.plain rfl rfl fun aq wq hNq hO hR hT => does_move (V := i64 ((k : Nat) : Int)) ((hO 4 rfl).trans s4_5) ⟨Ext.refl _, rfl⟩
 exact Ask.plain rfl rfl fun aq wq hNq hO hR hT => does_lss (a := ((k : Nat) : Int)) (b := ((8 : Nat) : Int)) (hT 9 rfl rfl) rfl ⟨Ext.refl _, rfl⟩
 intro a6 wd6 hN_6 hD_6 hO hR hA hU
 obtain ⟨_, t10, _⟩ := hA
 have hE_6 := hE_5.trans hR
 have s1_6 := (hO 1 rfl).trans s1_5
 have s2_6 := (hO 2 rfl).trans s2_5
 have s3_6 := (hO 3 rfl).trans s3_5
 have s4_6 := (hO 4 rfl).trans s4_5
 have hbb1_6 := hbb1_5.ext' hR
 have hbb2_6 := hbb2_5.ext' hR
 have hbb3_6 := hbb3_5.ext' hR
 have s10_6 : get a6 10 = Value.bool (decide (((k : Nat) : Int) < ((8 : Nat) : Int))) := t10
 clear hE_5 hN_5 hD_5 s1_5 s2_5 s3_5 s4_5 hbb1_5 hbb2_5 hbb3_5
 refine tail_nil ?_
 refine wp_if (B := decide (((k : Nat) : Int) < ((8 : Nat) : Int))) s10_6 (fun hc0 => ?_) (fun hc0 => ?_)
 have hc0 := of_decide_eq_true hc0
 refine wp_skip ?_
 refine wp_seq ?_
 refine wp_block ?_
 refine wp_seq ?_
 refine region_lex [] [(13, Pr.ex (Value.pointer (some ⟨b1, 0, none⟩))), (14, Pr.ex (w32 ((s.rounds k).a))), (15, Pr.ex (i64 ((k : Nat) : Int))), (16, Pr.ex (i64 ((k + 1 : Nat) : Int))), (17, Pr.ex (w32 (UInt32.ofNat (k + 1)))), (18, Pr.ex (w32 ((2654435769 : UInt32) * (UInt32.ofNat (k + 1) : UInt32)))), (19, Pr.ex (w32 (((s.rounds k).a : UInt32) + ((2654435769 : UInt32) * (UInt32.ofNat (k + 1) : UInt32) : UInt32)))), (20, Pr.ex (Value.pointer (some ⟨b1, 0, none⟩)))] 8 hN_6 hD_6 (by kernel_rfl) (by kernel_rfl) ?_ ?_
 refine Asks.cons ?_ (Asks.cons ?_ (Asks.cons ?_ (Asks.cons ?_ (Asks.cons ?_ (Asks.cons ?_ (Asks.cons ?_ (Asks.cons ?_ (Asks.zero _))))))))
 exact Ask.plain rfl rfl fun aq wq hNq hO hR hT => does_indexArr (k := .i64) (i := 0) (o' := 0) arr_83 ((hO 1 rfl).trans s1_6) rfl (by decide) (by decide) rfl ⟨Ext.refl _, rfl⟩
 exact Ask.plain rfl rfl fun aq wq hNq hO hR hT => does_loadD1 (o := 0) (V := w32 ((s.rounds k).a)) (hT 13 rfl rfl) (hbb1_6.ext' hR) rfl one_22 ⟨Ext.refl _, rfl⟩
 exact Ask.plain rfl rfl fun aq wq hNq hO hR hT => does_move (V := i64 ((k : Nat) : Int)) ((hO 4 rfl).trans s4_6) ⟨Ext.refl _, rfl⟩
 exact Ask.plain rfl rfl fun aq wq hNq hO hR hT => does_add (a := ((k : Nat) : Int)) (b := ((1 : Nat) : Int)) (r := ((k + 1 : Nat) : Int)) (hT 15 rfl rfl) rfl (by omega) (by omega) (by omega) ⟨Ext.refl _, rfl⟩
 exact Ask.plain rfl rfl fun aq wq hNq hO hR hT => does_conv ⟨_, Tryd.underlying3⟩ Tryd.underlying22 (hT 16 rfl rfl) (wrap_u32 _) ⟨Ext.refl _, rfl⟩
 exact Ask.plain rfl rfl fun aq wq hNq hO hR hT => does_mul32 (a := (2654435769 : UInt32)) (b := (UInt32.ofNat (k + 1) : UInt32)) rfl (hT 17 rfl rfl) ⟨Ext.refl _, rfl⟩
 exact Ask.plain rfl rfl fun aq wq hNq hO hR hT => does_add32 (a := ((s.rounds k).a : UInt32)) (b := ((2654435769 : UInt32) * (UInt32.ofNat (k + 1) : UInt32) : UInt32)) (hT 14 rfl rfl) (hT 18 rfl rfl) ⟨Ext.refl _, rfl⟩
 exact Ask.plain rfl rfl fun aq wq hNq hO hR hT => does_indexArr (k := .i64) (i := 0) (o' := 0) arr_83 ((hO 1 rfl).trans s1_6) rfl (by decide) (by decide) rfl ⟨Ext.refl _, rfl⟩
 intro a7 wd7 hN_7 hD_7 hO hR hA hU
 obtain ⟨_, _, _, _, _, _, t19, t20, _⟩ := hA
 have hE_7 := hE_6.trans hR
 have s1_7 := (hO 1 rfl).trans s1_6
 have s2_7 := (hO 2 rfl).trans s2_6
 have s3_7 := (hO 3 rfl).trans s3_6
 have s4_7 := (hO 4 rfl).trans s4_6
 have hbb1_7 := hbb1_6.ext' hR
 have hbb2_7 := hbb2_6.ext' hR
 have hbb3_7 := hbb3_6.ext' hR
 have s19_7 : get a7 19 = w32 (((s.rounds k).a : UInt32) + ((2654435769 : UInt32) * (UInt32.ofNat (k + 1) : UInt32) : UInt32)) := t19
 have s20_7 : get a7 20 = Value.pointer (some ⟨b1, 0, none⟩) := t20
 clear hE_6 hN_6 hD_6 s1_6 s2_6 s3_6 s4_6 s10_6 hbb1_6 hbb2_6 hbb3_6
 refine tail_none rfl rfl (does_storeD (o := 0) (n := 1) (cs' := [w32 (((s.rounds k).a : UInt32) + ((2654435769 : UInt32) * (UInt32.ofNat (k + 1) : UInt32) : UInt32)), w32 ((s.rounds k).b), w32 ((s.rounds k).c), w32 ((s.rounds k).d), w32 ((s.rounds k).e), w32 ((s.rounds k).f), w32 ((s.rounds k).g), w32 ((s.rounds k).h)]) (V := w32 (((s.rounds k).a : UInt32) + ((2654435769 : UInt32) * (UInt32.ofNat (k + 1) : UInt32) : UInt32))) s20_7 s19_7 hbb1_7 (Nat.le_of_ble_eq_true rfl) rfl siz_22 rfl rfl (fun wd8 hX hz hbb1_8 => ?_))
 have hE_8 := hE_7.since hX (fun k e => e ▸ fr_b1)
 have hbb2_8 := hbb2_7.ext hX ne_b1_b2.symm
 have hbb3_8 := hbb3_7.ext hX ne_b1_b3.symm
 clear hX hz hE_7 hbb1_7 hbb2_7 hbb3_7
 obtain ⟨v9, hv9⟩ : ∃ v : UInt32, ((s.rounds k).a : UInt32) + ((2654435769 : UInt32) * (UInt32.ofNat (k + 1) : UInt32) : UInt32) = v := ⟨_, rfl⟩
 rw [hv9] at hbb1_8
 refine tail_nil ?_
 refine wp_seq ?_
 refine wp_seq ?_
 refine region_lex [] [(5, Pr.ex (i64 ((0 : Nat) : Int)))] 1 hN_7 hD_7 (by kernel_rfl) (by kernel_rfl) ?_ ?_
 refine Asks.cons ?_ (Asks.zero _)
 exact Ask.plain rfl rfl fun aq wq hNq hO hR hT => does_assign (V := i64 ((0 : Nat) : Int)) rfl ⟨Ext.refl _, rfl⟩
 intro a10 wd10 hN_10 hD_10 hO hR hA hU
 obtain ⟨t5, _⟩ := hA
 have hE_10 := hE_8.trans hR
 have s1_10 := (hO 1 rfl).trans s1_7
 have s2_10 := (hO 2 rfl).trans s2_7
 have s3_10 := (hO 3 rfl).trans s3_7
 have s4_10 := (hO 4 rfl).trans s4_7
 have hbb1_10 := hbb1_8.ext' hR
 have hbb2_10 := hbb2_8.ext' hR
 have hbb3_10 := hbb3_8.ext' hR
 have s5_10 : get a10 5 = i64 ((0 : Nat) : Int) := t5
 clear hE_8 hN_7 hD_7 s1_7 s2_7 s3_7 s4_7 s19_7 s20_7 hbb1_8 hbb2_8 hbb3_8
 refine tail_nil ?_
 refine wp_block ?_
 refine loop_rounds 5 ?_
 refine round_step ?_
 refine wp_seq ?_
 refine wp_seq ?_
 refine region_lex [] [(21, Pr.ex (i64 ((0 : Nat) : Int))), (22, Pr.ex (Value.bool (true)))] 2 hN_10 hD_10 (by kernel_rfl) (by kernel_rfl) ?_ ?_
 refine Asks.cons ?_ (Asks.cons ?_ (Asks.zero _))
 exact Ask.plain rfl rfl fun aq wq hNq hO hR hT => does_move (V := i64 ((0 : Nat) : Int)) ((hO 5 rfl).trans s5_10) ⟨Ext.refl _, rfl⟩
 exact Ask.plain rfl rfl fun aq wq hNq hO hR hT => does_lss (a := ((0 : Nat) : Int)) (b := ((4 : Nat) : Int)) (hT 21 rfl rfl) rfl ⟨Ext.refl _, rfl⟩
 intro a11 wd11 hN_11 hD_11 hO hR hA hU
 obtain ⟨_, t22, _⟩ := hA
 have hE_11 := hE_10.trans hR
 have s1_11 := (hO 1 rfl).trans s1_10
 have s2_11 := (hO 2 rfl).trans s2_10
 have s3_11 := (hO 3 rfl).trans s3_10
 have s4_11 := (hO 4 rfl).trans s4_10
 have s5_11 := (hO 5 rfl).trans s5_10
 have hbb1_11 := hbb1_10.ext' hR
 have hbb2_11 := hbb2_10.ext' hR
 have hbb3_11 := hbb3_10.ext' hR
 have s22_11 : get a11 22 = Value.bool (true) := t22
 clear hE_10 hN_10 hD_10 s1_10 s2_10 s3_10 s4_10 s5_10 hbb1_10 hbb2_10 hbb3_10
 refine tail_nil ?_
 refine wp_ifT s22_11 ?_
 refine wp_skip ?_
 refine wp_seq ?_
 refine wp_block ?_
 refine wp_seq ?_
 refine region_any [] [(25, Pr.ex (i64 ((0 : Nat) : Int))), (26, Pr.ex (i64 ((0 : Nat) : Int))), (27, Pr.ex (Value.pointer (some ⟨b1, 0, none⟩))), (28, Pr.ex (w32 (v9))), (29, Pr.ex (i64 ((0 : Nat) : Int))), (30, Pr.ex (i64 ((4 : Nat) : Int))), (31, Pr.ex (Value.pointer (some ⟨b1, 4, none⟩))), (32, Pr.ex (w32 ((s.rounds k).e))), (33, Pr.ex (w32 ((v9 : UInt32) + ((s.rounds k).e : UInt32)))), (34, Pr.ex (Value.pointer (some ⟨b1, 0, none⟩)))] 10 mixed hN_11 hD_11 (by kernel_rfl) (by kernel_rfl) (by kernel_rfl) ?_ ?_
 refine Asks.cons ?_ (Asks.cons ?_ (Asks.cons ?_ (Asks.cons ?_ (Asks.cons ?_ (Asks.cons ?_ (Asks.cons ?_ (Asks.cons ?_ (Asks.cons ?_ (Asks.cons ?_ (Asks.zero _))))))))))
 exact Ask.plainD rfl rfl fun aq wq hNq hO hR hT => does_move (V := i64 ((0 : Nat) : Int)) ((hO 5 rfl).trans s5_11) ⟨Ext.refl _, rfl⟩
 exact Ask.plainD rfl rfl fun aq wq hNq hO hR hT => does_move (V := i64 ((0 : Nat) : Int)) ((hO 5 rfl).trans s5_11) ⟨Ext.refl _, rfl⟩
 exact Ask.plainD rfl rfl fun aq wq hNq hO hR hT => does_indexArr (k := .i64) (i := 0) (o' := 0) arr_83 ((hO 1 rfl).trans s1_11) (hT 26 rfl rfl) (by decide) (by decide) rfl ⟨Ext.refl _, rfl⟩
 exact Ask.plainD rfl rfl fun aq wq hNq hO hR hT => does_loadD1 (o := 0) (V := w32 (v9)) (hT 27 rfl rfl) (hbb1_11.ext' hR) rfl one_22 ⟨Ext.refl _, rfl⟩
 exact Ask.plainD rfl rfl fun aq wq hNq hO hR hT => does_move (V := i64 ((0 : Nat) : Int)) ((hO 5 rfl).trans s5_11) ⟨Ext.refl _, rfl⟩
 exact Ask.plainD rfl rfl fun aq wq hNq hO hR hT => does_add (a := ((0 : Nat) : Int)) (b := ((4 : Nat) : Int)) (r := ((4 : Nat) : Int)) (hT 29 rfl rfl) rfl (by decide) (by decide) (by decide) ⟨Ext.refl _, rfl⟩
 exact Ask.plainD rfl rfl fun aq wq hNq hO hR hT => does_indexArr (k := .i64) (i := 4) (o' := 4) arr_83 ((hO 1 rfl).trans s1_11) (hT 30 rfl rfl) (by decide) (by decide) rfl ⟨Ext.refl _, rfl⟩
 exact Ask.plainD rfl rfl fun aq wq hNq hO hR hT => does_loadD1 (o := 4) (V := w32 ((s.rounds k).e)) (hT 31 rfl rfl) (hbb1_11.ext' hR) rfl one_22 ⟨Ext.refl _, rfl⟩
 exact Ask.plainD rfl rfl fun aq wq hNq hO hR hT => does_add32 (a := (v9 : UInt32)) (b := ((s.rounds k).e : UInt32)) (hT 28 rfl rfl) (hT 32 rfl rfl) ⟨Ext.refl _, rfl⟩
 exact Ask.plainD rfl rfl fun aq wq hNq hO hR hT => does_indexArr (k := .i64) (i := 0) (o' := 0) arr_83 ((hO 1 rfl).trans s1_11) (hT 25 rfl rfl) (by decide) (by decide) rfl ⟨Ext.refl _, rfl⟩
 intro a12 wd12 hN_12 hD_12 hO hR hA hU
 obtain ⟨_, _, _, _, _, _, _, _, t33, t34, _⟩ := hA
 have hE_12 := hE_11.trans hR
 have s1_12 := (hO 1 rfl).trans s1_11
 have s2_12 := (hO 2 rfl).trans s2_11
 have s3_12 := (hO 3 rfl).trans s3_11
 have s4_12 := (hO 4 rfl).trans s4_11
 have s5_12 := (hO 5 rfl).trans s5_11
 have hbb1_12 := hbb1_11.ext' hR
 have hbb2_12 := hbb2_11.ext' hR
 have hbb3_12 := hbb3_11.ext' hR
 have s33_12 : get a12 33 = w32 ((v9 : UInt32) + ((s.rounds k).e : UInt32)) := t33
 have s34_12 : get a12 34 = Value.pointer (some ⟨b1, 0, none⟩) := t34
 clear hE_11 hN_11 hD_11 s1_11 s2_11 s3_11 s4_11 s5_11 s22_11 hbb1_11 hbb2_11 hbb3_11
 refine tail_none rfl rfl (does_storeD (o := 0) (n := 1) (cs' := [w32 ((v9 : UInt32) + ((s.rounds k).e : UInt32)), w32 ((s.rounds k).b), w32 ((s.rounds k).c), w32 ((s.rounds k).d), w32 ((s.rounds k).e), w32 ((s.rounds k).f), w32 ((s.rounds k).g), w32 ((s.rounds k).h)]) (V := w32 ((v9 : UInt32) + ((s.rounds k).e : UInt32))) s34_12 s33_12 hbb1_12 (Nat.le_of_ble_eq_true rfl) rfl siz_22 rfl rfl (fun wd13 hX hz hbb1_13 => ?_))
 have hE_13 := hE_12.since hX (fun k e => e ▸ fr_b1)
 have hbb2_13 := hbb2_12.ext hX ne_b1_b2.symm
 have hbb3_13 := hbb3_12.ext hX ne_b1_b3.symm
 clear hX hz hE_12 hbb1_12 hbb2_12 hbb3_12
 obtain ⟨v14, hv14⟩ : ∃ v : UInt32, (v9 : UInt32) + ((s.rounds k).e : UInt32) = v := ⟨_, rfl⟩
 rw [hv14] at hbb1_13
 refine tail_nil ?_
 refine region_any [] [(35, Pr.ex (i64 ((0 : Nat) : Int))), (36, Pr.ex (i64 ((4 : Nat) : Int))), (37, Pr.ex (i64 ((0 : Nat) : Int))), (38, Pr.ex (i64 ((4 : Nat) : Int))), (39, Pr.ex (Value.pointer (some ⟨b1, 4, none⟩))), (40, Pr.ex (w32 ((s.rounds k).e))), (41, Pr.ex (i64 ((0 : Nat) : Int))), (42, Pr.ex (Value.pointer (some ⟨b1, 0, none⟩))), (43, Pr.ex (w32 (v14))), (44, Pr.ex (w32 (((s.rounds k).e : UInt32) ^^^ (v14 : UInt32)))), (45, Pr.ex (i64 ((0 : Nat) : Int))), (46, Pr.ex (Value.pointer (some ⟨b3, 0, none⟩))), (47, Pr.ex (i64 ((7 : Nat) : Int))), (48, Pr.ex (w32 (rot (((s.rounds k).e : UInt32) ^^^ (v14 : UInt32)) 7))), (49, Pr.ex (Value.pointer (some ⟨b1, 4, none⟩)))] 15 mixed hN_12 hD_12 (by kernel_rfl) (by kernel_rfl) (by kernel_rfl) ?_ ?_
 refine Asks.cons ?_ (Asks.cons ?_ (Asks.cons ?_ (Asks.cons ?_ (Asks.cons ?_ (Asks.cons ?_ (Asks.cons ?_ (Asks.cons ?_ (Asks.cons ?_ (Asks.cons ?_ (Asks.cons ?_ (Asks.cons ?_ (Asks.cons ?_ (Asks.cons ?_ (Asks.cons ?_ (Asks.zero _)))))))))))))))
 exact Ask.plainD rfl rfl fun aq wq hNq hO hR hT => does_move (V := i64 ((0 : Nat) : Int)) ((hO 5 rfl).trans s5_12) ⟨Ext.refl _, rfl⟩
 exact Ask.plainD rfl rfl fun aq wq hNq hO hR hT => does_add (a := ((0 : Nat) : Int)) (b := ((4 : Nat) : Int)) (r := ((4 : Nat) : Int)) (hT 35 rfl rfl) rfl (by decide) (by decide) (by decide) ⟨Ext.refl _, rfl⟩
 exact Ask.plainD rfl rfl fun aq wq hNq hO hR hT => does_move (V := i64 ((0 : Nat) : Int)) ((hO 5 rfl).trans s5_12) ⟨Ext.refl _, rfl⟩
 exact Ask.plainD rfl rfl fun aq wq hNq hO hR hT => does_add (a := ((0 : Nat) : Int)) (b := ((4 : Nat) : Int)) (r := ((4 : Nat) : Int)) (hT 37 rfl rfl) rfl (by decide) (by decide) (by decide) ⟨Ext.refl _, rfl⟩
 exact Ask.plainD rfl rfl fun aq wq hNq hO hR hT => does_indexArr (k := .i64) (i := 4) (o' := 4) arr_83 ((hO 1 rfl).trans s1_12) (hT 38 rfl rfl) (by decide) (by decide) rfl ⟨Ext.refl _, rfl⟩
 exact Ask.plainD rfl rfl fun aq wq hNq hO hR hT => does_loadD1 (o := 4) (V := w32 ((s.rounds k).e)) (hT 39 rfl rfl) (hbb1_13.ext' hR) rfl one_22 ⟨Ext.refl _, rfl⟩
 exact Ask.plainD rfl rfl fun aq wq hNq hO hR hT => does_move (V := i64 ((0 : Nat) : Int)) ((hO 5 rfl).trans s5_12) ⟨Ext.refl _, rfl⟩
 exact Ask.plainD rfl rfl fun aq wq hNq hO hR hT => does_indexArr (k := .i64) (i := 0) (o' := 0) arr_83 ((hO 1 rfl).trans s1_12) (hT 41 rfl rfl) (by decide) (by decide) rfl ⟨Ext.refl _, rfl⟩
 exact Ask.plainD rfl rfl fun aq wq hNq hO hR hT => does_loadD1 (o := 0) (V := w32 (v14)) (hT 42 rfl rfl) (hbb1_13.ext' hR) rfl one_22 ⟨Ext.refl _, rfl⟩
 exact Ask.plainD rfl rfl fun aq wq hNq hO hR hT => does_xor32 (a := ((s.rounds k).e : UInt32)) (b := (v14 : UInt32)) (hT 40 rfl rfl) (hT 43 rfl rfl) ⟨Ext.refl _, rfl⟩
 exact Ask.plainD rfl rfl fun aq wq hNq hO hR hT => does_move (V := i64 ((0 : Nat) : Int)) ((hO 5 rfl).trans s5_12) ⟨Ext.refl _, rfl⟩
 exact Ask.plainD rfl rfl fun aq wq hNq hO hR hT => does_indexArr (k := .i64) (i := 0) (o' := 0) arr_104 ((hO 3 rfl).trans s3_12) (hT 45 rfl rfl) (by decide) (by decide) rfl ⟨Ext.refl _, rfl⟩
 exact Ask.plainD rfl rfl fun aq wq hNq hO hR hT => does_loadD1 (o := 0) (V := i64 ((7 : Nat) : Int)) (hT 46 rfl rfl) (hbb3_13.ext' hR) rfl one_3 ⟨Ext.refl _, rfl⟩
 exact Ask.plainD rfl rfl fun aq wq hNq hO hR hT => does_ret (vs := #[w32 (((s.rounds k).e : UInt32) ^^^ (v14 : UInt32)), i64 ((7 : Nat) : Int)]) call_75 (args2 (hT 44 rfl rfl) (hT 47 rfl rfl)) rfl ((turnR (((s.rounds k).e : UInt32) ^^^ (v14 : UInt32)) (7) wq (by decide)).mono fun v w2 h => ⟨h.2, h.1⟩)
 exact Ask.plainD rfl rfl fun aq wq hNq hO hR hT => does_indexArr (k := .i64) (i := 4) (o' := 4) arr_83 ((hO 1 rfl).trans s1_12) (hT 36 rfl rfl) (by decide) (by decide) rfl ⟨Ext.refl _, rfl⟩
 intro a15 wd15 hN_15 hD_15 hO hR hA hU
 obtain ⟨_, _, _, _, _, _, _, _, _, _, _, _, _, t48, t49, _⟩ := hA
 have hE_15 := hE_13.trans hR
 have s1_15 := (hO 1 rfl).trans s1_12
 have s2_15 := (hO 2 rfl).trans s2_12
 have s3_15 := (hO 3 rfl).trans s3_12
 have s4_15 := (hO 4 rfl).trans s4_12
 have s5_15 := (hO 5 rfl).trans s5_12
 have hbb1_15 := hbb1_13.ext' hR
 have hbb2_15 := hbb2_13.ext' hR
 have hbb3_15 := hbb3_13.ext' hR
 have s48_15 : get a15 48 = w32 (rot (((s.rounds k).e : UInt32) ^^^ (v14 : UInt32)) 7) := t48
 have s49_15 : get a15 49 = Value.pointer (some ⟨b1, 4, none⟩) := t49
 clear hE_13 hN_12 hD_12 s1_12 s2_12 s3_12 s4_12 s5_12 s33_12 s34_12 hbb1_13 hbb2_13 hbb3_13
 refine tail_none rfl rfl (does_storeD (o := 4) (n := 1) (cs' := [w32 (v14), w32 ((s.rounds k).b), w32 ((s.rounds k).c), w32 ((s.rounds k).d), w32 (rot (((s.rounds k).e : UInt32) ^^^ (v14 : UInt32)) 7), w32 ((s.rounds k).f), w32 ((s.rounds k).g), w32 ((s.rounds k).h)]) (V := w32 (rot (((s.rounds k).e : UInt32) ^^^ (v14 : UInt32)) 7)) s49_15 s48_15 hbb1_15 (Nat.le_of_ble_eq_true rfl) rfl siz_22 rfl rfl (fun wd16 hX hz hbb1_16 => ?_))
 have hE_16 := hE_15.since hX (fun k e => e ▸ fr_b1)
 have hbb2_16 := hbb2_15.ext hX ne_b1_b2.symm
 have hbb3_16 := hbb3_15.ext hX ne_b1_b3.symm
 clear hX hz hE_15 hbb1_15 hbb2_15 hbb3_15
 obtain ⟨v17, hv17⟩ : ∃ v : UInt32, rot (((s.rounds k).e : UInt32) ^^^ (v14 : UInt32)) 7 = v := ⟨_, rfl⟩
 rw [hv17] at hbb1_16
 refine tail_nil ?_
 refine region_lex [] [(23, Pr.ex (i64 ((0 : Nat) : Int))), (24, Pr.ex (i64 ((1 : Nat) : Int)))] 2 hN_15 hD_15 (by kernel_rfl) (by kernel_rfl) ?_ ?_
 refine Asks.cons ?_ (Asks.cons ?_ (Asks.zero _))
 exact Ask.plain rfl rfl fun aq wq hNq hO hR hT => does_move (V := i64 ((0 : Nat) : Int)) ((hO 5 rfl).trans s5_15) ⟨Ext.refl _, rfl⟩
 exact Ask.plain rfl rfl fun aq wq hNq hO hR hT => does_add (a := ((0 : Nat) : Int)) (b := ((1 : Nat) : Int)) (r := ((1 : Nat) : Int)) (hT 23 rfl rfl) rfl (by decide) (by decide) (by decide) ⟨Ext.refl _, rfl⟩
 intro a18 wd18 hN_18 hD_18 hO hR hA hU
 obtain ⟨_, t24, _⟩ := hA
 have hE_18 := hE_16.trans hR
 have s1_18 := (hO 1 rfl).trans s1_15
 have s2_18 := (hO 2 rfl).trans s2_15
 have s3_18 := (hO 3 rfl).trans s3_15
 have s4_18 := (hO 4 rfl).trans s4_15
 have s5_18 := (hO 5 rfl).trans s5_15
 have hbb1_18 := hbb1_16.ext' hR
 have hbb2_18 := hbb2_16.ext' hR
 have hbb3_18 := hbb3_16.ext' hR
 have s24_18 : get a18 24 = i64 ((1 : Nat) : Int) := t24
 clear hE_16 hN_15 hD_15 s1_15 s2_15 s3_15 s4_15 s5_15 s48_15 s49_15 hbb1_16 hbb2_16 hbb3_16
 refine tail_put rfl rfl hN_18 hD_18 (by decide) (does_assign (V := i64 ((1 : Nat) : Int)) s24_18 (fun a19 hN_19 hD_19 hv hO => ?_))
 have s5_19 := hv
 have s1_19 := (hO 1 rfl).trans s1_18
 have s2_19 := (hO 2 rfl).trans s2_18
 have s3_19 := (hO 3 rfl).trans s3_18
 have s4_19 := (hO 4 rfl).trans s4_18
 clear hO hv hN_18 hD_18 s1_18 s2_18 s3_18 s4_18 s24_18 s5_18
 refine tail_nil ?_
 refine round_step ?_
 refine wp_seq ?_
 refine wp_seq ?_
 refine region_lex [] [(21, Pr.ex (i64 ((1 : Nat) : Int))), (22, Pr.ex (Value.bool (true)))] 2 hN_19 hD_19 (by kernel_rfl) (by kernel_rfl) ?_ ?_
 refine Asks.cons ?_ (Asks.cons ?_ (Asks.zero _))
 exact Ask.plain rfl rfl fun aq wq hNq hO hR hT => does_move (V := i64 ((1 : Nat) : Int)) ((hO 5 rfl).trans s5_19) ⟨Ext.refl _, rfl⟩
 exact Ask.plain rfl rfl fun aq wq hNq hO hR hT => does_lss (a := ((1 : Nat) : Int)) (b := ((4 : Nat) : Int)) (hT 21 rfl rfl) rfl ⟨Ext.refl _, rfl⟩
 intro a20 wd20 hN_20 hD_20 hO hR hA hU
 obtain ⟨_, t22, _⟩ := hA
 have hE_20 := hE_18.trans hR
 have s1_20 := (hO 1 rfl).trans s1_19
 have s2_20 := (hO 2 rfl).trans s2_19
 have s3_20 := (hO 3 rfl).trans s3_19
 have s4_20 := (hO 4 rfl).trans s4_19
 have s5_20 := (hO 5 rfl).trans s5_19
 have hbb1_20 := hbb1_18.ext' hR
 have hbb2_20 := hbb2_18.ext' hR
 have hbb3_20 := hbb3_18.ext' hR
 have s22_20 : get a20 22 = Value.bool (true) := t22
 clear hE_18 hN_19 hD_19 s1_19 s2_19 s3_19 s4_19 s5_19 hbb1_18 hbb2_18 hbb3_18
 refine tail_nil ?_
 refine wp_ifT s22_20 ?_
 refine wp_skip ?_
 refine wp_seq ?_
 refine wp_block ?_
 refine wp_seq ?_
 refine region_any [] [(25, Pr.ex (i64 ((1 : Nat) : Int))), (26, Pr.ex (i64 ((1 : Nat) : Int))), (27, Pr.ex (Value.pointer (some ⟨b1, 1, none⟩))), (28, Pr.ex (w32 ((s.rounds k).b))), (29, Pr.ex (i64 ((1 : Nat) : Int))), (30, Pr.ex (i64 ((5 : Nat) : Int))), (31, Pr.ex (Value.pointer (some ⟨b1, 5, none⟩))), (32, Pr.ex (w32 ((s.rounds k).f))), (33, Pr.ex (w32 (((s.rounds k).b : UInt32) + ((s.rounds k).f : UInt32)))), (34, Pr.ex (Value.pointer (some ⟨b1, 1, none⟩)))] 10 mixed hN_20 hD_20 (by kernel_rfl) (by kernel_rfl) (by kernel_rfl) ?_ ?_
 refine Asks.cons ?_ (Asks.cons ?_ (Asks.cons ?_ (Asks.cons ?_ (Asks.cons ?_ (Asks.cons ?_ (Asks.cons ?_ (Asks.cons ?_ (Asks.cons ?_ (Asks.cons ?_ (Asks.zero _))))))))))
 exact Ask.plainD rfl rfl fun aq wq hNq hO hR hT => does_move (V := i64 ((1 : Nat) : Int)) ((hO 5 rfl).trans s5_20) ⟨Ext.refl _, rfl⟩
 exact Ask.plainD rfl rfl fun aq wq hNq hO hR hT => does_move (V := i64 ((1 : Nat) : Int)) ((hO 5 rfl).trans s5_20) ⟨Ext.refl _, rfl⟩
 exact Ask.plainD rfl rfl fun aq wq hNq hO hR hT => does_indexArr (k := .i64) (i := 1) (o' := 1) arr_83 ((hO 1 rfl).trans s1_20) (hT 26 rfl rfl) (by decide) (by decide) rfl ⟨Ext.refl _, rfl⟩
 exact Ask.plainD rfl rfl fun aq wq hNq hO hR hT => does_loadD1 (o := 1) (V := w32 ((s.rounds k).b)) (hT 27 rfl rfl) (hbb1_20.ext' hR) rfl one_22 ⟨Ext.refl _, rfl⟩
 exact Ask.plainD rfl rfl fun aq wq hNq hO hR hT => does_move (V := i64 ((1 : Nat) : Int)) ((hO 5 rfl).trans s5_20) ⟨Ext.refl _, rfl⟩
 exact Ask.plainD rfl rfl fun aq wq hNq hO hR hT => does_add (a := ((1 : Nat) : Int)) (b := ((4 : Nat) : Int)) (r := ((5 : Nat) : Int)) (hT 29 rfl rfl) rfl (by decide) (by decide) (by decide) ⟨Ext.refl _, rfl⟩
 exact Ask.plainD rfl rfl fun aq wq hNq hO hR hT => does_indexArr (k := .i64) (i := 5) (o' := 5) arr_83 ((hO 1 rfl).trans s1_20) (hT 30 rfl rfl) (by decide) (by decide) rfl ⟨Ext.refl _, rfl⟩
 exact Ask.plainD rfl rfl fun aq wq hNq hO hR hT => does_loadD1 (o := 5) (V := w32 ((s.rounds k).f)) (hT 31 rfl rfl) (hbb1_20.ext' hR) rfl one_22 ⟨Ext.refl _, rfl⟩
 exact Ask.plainD rfl rfl fun aq wq hNq hO hR hT => does_add32 (a := ((s.rounds k).b : UInt32)) (b := ((s.rounds k).f : UInt32)) (hT 28 rfl rfl) (hT 32 rfl rfl) ⟨Ext.refl _, rfl⟩
 exact Ask.plainD rfl rfl fun aq wq hNq hO hR hT => does_indexArr (k := .i64) (i := 1) (o' := 1) arr_83 ((hO 1 rfl).trans s1_20) (hT 25 rfl rfl) (by decide) (by decide) rfl ⟨Ext.refl _, rfl⟩
 intro a21 wd21 hN_21 hD_21 hO hR hA hU
 obtain ⟨_, _, _, _, _, _, _, _, t33, t34, _⟩ := hA
 have hE_21 := hE_20.trans hR
 have s1_21 := (hO 1 rfl).trans s1_20
 have s2_21 := (hO 2 rfl).trans s2_20
 have s3_21 := (hO 3 rfl).trans s3_20
 have s4_21 := (hO 4 rfl).trans s4_20
 have s5_21 := (hO 5 rfl).trans s5_20
 have hbb1_21 := hbb1_20.ext' hR
 have hbb2_21 := hbb2_20.ext' hR
 have hbb3_21 := hbb3_20.ext' hR
 have s33_21 : get a21 33 = w32 (((s.rounds k).b : UInt32) + ((s.rounds k).f : UInt32)) := t33
 have s34_21 : get a21 34 = Value.pointer (some ⟨b1, 1, none⟩) := t34
 clear hE_20 hN_20 hD_20 s1_20 s2_20 s3_20 s4_20 s5_20 s22_20 hbb1_20 hbb2_20 hbb3_20
 refine tail_none rfl rfl (does_storeD (o := 1) (n := 1) (cs' := [w32 (v14), w32 (((s.rounds k).b : UInt32) + ((s.rounds k).f : UInt32)), w32 ((s.rounds k).c), w32 ((s.rounds k).d), w32 (v17), w32 ((s.rounds k).f), w32 ((s.rounds k).g), w32 ((s.rounds k).h)]) (V := w32 (((s.rounds k).b : UInt32) + ((s.rounds k).f : UInt32))) s34_21 s33_21 hbb1_21 (Nat.le_of_ble_eq_true rfl) rfl siz_22 rfl rfl (fun wd22 hX hz hbb1_22 => ?_))
 have hE_22 := hE_21.since hX (fun k e => e ▸ fr_b1)
 have hbb2_22 := hbb2_21.ext hX ne_b1_b2.symm
 have hbb3_22 := hbb3_21.ext hX ne_b1_b3.symm
 clear hX hz hE_21 hbb1_21 hbb2_21 hbb3_21
 obtain ⟨v23, hv23⟩ : ∃ v : UInt32, ((s.rounds k).b : UInt32) + ((s.rounds k).f : UInt32) = v := ⟨_, rfl⟩
 rw [hv23] at hbb1_22
 refine tail_nil ?_
 refine region_any [] [(35, Pr.ex (i64 ((1 : Nat) : Int))), (36, Pr.ex (i64 ((5 : Nat) : Int))), (37, Pr.ex (i64 ((1 : Nat) : Int))), (38, Pr.ex (i64 ((5 : Nat) : Int))), (39, Pr.ex (Value.pointer (some ⟨b1, 5, none⟩))), (40, Pr.ex (w32 ((s.rounds k).f))), (41, Pr.ex (i64 ((1 : Nat) : Int))), (42, Pr.ex (Value.pointer (some ⟨b1, 1, none⟩))), (43, Pr.ex (w32 (v23))), (44, Pr.ex (w32 (((s.rounds k).f : UInt32) ^^^ (v23 : UInt32)))), (45, Pr.ex (i64 ((1 : Nat) : Int))), (46, Pr.ex (Value.pointer (some ⟨b3, 1, none⟩))), (47, Pr.ex (i64 ((9 : Nat) : Int))), (48, Pr.ex (w32 (rot (((s.rounds k).f : UInt32) ^^^ (v23 : UInt32)) 9))), (49, Pr.ex (Value.pointer (some ⟨b1, 5, none⟩)))] 15 mixed hN_21 hD_21 (by kernel_rfl) (by kernel_rfl) (by kernel_rfl) ?_ ?_
 refine Asks.cons ?_ (Asks.cons ?_ (Asks.cons ?_ (Asks.cons ?_ (Asks.cons ?_ (Asks.cons ?_ (Asks.cons ?_ (Asks.cons ?_ (Asks.cons ?_ (Asks.cons ?_ (Asks.cons ?_ (Asks.cons ?_ (Asks.cons ?_ (Asks.cons ?_ (Asks.cons ?_ (Asks.zero _)))))))))))))))
 exact Ask.plainD rfl rfl fun aq wq hNq hO hR hT => does_move (V := i64 ((1 : Nat) : Int)) ((hO 5 rfl).trans s5_21) ⟨Ext.refl _, rfl⟩
 exact Ask.plainD rfl rfl fun aq wq hNq hO hR hT => does_add (a := ((1 : Nat) : Int)) (b := ((4 : Nat) : Int)) (r := ((5 : Nat) : Int)) (hT 35 rfl rfl) rfl (by decide) (by decide) (by decide) ⟨Ext.refl _, rfl⟩
 exact Ask.plainD rfl rfl fun aq wq hNq hO hR hT => does_move (V := i64 ((1 : Nat) : Int)) ((hO 5 rfl).trans s5_21) ⟨Ext.refl _, rfl⟩
 exact Ask.plainD rfl rfl fun aq wq hNq hO hR hT => does_add (a := ((1 : Nat) : Int)) (b := ((4 : Nat) : Int)) (r := ((5 : Nat) : Int)) (hT 37 rfl rfl) rfl (by decide) (by decide) (by decide) ⟨Ext.refl _, rfl⟩
 exact Ask.plainD rfl rfl fun aq wq hNq hO hR hT => does_indexArr (k := .i64) (i := 5) (o' := 5) arr_83 ((hO 1 rfl).trans s1_21) (hT 38 rfl rfl) (by decide) (by decide) rfl ⟨Ext.refl _, rfl⟩
 exact Ask.plainD rfl rfl fun aq wq hNq hO hR hT => does_loadD1 (o := 5) (V := w32 ((s.rounds k).f)) (hT 39 rfl rfl) (hbb1_22.ext' hR) rfl one_22 ⟨Ext.refl _, rfl⟩
 exact Ask.plainD rfl rfl fun aq wq hNq hO hR hT => does_move (V := i64 ((1 : Nat) : Int)) ((hO 5 rfl).trans s5_21) ⟨Ext.refl _, rfl⟩
 exact Ask.plainD rfl rfl fun aq wq hNq hO hR hT => does_indexArr (k := .i64) (i := 1) (o' := 1) arr_83 ((hO 1 rfl).trans s1_21) (hT 41 rfl rfl) (by decide) (by decide) rfl ⟨Ext.refl _, rfl⟩
 exact Ask.plainD rfl rfl fun aq wq hNq hO hR hT => does_loadD1 (o := 1) (V := w32 (v23)) (hT 42 rfl rfl) (hbb1_22.ext' hR) rfl one_22 ⟨Ext.refl _, rfl⟩
 exact Ask.plainD rfl rfl fun aq wq hNq hO hR hT => does_xor32 (a := ((s.rounds k).f : UInt32)) (b := (v23 : UInt32)) (hT 40 rfl rfl) (hT 43 rfl rfl) ⟨Ext.refl _, rfl⟩
 exact Ask.plainD rfl rfl fun aq wq hNq hO hR hT => does_move (V := i64 ((1 : Nat) : Int)) ((hO 5 rfl).trans s5_21) ⟨Ext.refl _, rfl⟩
 exact Ask.plainD rfl rfl fun aq wq hNq hO hR hT => does_indexArr (k := .i64) (i := 1) (o' := 1) arr_104 ((hO 3 rfl).trans s3_21) (hT 45 rfl rfl) (by decide) (by decide) rfl ⟨Ext.refl _, rfl⟩
 exact Ask.plainD rfl rfl fun aq wq hNq hO hR hT => does_loadD1 (o := 1) (V := i64 ((9 : Nat) : Int)) (hT 46 rfl rfl) (hbb3_22.ext' hR) rfl one_3 ⟨Ext.refl _, rfl⟩
 exact Ask.plainD rfl rfl fun aq wq hNq hO hR hT => does_ret (vs := #[w32 (((s.rounds k).f : UInt32) ^^^ (v23 : UInt32)), i64 ((9 : Nat) : Int)]) call_75 (args2 (hT 44 rfl rfl) (hT 47 rfl rfl)) rfl ((turnR (((s.rounds k).f : UInt32) ^^^ (v23 : UInt32)) (9) wq (by decide)).mono fun v w2 h => ⟨h.2, h.1⟩)
 exact Ask.plainD rfl rfl fun aq wq hNq hO hR hT => does_indexArr (k := .i64) (i := 5) (o' := 5) arr_83 ((hO 1 rfl).trans s1_21) (hT 36 rfl rfl) (by decide) (by decide) rfl ⟨Ext.refl _, rfl⟩
 intro a24 wd24 hN_24 hD_24 hO hR hA hU
 obtain ⟨_, _, _, _, _, _, _, _, _, _, _, _, _, t48, t49, _⟩ := hA
 have hE_24 := hE_22.trans hR
 have s1_24 := (hO 1 rfl).trans s1_21
 have s2_24 := (hO 2 rfl).trans s2_21
 have s3_24 := (hO 3 rfl).trans s3_21
 have s4_24 := (hO 4 rfl).trans s4_21
 have s5_24 := (hO 5 rfl).trans s5_21
 have hbb1_24 := hbb1_22.ext' hR
 have hbb2_24 := hbb2_22.ext' hR
 have hbb3_24 := hbb3_22.ext' hR
 have s48_24 : get a24 48 = w32 (rot (((s.rounds k).f : UInt32) ^^^ (v23 : UInt32)) 9) := t48
 have s49_24 : get a24 49 = Value.pointer (some ⟨b1, 5, none⟩) := t49
 clear hE_22 hN_21 hD_21 s1_21 s2_21 s3_21 s4_21 s5_21 s33_21 s34_21 hbb1_22 hbb2_22 hbb3_22
 refine tail_none rfl rfl (does_storeD (o := 5) (n := 1) (cs' := [w32 (v14), w32 (v23), w32 ((s.rounds k).c), w32 ((s.rounds k).d), w32 (v17), w32 (rot (((s.rounds k).f : UInt32) ^^^ (v23 : UInt32)) 9), w32 ((s.rounds k).g), w32 ((s.rounds k).h)]) (V := w32 (rot (((s.rounds k).f : UInt32) ^^^ (v23 : UInt32)) 9)) s49_24 s48_24 hbb1_24 (Nat.le_of_ble_eq_true rfl) rfl siz_22 rfl rfl (fun wd25 hX hz hbb1_25 => ?_))
 have hE_25 := hE_24.since hX (fun k e => e ▸ fr_b1)
 have hbb2_25 := hbb2_24.ext hX ne_b1_b2.symm
 have hbb3_25 := hbb3_24.ext hX ne_b1_b3.symm
 clear hX hz hE_24 hbb1_24 hbb2_24 hbb3_24
 obtain ⟨v26, hv26⟩ : ∃ v : UInt32, rot (((s.rounds k).f : UInt32) ^^^ (v23 : UInt32)) 9 = v := ⟨_, rfl⟩
 rw [hv26] at hbb1_25
 refine tail_nil ?_
 refine region_lex [] [(23, Pr.ex (i64 ((1 : Nat) : Int))), (24, Pr.ex (i64 ((2 : Nat) : Int)))] 2 hN_24 hD_24 (by kernel_rfl) (by kernel_rfl) ?_ ?_
 refine Asks.cons ?_ (Asks.cons ?_ (Asks.zero _))
 exact Ask.plain rfl rfl fun aq wq hNq hO hR hT => does_move (V := i64 ((1 : Nat) : Int)) ((hO 5 rfl).trans s5_24) ⟨Ext.refl _, rfl⟩
 exact Ask.plain rfl rfl fun aq wq hNq hO hR hT => does_add (a := ((1 : Nat) : Int)) (b := ((1 : Nat) : Int)) (r := ((2 : Nat) : Int)) (hT 23 rfl rfl) rfl (by decide) (by decide) (by decide) ⟨Ext.refl _, rfl⟩
 intro a27 wd27 hN_27 hD_27 hO hR hA hU
 obtain ⟨_, t24, _⟩ := hA
 have hE_27 := hE_25.trans hR
 have s1_27 := (hO 1 rfl).trans s1_24
 have s2_27 := (hO 2 rfl).trans s2_24
 have s3_27 := (hO 3 rfl).trans s3_24
 have s4_27 := (hO 4 rfl).trans s4_24
 have s5_27 := (hO 5 rfl).trans s5_24
 have hbb1_27 := hbb1_25.ext' hR
 have hbb2_27 := hbb2_25.ext' hR
 have hbb3_27 := hbb3_25.ext' hR
 have s24_27 : get a27 24 = i64 ((2 : Nat) : Int) := t24
 clear hE_25 hN_24 hD_24 s1_24 s2_24 s3_24 s4_24 s5_24 s48_24 s49_24 hbb1_25 hbb2_25 hbb3_25
 refine tail_put rfl rfl hN_27 hD_27 (by decide) (does_assign (V := i64 ((2 : Nat) : Int)) s24_27 (fun a28 hN_28 hD_28 hv hO => ?_))
 have s5_28 := hv
 have s1_28 := (hO 1 rfl).trans s1_27
 have s2_28 := (hO 2 rfl).trans s2_27
 have s3_28 := (hO 3 rfl).trans s3_27
 have s4_28 := (hO 4 rfl).trans s4_27
 clear hO hv hN_27 hD_27 s1_27 s2_27 s3_27 s4_27 s24_27 s5_27
 refine tail_nil ?_
 refine round_step ?_
 refine wp_seq ?_
 refine wp_seq ?_
 refine region_lex [] [(21, Pr.ex (i64 ((2 : Nat) : Int))), (22, Pr.ex (Value.bool (true)))] 2 hN_28 hD_28 (by kernel_rfl) (by kernel_rfl) ?_ ?_
 refine Asks.cons ?_ (Asks.cons ?_ (Asks.zero _))
 exact Ask.plain rfl rfl fun aq wq hNq hO hR hT => does_move (V := i64 ((2 : Nat) : Int)) ((hO 5 rfl).trans s5_28) ⟨Ext.refl _, rfl⟩
 exact Ask.plain rfl rfl fun aq wq hNq hO hR hT => does_lss (a := ((2 : Nat) : Int)) (b := ((4 : Nat) : Int)) (hT 21 rfl rfl) rfl ⟨Ext.refl _, rfl⟩
 intro a29 wd29 hN_29 hD_29 hO hR hA hU
 obtain ⟨_, t22, _⟩ := hA
 have hE_29 := hE_27.trans hR
 have s1_29 := (hO 1 rfl).trans s1_28
 have s2_29 := (hO 2 rfl).trans s2_28
 have s3_29 := (hO 3 rfl).trans s3_28
 have s4_29 := (hO 4 rfl).trans s4_28
 have s5_29 := (hO 5 rfl).trans s5_28
 have hbb1_29 := hbb1_27.ext' hR
 have hbb2_29 := hbb2_27.ext' hR
 have hbb3_29 := hbb3_27.ext' hR
 have s22_29 : get a29 22 = Value.bool (true) := t22
 clear hE_27 hN_28 hD_28 s1_28 s2_28 s3_28 s4_28 s5_28 hbb1_27 hbb2_27 hbb3_27
 refine tail_nil ?_
 refine wp_ifT s22_29 ?_
 refine wp_skip ?_
 refine wp_seq ?_
 refine wp_block ?_
 refine wp_seq ?_
 refine region_any [] [(25, Pr.ex (i64 ((2 : Nat) : Int))), (26, Pr.ex (i64 ((2 : Nat) : Int))), (27, Pr.ex (Value.pointer (some ⟨b1, 2, none⟩))), (28, Pr.ex (w32 ((s.rounds k).c))), (29, Pr.ex (i64 ((2 : Nat) : Int))), (30, Pr.ex (i64 ((6 : Nat) : Int))), (31, Pr.ex (Value.pointer (some ⟨b1, 6, none⟩))), (32, Pr.ex (w32 ((s.rounds k).g))), (33, Pr.ex (w32 (((s.rounds k).c : UInt32) + ((s.rounds k).g : UInt32)))), (34, Pr.ex (Value.pointer (some ⟨b1, 2, none⟩)))] 10 mixed hN_29 hD_29 (by kernel_rfl) (by kernel_rfl) (by kernel_rfl) ?_ ?_
 refine Asks.cons ?_ (Asks.cons ?_ (Asks.cons ?_ (Asks.cons ?_ (Asks.cons ?_ (Asks.cons ?_ (Asks.cons ?_ (Asks.cons ?_ (Asks.cons ?_ (Asks.cons ?_ (Asks.zero _))))))))))
 exact Ask.plainD rfl rfl fun aq wq hNq hO hR hT => does_move (V := i64 ((2 : Nat) : Int)) ((hO 5 rfl).trans s5_29) ⟨Ext.refl _, rfl⟩
 exact Ask.plainD rfl rfl fun aq wq hNq hO hR hT => does_move (V := i64 ((2 : Nat) : Int)) ((hO 5 rfl).trans s5_29) ⟨Ext.refl _, rfl⟩
 exact Ask.plainD rfl rfl fun aq wq hNq hO hR hT => does_indexArr (k := .i64) (i := 2) (o' := 2) arr_83 ((hO 1 rfl).trans s1_29) (hT 26 rfl rfl) (by decide) (by decide) rfl ⟨Ext.refl _, rfl⟩
 exact Ask.plainD rfl rfl fun aq wq hNq hO hR hT => does_loadD1 (o := 2) (V := w32 ((s.rounds k).c)) (hT 27 rfl rfl) (hbb1_29.ext' hR) rfl one_22 ⟨Ext.refl _, rfl⟩
 exact Ask.plainD rfl rfl fun aq wq hNq hO hR hT => does_move (V := i64 ((2 : Nat) : Int)) ((hO 5 rfl).trans s5_29) ⟨Ext.refl _, rfl⟩
 exact Ask.plainD rfl rfl fun aq wq hNq hO hR hT => does_add (a := ((2 : Nat) : Int)) (b := ((4 : Nat) : Int)) (r := ((6 : Nat) : Int)) (hT 29 rfl rfl) rfl (by decide) (by decide) (by decide) ⟨Ext.refl _, rfl⟩
 exact Ask.plainD rfl rfl fun aq wq hNq hO hR hT => does_indexArr (k := .i64) (i := 6) (o' := 6) arr_83 ((hO 1 rfl).trans s1_29) (hT 30 rfl rfl) (by decide) (by decide) rfl ⟨Ext.refl _, rfl⟩
 exact Ask.plainD rfl rfl fun aq wq hNq hO hR hT => does_loadD1 (o := 6) (V := w32 ((s.rounds k).g)) (hT 31 rfl rfl) (hbb1_29.ext' hR) rfl one_22 ⟨Ext.refl _, rfl⟩
 exact Ask.plainD rfl rfl fun aq wq hNq hO hR hT => does_add32 (a := ((s.rounds k).c : UInt32)) (b := ((s.rounds k).g : UInt32)) (hT 28 rfl rfl) (hT 32 rfl rfl) ⟨Ext.refl _, rfl⟩
 exact Ask.plainD rfl rfl fun aq wq hNq hO hR hT => does_indexArr (k := .i64) (i := 2) (o' := 2) arr_83 ((hO 1 rfl).trans s1_29) (hT 25 rfl rfl) (by decide) (by decide) rfl ⟨Ext.refl _, rfl⟩
 intro a30 wd30 hN_30 hD_30 hO hR hA hU
 obtain ⟨_, _, _, _, _, _, _, _, t33, t34, _⟩ := hA
 have hE_30 := hE_29.trans hR
 have s1_30 := (hO 1 rfl).trans s1_29
 have s2_30 := (hO 2 rfl).trans s2_29
 have s3_30 := (hO 3 rfl).trans s3_29
 have s4_30 := (hO 4 rfl).trans s4_29
 have s5_30 := (hO 5 rfl).trans s5_29
 have hbb1_30 := hbb1_29.ext' hR
 have hbb2_30 := hbb2_29.ext' hR
 have hbb3_30 := hbb3_29.ext' hR
 have s33_30 : get a30 33 = w32 (((s.rounds k).c : UInt32) + ((s.rounds k).g : UInt32)) := t33
 have s34_30 : get a30 34 = Value.pointer (some ⟨b1, 2, none⟩) := t34
 clear hE_29 hN_29 hD_29 s1_29 s2_29 s3_29 s4_29 s5_29 s22_29 hbb1_29 hbb2_29 hbb3_29
 refine tail_none rfl rfl (does_storeD (o := 2) (n := 1) (cs' := [w32 (v14), w32 (v23), w32 (((s.rounds k).c : UInt32) + ((s.rounds k).g : UInt32)), w32 ((s.rounds k).d), w32 (v17), w32 (v26), w32 ((s.rounds k).g), w32 ((s.rounds k).h)]) (V := w32 (((s.rounds k).c : UInt32) + ((s.rounds k).g : UInt32))) s34_30 s33_30 hbb1_30 (Nat.le_of_ble_eq_true rfl) rfl siz_22 rfl rfl (fun wd31 hX hz hbb1_31 => ?_))
 have hE_31 := hE_30.since hX (fun k e => e ▸ fr_b1)
 have hbb2_31 := hbb2_30.ext hX ne_b1_b2.symm
 have hbb3_31 := hbb3_30.ext hX ne_b1_b3.symm
 clear hX hz hE_30 hbb1_30 hbb2_30 hbb3_30
 obtain ⟨v32, hv32⟩ : ∃ v : UInt32, ((s.rounds k).c : UInt32) + ((s.rounds k).g : UInt32) = v := ⟨_, rfl⟩
 rw [hv32] at hbb1_31
 refine tail_nil ?_
 refine region_any [] [(35, Pr.ex (i64 ((2 : Nat) : Int))), (36, Pr.ex (i64 ((6 : Nat) : Int))), (37, Pr.ex (i64 ((2 : Nat) : Int))), (38, Pr.ex (i64 ((6 : Nat) : Int))), (39, Pr.ex (Value.pointer (some ⟨b1, 6, none⟩))), (40, Pr.ex (w32 ((s.rounds k).g))), (41, Pr.ex (i64 ((2 : Nat) : Int))), (42, Pr.ex (Value.pointer (some ⟨b1, 2, none⟩))), (43, Pr.ex (w32 (v32))), (44, Pr.ex (w32 (((s.rounds k).g : UInt32) ^^^ (v32 : UInt32)))), (45, Pr.ex (i64 ((2 : Nat) : Int))), (46, Pr.ex (Value.pointer (some ⟨b3, 2, none⟩))), (47, Pr.ex (i64 ((13 : Nat) : Int))), (48, Pr.ex (w32 (rot (((s.rounds k).g : UInt32) ^^^ (v32 : UInt32)) 13))), (49, Pr.ex (Value.pointer (some ⟨b1, 6, none⟩)))] 15 mixed hN_30 hD_30 (by kernel_rfl) (by kernel_rfl) (by kernel_rfl) ?_ ?_
 refine Asks.cons ?_ (Asks.cons ?_ (Asks.cons ?_ (Asks.cons ?_ (Asks.cons ?_ (Asks.cons ?_ (Asks.cons ?_ (Asks.cons ?_ (Asks.cons ?_ (Asks.cons ?_ (Asks.cons ?_ (Asks.cons ?_ (Asks.cons ?_ (Asks.cons ?_ (Asks.cons ?_ (Asks.zero _)))))))))))))))
 exact Ask.plainD rfl rfl fun aq wq hNq hO hR hT => does_move (V := i64 ((2 : Nat) : Int)) ((hO 5 rfl).trans s5_30) ⟨Ext.refl _, rfl⟩
 exact Ask.plainD rfl rfl fun aq wq hNq hO hR hT => does_add (a := ((2 : Nat) : Int)) (b := ((4 : Nat) : Int)) (r := ((6 : Nat) : Int)) (hT 35 rfl rfl) rfl (by decide) (by decide) (by decide) ⟨Ext.refl _, rfl⟩
 exact Ask.plainD rfl rfl fun aq wq hNq hO hR hT => does_move (V := i64 ((2 : Nat) : Int)) ((hO 5 rfl).trans s5_30) ⟨Ext.refl _, rfl⟩
 exact Ask.plainD rfl rfl fun aq wq hNq hO hR hT => does_add (a := ((2 : Nat) : Int)) (b := ((4 : Nat) : Int)) (r := ((6 : Nat) : Int)) (hT 37 rfl rfl) rfl (by decide) (by decide) (by decide) ⟨Ext.refl _, rfl⟩
 exact Ask.plainD rfl rfl fun aq wq hNq hO hR hT => does_indexArr (k := .i64) (i := 6) (o' := 6) arr_83 ((hO 1 rfl).trans s1_30) (hT 38 rfl rfl) (by decide) (by decide) rfl ⟨Ext.refl _, rfl⟩
 exact Ask.plainD rfl rfl fun aq wq hNq hO hR hT => does_loadD1 (o := 6) (V := w32 ((s.rounds k).g)) (hT 39 rfl rfl) (hbb1_31.ext' hR) rfl one_22 ⟨Ext.refl _, rfl⟩
 exact Ask.plainD rfl rfl fun aq wq hNq hO hR hT => does_move (V := i64 ((2 : Nat) : Int)) ((hO 5 rfl).trans s5_30) ⟨Ext.refl _, rfl⟩
 exact Ask.plainD rfl rfl fun aq wq hNq hO hR hT => does_indexArr (k := .i64) (i := 2) (o' := 2) arr_83 ((hO 1 rfl).trans s1_30) (hT 41 rfl rfl) (by decide) (by decide) rfl ⟨Ext.refl _, rfl⟩
 exact Ask.plainD rfl rfl fun aq wq hNq hO hR hT => does_loadD1 (o := 2) (V := w32 (v32)) (hT 42 rfl rfl) (hbb1_31.ext' hR) rfl one_22 ⟨Ext.refl _, rfl⟩
 exact Ask.plainD rfl rfl fun aq wq hNq hO hR hT => does_xor32 (a := ((s.rounds k).g : UInt32)) (b := (v32 : UInt32)) (hT 40 rfl rfl) (hT 43 rfl rfl) ⟨Ext.refl _, rfl⟩
 exact Ask.plainD rfl rfl fun aq wq hNq hO hR hT => does_move (V := i64 ((2 : Nat) : Int)) ((hO 5 rfl).trans s5_30) ⟨Ext.refl _, rfl⟩
 exact Ask.plainD rfl rfl fun aq wq hNq hO hR hT => does_indexArr (k := .i64) (i := 2) (o' := 2) arr_104 ((hO 3 rfl).trans s3_30) (hT 45 rfl rfl) (by decide) (by decide) rfl ⟨Ext.refl _, rfl⟩
 exact Ask.plainD rfl rfl fun aq wq hNq hO hR hT => does_loadD1 (o := 2) (V := i64 ((13 : Nat) : Int)) (hT 46 rfl rfl) (hbb3_31.ext' hR) rfl one_3 ⟨Ext.refl _, rfl⟩
 exact Ask.plainD rfl rfl fun aq wq hNq hO hR hT => does_ret (vs := #[w32 (((s.rounds k).g : UInt32) ^^^ (v32 : UInt32)), i64 ((13 : Nat) : Int)]) call_75 (args2 (hT 44 rfl rfl) (hT 47 rfl rfl)) rfl ((turnR (((s.rounds k).g : UInt32) ^^^ (v32 : UInt32)) (13) wq (by decide)).mono fun v w2 h => ⟨h.2, h.1⟩)
 exact Ask.plainD rfl rfl fun aq wq hNq hO hR hT => does_indexArr (k := .i64) (i := 6) (o' := 6) arr_83 ((hO 1 rfl).trans s1_30) (hT 36 rfl rfl) (by decide) (by decide) rfl ⟨Ext.refl _, rfl⟩
 intro a33 wd33 hN_33 hD_33 hO hR hA hU
 obtain ⟨_, _, _, _, _, _, _, _, _, _, _, _, _, t48, t49, _⟩ := hA
 have hE_33 := hE_31.trans hR
 have s1_33 := (hO 1 rfl).trans s1_30
 have s2_33 := (hO 2 rfl).trans s2_30
 have s3_33 := (hO 3 rfl).trans s3_30
 have s4_33 := (hO 4 rfl).trans s4_30
 have s5_33 := (hO 5 rfl).trans s5_30
 have hbb1_33 := hbb1_31.ext' hR
 have hbb2_33 := hbb2_31.ext' hR
 have hbb3_33 := hbb3_31.ext' hR
 have s48_33 : get a33 48 = w32 (rot (((s.rounds k).g : UInt32) ^^^ (v32 : UInt32)) 13) := t48
 have s49_33 : get a33 49 = Value.pointer (some ⟨b1, 6, none⟩) := t49
 clear hE_31 hN_30 hD_30 s1_30 s2_30 s3_30 s4_30 s5_30 s33_30 s34_30 hbb1_31 hbb2_31 hbb3_31
 refine tail_none rfl rfl (does_storeD (o := 6) (n := 1) (cs' := [w32 (v14), w32 (v23), w32 (v32), w32 ((s.rounds k).d), w32 (v17), w32 (v26), w32 (rot (((s.rounds k).g : UInt32) ^^^ (v32 : UInt32)) 13), w32 ((s.rounds k).h)]) (V := w32 (rot (((s.rounds k).g : UInt32) ^^^ (v32 : UInt32)) 13)) s49_33 s48_33 hbb1_33 (Nat.le_of_ble_eq_true rfl) rfl siz_22 rfl rfl (fun wd34 hX hz hbb1_34 => ?_))
 have hE_34 := hE_33.since hX (fun k e => e ▸ fr_b1)
 have hbb2_34 := hbb2_33.ext hX ne_b1_b2.symm
 have hbb3_34 := hbb3_33.ext hX ne_b1_b3.symm
 clear hX hz hE_33 hbb1_33 hbb2_33 hbb3_33
 obtain ⟨v35, hv35⟩ : ∃ v : UInt32, rot (((s.rounds k).g : UInt32) ^^^ (v32 : UInt32)) 13 = v := ⟨_, rfl⟩
 rw [hv35] at hbb1_34
 refine tail_nil ?_
 refine region_lex [] [(23, Pr.ex (i64 ((2 : Nat) : Int))), (24, Pr.ex (i64 ((3 : Nat) : Int)))] 2 hN_33 hD_33 (by kernel_rfl) (by kernel_rfl) ?_ ?_
 refine Asks.cons ?_ (Asks.cons ?_ (Asks.zero _))
 exact Ask.plain rfl rfl fun aq wq hNq hO hR hT => does_move (V := i64 ((2 : Nat) : Int)) ((hO 5 rfl).trans s5_33) ⟨Ext.refl _, rfl⟩
 exact Ask.plain rfl rfl fun aq wq hNq hO hR hT => does_add (a := ((2 : Nat) : Int)) (b := ((1 : Nat) : Int)) (r := ((3 : Nat) : Int)) (hT 23 rfl rfl) rfl (by decide) (by decide) (by decide) ⟨Ext.refl _, rfl⟩
 intro a36 wd36 hN_36 hD_36 hO hR hA hU
 obtain ⟨_, t24, _⟩ := hA
 have hE_36 := hE_34.trans hR
 have s1_36 := (hO 1 rfl).trans s1_33
 have s2_36 := (hO 2 rfl).trans s2_33
 have s3_36 := (hO 3 rfl).trans s3_33
 have s4_36 := (hO 4 rfl).trans s4_33
 have s5_36 := (hO 5 rfl).trans s5_33
 have hbb1_36 := hbb1_34.ext' hR
 have hbb2_36 := hbb2_34.ext' hR
 have hbb3_36 := hbb3_34.ext' hR
 have s24_36 : get a36 24 = i64 ((3 : Nat) : Int) := t24
 clear hE_34 hN_33 hD_33 s1_33 s2_33 s3_33 s4_33 s5_33 s48_33 s49_33 hbb1_34 hbb2_34 hbb3_34
 refine tail_put rfl rfl hN_36 hD_36 (by decide) (does_assign (V := i64 ((3 : Nat) : Int)) s24_36 (fun a37 hN_37 hD_37 hv hO => ?_))
 have s5_37 := hv
 have s1_37 := (hO 1 rfl).trans s1_36
 have s2_37 := (hO 2 rfl).trans s2_36
 have s3_37 := (hO 3 rfl).trans s3_36
 have s4_37 := (hO 4 rfl).trans s4_36
 clear hO hv hN_36 hD_36 s1_36 s2_36 s3_36 s4_36 s24_36 s5_36
 refine tail_nil ?_
 refine round_step ?_
 refine wp_seq ?_
 refine wp_seq ?_
 refine region_lex [] [(21, Pr.ex (i64 ((3 : Nat) : Int))), (22, Pr.ex (Value.bool (true)))] 2 hN_37 hD_37 (by kernel_rfl) (by kernel_rfl) ?_ ?_
 refine Asks.cons ?_ (Asks.cons ?_ (Asks.zero _))
 exact Ask.plain rfl rfl fun aq wq hNq hO hR hT => does_move (V := i64 ((3 : Nat) : Int)) ((hO 5 rfl).trans s5_37) ⟨Ext.refl _, rfl⟩
 exact Ask.plain rfl rfl fun aq wq hNq hO hR hT => does_lss (a := ((3 : Nat) : Int)) (b := ((4 : Nat) : Int)) (hT 21 rfl rfl) rfl ⟨Ext.refl _, rfl⟩
 intro a38 wd38 hN_38 hD_38 hO hR hA hU
 obtain ⟨_, t22, _⟩ := hA
 have hE_38 := hE_36.trans hR
 have s1_38 := (hO 1 rfl).trans s1_37
 have s2_38 := (hO 2 rfl).trans s2_37
 have s3_38 := (hO 3 rfl).trans s3_37
 have s4_38 := (hO 4 rfl).trans s4_37
 have s5_38 := (hO 5 rfl).trans s5_37
 have hbb1_38 := hbb1_36.ext' hR
 have hbb2_38 := hbb2_36.ext' hR
 have hbb3_38 := hbb3_36.ext' hR
 have s22_38 : get a38 22 = Value.bool (true) := t22
 clear hE_36 hN_37 hD_37 s1_37 s2_37 s3_37 s4_37 s5_37 hbb1_36 hbb2_36 hbb3_36
 refine tail_nil ?_
 refine wp_ifT s22_38 ?_
 refine wp_skip ?_
 refine wp_seq ?_
 refine wp_block ?_
 refine wp_seq ?_
 refine region_any [] [(25, Pr.ex (i64 ((3 : Nat) : Int))), (26, Pr.ex (i64 ((3 : Nat) : Int))), (27, Pr.ex (Value.pointer (some ⟨b1, 3, none⟩))), (28, Pr.ex (w32 ((s.rounds k).d))), (29, Pr.ex (i64 ((3 : Nat) : Int))), (30, Pr.ex (i64 ((7 : Nat) : Int))), (31, Pr.ex (Value.pointer (some ⟨b1, 7, none⟩))), (32, Pr.ex (w32 ((s.rounds k).h))), (33, Pr.ex (w32 (((s.rounds k).d : UInt32) + ((s.rounds k).h : UInt32)))), (34, Pr.ex (Value.pointer (some ⟨b1, 3, none⟩)))] 10 mixed hN_38 hD_38 (by kernel_rfl) (by kernel_rfl) (by kernel_rfl) ?_ ?_
 refine Asks.cons ?_ (Asks.cons ?_ (Asks.cons ?_ (Asks.cons ?_ (Asks.cons ?_ (Asks.cons ?_ (Asks.cons ?_ (Asks.cons ?_ (Asks.cons ?_ (Asks.cons ?_ (Asks.zero _))))))))))
 exact Ask.plainD rfl rfl fun aq wq hNq hO hR hT => does_move (V := i64 ((3 : Nat) : Int)) ((hO 5 rfl).trans s5_38) ⟨Ext.refl _, rfl⟩
 exact Ask.plainD rfl rfl fun aq wq hNq hO hR hT => does_move (V := i64 ((3 : Nat) : Int)) ((hO 5 rfl).trans s5_38) ⟨Ext.refl _, rfl⟩
 exact Ask.plainD rfl rfl fun aq wq hNq hO hR hT => does_indexArr (k := .i64) (i := 3) (o' := 3) arr_83 ((hO 1 rfl).trans s1_38) (hT 26 rfl rfl) (by decide) (by decide) rfl ⟨Ext.refl _, rfl⟩
 exact Ask.plainD rfl rfl fun aq wq hNq hO hR hT => does_loadD1 (o := 3) (V := w32 ((s.rounds k).d)) (hT 27 rfl rfl) (hbb1_38.ext' hR) rfl one_22 ⟨Ext.refl _, rfl⟩
 exact Ask.plainD rfl rfl fun aq wq hNq hO hR hT => does_move (V := i64 ((3 : Nat) : Int)) ((hO 5 rfl).trans s5_38) ⟨Ext.refl _, rfl⟩
 exact Ask.plainD rfl rfl fun aq wq hNq hO hR hT => does_add (a := ((3 : Nat) : Int)) (b := ((4 : Nat) : Int)) (r := ((7 : Nat) : Int)) (hT 29 rfl rfl) rfl (by decide) (by decide) (by decide) ⟨Ext.refl _, rfl⟩
 exact Ask.plainD rfl rfl fun aq wq hNq hO hR hT => does_indexArr (k := .i64) (i := 7) (o' := 7) arr_83 ((hO 1 rfl).trans s1_38) (hT 30 rfl rfl) (by decide) (by decide) rfl ⟨Ext.refl _, rfl⟩
 exact Ask.plainD rfl rfl fun aq wq hNq hO hR hT => does_loadD1 (o := 7) (V := w32 ((s.rounds k).h)) (hT 31 rfl rfl) (hbb1_38.ext' hR) rfl one_22 ⟨Ext.refl _, rfl⟩
 exact Ask.plainD rfl rfl fun aq wq hNq hO hR hT => does_add32 (a := ((s.rounds k).d : UInt32)) (b := ((s.rounds k).h : UInt32)) (hT 28 rfl rfl) (hT 32 rfl rfl) ⟨Ext.refl _, rfl⟩
 exact Ask.plainD rfl rfl fun aq wq hNq hO hR hT => does_indexArr (k := .i64) (i := 3) (o' := 3) arr_83 ((hO 1 rfl).trans s1_38) (hT 25 rfl rfl) (by decide) (by decide) rfl ⟨Ext.refl _, rfl⟩
 intro a39 wd39 hN_39 hD_39 hO hR hA hU
 obtain ⟨_, _, _, _, _, _, _, _, t33, t34, _⟩ := hA
 have hE_39 := hE_38.trans hR
 have s1_39 := (hO 1 rfl).trans s1_38
 have s2_39 := (hO 2 rfl).trans s2_38
 have s3_39 := (hO 3 rfl).trans s3_38
 have s4_39 := (hO 4 rfl).trans s4_38
 have s5_39 := (hO 5 rfl).trans s5_38
 have hbb1_39 := hbb1_38.ext' hR
 have hbb2_39 := hbb2_38.ext' hR
 have hbb3_39 := hbb3_38.ext' hR
 have s33_39 : get a39 33 = w32 (((s.rounds k).d : UInt32) + ((s.rounds k).h : UInt32)) := t33
 have s34_39 : get a39 34 = Value.pointer (some ⟨b1, 3, none⟩) := t34
 clear hE_38 hN_38 hD_38 s1_38 s2_38 s3_38 s4_38 s5_38 s22_38 hbb1_38 hbb2_38 hbb3_38
 refine tail_none rfl rfl (does_storeD (o := 3) (n := 1) (cs' := [w32 (v14), w32 (v23), w32 (v32), w32 (((s.rounds k).d : UInt32) + ((s.rounds k).h : UInt32)), w32 (v17), w32 (v26), w32 (v35), w32 ((s.rounds k).h)]) (V := w32 (((s.rounds k).d : UInt32) + ((s.rounds k).h : UInt32))) s34_39 s33_39 hbb1_39 (Nat.le_of_ble_eq_true rfl) rfl siz_22 rfl rfl (fun wd40 hX hz hbb1_40 => ?_))
 have hE_40 := hE_39.since hX (fun k e => e ▸ fr_b1)
 have hbb2_40 := hbb2_39.ext hX ne_b1_b2.symm
 have hbb3_40 := hbb3_39.ext hX ne_b1_b3.symm
 clear hX hz hE_39 hbb1_39 hbb2_39 hbb3_39
 obtain ⟨v41, hv41⟩ : ∃ v : UInt32, ((s.rounds k).d : UInt32) + ((s.rounds k).h : UInt32) = v := ⟨_, rfl⟩
 rw [hv41] at hbb1_40
 refine tail_nil ?_
 refine region_any [] [(35, Pr.ex (i64 ((3 : Nat) : Int))), (36, Pr.ex (i64 ((7 : Nat) : Int))), (37, Pr.ex (i64 ((3 : Nat) : Int))), (38, Pr.ex (i64 ((7 : Nat) : Int))), (39, Pr.ex (Value.pointer (some ⟨b1, 7, none⟩))), (40, Pr.ex (w32 ((s.rounds k).h))), (41, Pr.ex (i64 ((3 : Nat) : Int))), (42, Pr.ex (Value.pointer (some ⟨b1, 3, none⟩))), (43, Pr.ex (w32 (v41))), (44, Pr.ex (w32 (((s.rounds k).h : UInt32) ^^^ (v41 : UInt32)))), (45, Pr.ex (i64 ((3 : Nat) : Int))), (46, Pr.ex (Value.pointer (some ⟨b3, 3, none⟩))), (47, Pr.ex (i64 ((18 : Nat) : Int))), (48, Pr.ex (w32 (rot (((s.rounds k).h : UInt32) ^^^ (v41 : UInt32)) 18))), (49, Pr.ex (Value.pointer (some ⟨b1, 7, none⟩)))] 15 mixed hN_39 hD_39 (by kernel_rfl) (by kernel_rfl) (by kernel_rfl) ?_ ?_
 refine Asks.cons ?_ (Asks.cons ?_ (Asks.cons ?_ (Asks.cons ?_ (Asks.cons ?_ (Asks.cons ?_ (Asks.cons ?_ (Asks.cons ?_ (Asks.cons ?_ (Asks.cons ?_ (Asks.cons ?_ (Asks.cons ?_ (Asks.cons ?_ (Asks.cons ?_ (Asks.cons ?_ (Asks.zero _)))))))))))))))
 exact Ask.plainD rfl rfl fun aq wq hNq hO hR hT => does_move (V := i64 ((3 : Nat) : Int)) ((hO 5 rfl).trans s5_39) ⟨Ext.refl _, rfl⟩
 exact Ask.plainD rfl rfl fun aq wq hNq hO hR hT => does_add (a := ((3 : Nat) : Int)) (b := ((4 : Nat) : Int)) (r := ((7 : Nat) : Int)) (hT 35 rfl rfl) rfl (by decide) (by decide) (by decide) ⟨Ext.refl _, rfl⟩
 exact Ask.plainD rfl rfl fun aq wq hNq hO hR hT => does_move (V := i64 ((3 : Nat) : Int)) ((hO 5 rfl).trans s5_39) ⟨Ext.refl _, rfl⟩
 exact Ask.plainD rfl rfl fun aq wq hNq hO hR hT => does_add (a := ((3 : Nat) : Int)) (b := ((4 : Nat) : Int)) (r := ((7 : Nat) : Int)) (hT 37 rfl rfl) rfl (by decide) (by decide) (by decide) ⟨Ext.refl _, rfl⟩
 exact Ask.plainD rfl rfl fun aq wq hNq hO hR hT => does_indexArr (k := .i64) (i := 7) (o' := 7) arr_83 ((hO 1 rfl).trans s1_39) (hT 38 rfl rfl) (by decide) (by decide) rfl ⟨Ext.refl _, rfl⟩
 exact Ask.plainD rfl rfl fun aq wq hNq hO hR hT => does_loadD1 (o := 7) (V := w32 ((s.rounds k).h)) (hT 39 rfl rfl) (hbb1_40.ext' hR) rfl one_22 ⟨Ext.refl _, rfl⟩
 exact Ask.plainD rfl rfl fun aq wq hNq hO hR hT => does_move (V := i64 ((3 : Nat) : Int)) ((hO 5 rfl).trans s5_39) ⟨Ext.refl _, rfl⟩
 exact Ask.plainD rfl rfl fun aq wq hNq hO hR hT => does_indexArr (k := .i64) (i := 3) (o' := 3) arr_83 ((hO 1 rfl).trans s1_39) (hT 41 rfl rfl) (by decide) (by decide) rfl ⟨Ext.refl _, rfl⟩
 exact Ask.plainD rfl rfl fun aq wq hNq hO hR hT => does_loadD1 (o := 3) (V := w32 (v41)) (hT 42 rfl rfl) (hbb1_40.ext' hR) rfl one_22 ⟨Ext.refl _, rfl⟩
 exact Ask.plainD rfl rfl fun aq wq hNq hO hR hT => does_xor32 (a := ((s.rounds k).h : UInt32)) (b := (v41 : UInt32)) (hT 40 rfl rfl) (hT 43 rfl rfl) ⟨Ext.refl _, rfl⟩
 exact Ask.plainD rfl rfl fun aq wq hNq hO hR hT => does_move (V := i64 ((3 : Nat) : Int)) ((hO 5 rfl).trans s5_39) ⟨Ext.refl _, rfl⟩
 exact Ask.plainD rfl rfl fun aq wq hNq hO hR hT => does_indexArr (k := .i64) (i := 3) (o' := 3) arr_104 ((hO 3 rfl).trans s3_39) (hT 45 rfl rfl) (by decide) (by decide) rfl ⟨Ext.refl _, rfl⟩
 exact Ask.plainD rfl rfl fun aq wq hNq hO hR hT => does_loadD1 (o := 3) (V := i64 ((18 : Nat) : Int)) (hT 46 rfl rfl) (hbb3_40.ext' hR) rfl one_3 ⟨Ext.refl _, rfl⟩
 exact Ask.plainD rfl rfl fun aq wq hNq hO hR hT => does_ret (vs := #[w32 (((s.rounds k).h : UInt32) ^^^ (v41 : UInt32)), i64 ((18 : Nat) : Int)]) call_75 (args2 (hT 44 rfl rfl) (hT 47 rfl rfl)) rfl ((turnR (((s.rounds k).h : UInt32) ^^^ (v41 : UInt32)) (18) wq (by decide)).mono fun v w2 h => ⟨h.2, h.1⟩)
 exact Ask.plainD rfl rfl fun aq wq hNq hO hR hT => does_indexArr (k := .i64) (i := 7) (o' := 7) arr_83 ((hO 1 rfl).trans s1_39) (hT 36 rfl rfl) (by decide) (by decide) rfl ⟨Ext.refl _, rfl⟩
 intro a42 wd42 hN_42 hD_42 hO hR hA hU
 obtain ⟨_, _, _, _, _, _, _, _, _, _, _, _, _, t48, t49, _⟩ := hA
 have hE_42 := hE_40.trans hR
 have s1_42 := (hO 1 rfl).trans s1_39
 have s2_42 := (hO 2 rfl).trans s2_39
 have s3_42 := (hO 3 rfl).trans s3_39
 have s4_42 := (hO 4 rfl).trans s4_39
 have s5_42 := (hO 5 rfl).trans s5_39
 have hbb1_42 := hbb1_40.ext' hR
 have hbb2_42 := hbb2_40.ext' hR
 have hbb3_42 := hbb3_40.ext' hR
 have s48_42 : get a42 48 = w32 (rot (((s.rounds k).h : UInt32) ^^^ (v41 : UInt32)) 18) := t48
 have s49_42 : get a42 49 = Value.pointer (some ⟨b1, 7, none⟩) := t49
 clear hE_40 hN_39 hD_39 s1_39 s2_39 s3_39 s4_39 s5_39 s33_39 s34_39 hbb1_40 hbb2_40 hbb3_40
 refine tail_none rfl rfl (does_storeD (o := 7) (n := 1) (cs' := [w32 (v14), w32 (v23), w32 (v32), w32 (v41), w32 (v17), w32 (v26), w32 (v35), w32 (rot (((s.rounds k).h : UInt32) ^^^ (v41 : UInt32)) 18)]) (V := w32 (rot (((s.rounds k).h : UInt32) ^^^ (v41 : UInt32)) 18)) s49_42 s48_42 hbb1_42 (Nat.le_of_ble_eq_true rfl) rfl siz_22 rfl rfl (fun wd43 hX hz hbb1_43 => ?_))
 have hE_43 := hE_42.since hX (fun k e => e ▸ fr_b1)
 have hbb2_43 := hbb2_42.ext hX ne_b1_b2.symm
 have hbb3_43 := hbb3_42.ext hX ne_b1_b3.symm
 clear hX hz hE_42 hbb1_42 hbb2_42 hbb3_42
 obtain ⟨v44, hv44⟩ : ∃ v : UInt32, rot (((s.rounds k).h : UInt32) ^^^ (v41 : UInt32)) 18 = v := ⟨_, rfl⟩
 rw [hv44] at hbb1_43
 refine tail_nil ?_
 refine region_lex [] [(23, Pr.ex (i64 ((3 : Nat) : Int))), (24, Pr.ex (i64 ((4 : Nat) : Int)))] 2 hN_42 hD_42 (by kernel_rfl) (by kernel_rfl) ?_ ?_
 refine Asks.cons ?_ (Asks.cons ?_ (Asks.zero _))
 exact Ask.plain rfl rfl fun aq wq hNq hO hR hT => does_move (V := i64 ((3 : Nat) : Int)) ((hO 5 rfl).trans s5_42) ⟨Ext.refl _, rfl⟩
 exact Ask.plain rfl rfl fun aq wq hNq hO hR hT => does_add (a := ((3 : Nat) : Int)) (b := ((1 : Nat) : Int)) (r := ((4 : Nat) : Int)) (hT 23 rfl rfl) rfl (by decide) (by decide) (by decide) ⟨Ext.refl _, rfl⟩
 intro a45 wd45 hN_45 hD_45 hO hR hA hU
 obtain ⟨_, t24, _⟩ := hA
 have hE_45 := hE_43.trans hR
 have s1_45 := (hO 1 rfl).trans s1_42
 have s2_45 := (hO 2 rfl).trans s2_42
 have s3_45 := (hO 3 rfl).trans s3_42
 have s4_45 := (hO 4 rfl).trans s4_42
 have s5_45 := (hO 5 rfl).trans s5_42
 have hbb1_45 := hbb1_43.ext' hR
 have hbb2_45 := hbb2_43.ext' hR
 have hbb3_45 := hbb3_43.ext' hR
 have s24_45 : get a45 24 = i64 ((4 : Nat) : Int) := t24
 clear hE_43 hN_42 hD_42 s1_42 s2_42 s3_42 s4_42 s5_42 s48_42 s49_42 hbb1_43 hbb2_43 hbb3_43
 refine tail_put rfl rfl hN_45 hD_45 (by decide) (does_assign (V := i64 ((4 : Nat) : Int)) s24_45 (fun a46 hN_46 hD_46 hv hO => ?_))
 have s5_46 := hv
 have s1_46 := (hO 1 rfl).trans s1_45
 have s2_46 := (hO 2 rfl).trans s2_45
 have s3_46 := (hO 3 rfl).trans s3_45
 have s4_46 := (hO 4 rfl).trans s4_45
 clear hO hv hN_45 hD_45 s1_45 s2_45 s3_45 s4_45 s24_45 s5_45
 refine tail_nil ?_
 refine round_step ?_
 refine wp_seq ?_
 refine wp_seq ?_
 refine region_lex [] [(21, Pr.ex (i64 ((4 : Nat) : Int))), (22, Pr.ex (Value.bool (false)))] 2 hN_46 hD_46 (by kernel_rfl) (by kernel_rfl) ?_ ?_
 refine Asks.cons ?_ (Asks.cons ?_ (Asks.zero _))
 exact Ask.plain rfl rfl fun aq wq hNq hO hR hT => does_move (V := i64 ((4 : Nat) : Int)) ((hO 5 rfl).trans s5_46) ⟨Ext.refl _, rfl⟩
 exact Ask.plain rfl rfl fun aq wq hNq hO hR hT => does_lss (a := ((4 : Nat) : Int)) (b := ((4 : Nat) : Int)) (hT 21 rfl rfl) rfl ⟨Ext.refl _, rfl⟩
 intro a47 wd47 hN_47 hD_47 hO hR hA hU
 obtain ⟨_, t22, _⟩ := hA
 have hE_47 := hE_45.trans hR
 have s1_47 := (hO 1 rfl).trans s1_46
 have s2_47 := (hO 2 rfl).trans s2_46
 have s3_47 := (hO 3 rfl).trans s3_46
 have s4_47 := (hO 4 rfl).trans s4_46
 have s5_47 := (hO 5 rfl).trans s5_46
 have hbb1_47 := hbb1_45.ext' hR
 have hbb2_47 := hbb2_45.ext' hR
 have hbb3_47 := hbb3_45.ext' hR
 have s22_47 : get a47 22 = Value.bool (false) := t22
 clear hE_45 hN_46 hD_46 s1_46 s2_46 s3_46 s4_46 s5_46 hbb1_45 hbb2_45 hbb3_45
 refine tail_nil ?_
 refine wp_ifF s22_47 ?_
 refine wp_exit ?_
 refine wp_seq ?_
 refine region_lex [6] [(6, Pr.box' wd47.heap.size 83 [w32 (0), w32 (0), w32 (0), w32 (0), w32 (0), w32 (0), w32 (0), w32 (0)])] 1 hN_47 hD_47 (by kernel_rfl) (by kernel_rfl) ?_ ?_
 refine Asks.cons ?_ (Asks.zero _)
 refine Ask.fresh rfl rfl ?_
 intro aq wq hNq hO hR hT
 exact does_alloc zero_83 (fun b w2 he hlo hb => ⟨he, ⟨b, rfl, Nat.le_trans hR.size' hlo, hb⟩, ⟨b, rfl, hlo, hb.lt⟩⟩)
 intro a48 wd48 hN_48 hD_48 hO hR hA hU
 obtain ⟨t6, _⟩ := hA
 have hE_48 := hE_47.trans hR
 have s1_48 := (hO 1 rfl).trans s1_47
 have s2_48 := (hO 2 rfl).trans s2_47
 have s3_48 := (hO 3 rfl).trans s3_47
 have s4_48 := (hO 4 rfl).trans s4_47
 have hbb1_48 := hbb1_47.ext' hR
 have hbb2_48 := hbb2_47.ext' hR
 have hbb3_48 := hbb3_47.ext' hR
 obtain ⟨b6, s6_48, lo_b6, hbb6_48⟩ := t6
 have ne_b1_b6 : b1 ≠ b6 := fun e => Nat.lt_irrefl _ (Nat.lt_of_lt_of_le hbb1_47.lt (e ▸ lo_b6))
 have ne_b2_b6 : b2 ≠ b6 := fun e => Nat.lt_irrefl _ (Nat.lt_of_lt_of_le hbb2_47.lt (e ▸ lo_b6))
 have ne_b3_b6 : b3 ≠ b6 := fun e => Nat.lt_irrefl _ (Nat.lt_of_lt_of_le hbb3_47.lt (e ▸ lo_b6))
 have fr_b6 : w0.heap.size ≤ b6 := Nat.le_trans hE_47.size' lo_b6
 clear hE_47 hN_47 hD_47 s1_47 s2_47 s3_47 s4_47 s5_47 s22_47 hbb1_47 hbb2_47 hbb3_47
 refine tail_nil ?_
 refine wp_seq ?_
 refine wp_seq ?_
 refine region_lex [] [(7, Pr.ex (i64 ((0 : Nat) : Int)))] 1 hN_48 hD_48 (by kernel_rfl) (by kernel_rfl) ?_ ?_
 refine Asks.cons ?_ (Asks.zero _)
 exact Ask.plain rfl rfl fun aq wq hNq hO hR hT => does_assign (V := i64 ((0 : Nat) : Int)) rfl ⟨Ext.refl _, rfl⟩
 intro a49 wd49 hN_49 hD_49 hO hR hA hU
 obtain ⟨t7, _⟩ := hA
 have hE_49 := hE_48.trans hR
 have s1_49 := (hO 1 rfl).trans s1_48
 have s2_49 := (hO 2 rfl).trans s2_48
 have s3_49 := (hO 3 rfl).trans s3_48
 have s4_49 := (hO 4 rfl).trans s4_48
 have s6_49 := (hO 6 rfl).trans s6_48
 have hbb1_49 := hbb1_48.ext' hR
 have hbb2_49 := hbb2_48.ext' hR
 have hbb3_49 := hbb3_48.ext' hR
 have hbb6_49 := hbb6_48.ext' hR
 have s7_49 : get a49 7 = i64 ((0 : Nat) : Int) := t7
 clear hE_48 hN_48 hD_48 s1_48 s2_48 s3_48 s4_48 s6_48 hbb1_48 hbb2_48 hbb3_48 hbb6_48
 refine tail_nil ?_
 refine wp_block ?_
 refine loop_rounds 9 ?_
 refine round_step ?_
 refine wp_seq ?_
 refine wp_seq ?_
 refine region_lex [] [(50, Pr.ex (i64 ((0 : Nat) : Int))), (51, Pr.ex (Value.bool (true)))] 2 hN_49 hD_49 (by kernel_rfl) (by kernel_rfl) ?_ ?_
 refine Asks.cons ?_ (Asks.cons ?_ (Asks.zero _))
 exact Ask.plain rfl rfl fun aq wq hNq hO hR hT => does_move (V := i64 ((0 : Nat) : Int)) ((hO 7 rfl).trans s7_49) ⟨Ext.refl _, rfl⟩
 exact Ask.plain rfl rfl fun aq wq hNq hO hR hT => does_lss (a := ((0 : Nat) : Int)) (b := ((8 : Nat) : Int)) (hT 50 rfl rfl) rfl ⟨Ext.refl _, rfl⟩
 intro a50 wd50 hN_50 hD_50 hO hR hA hU
 obtain ⟨_, t51, _⟩ := hA
 have hE_50 := hE_49.trans hR
 have s1_50 := (hO 1 rfl).trans s1_49
 have s2_50 := (hO 2 rfl).trans s2_49
 have s3_50 := (hO 3 rfl).trans s3_49
 have s4_50 := (hO 4 rfl).trans s4_49
 have s6_50 := (hO 6 rfl).trans s6_49
 have s7_50 := (hO 7 rfl).trans s7_49
 have hbb1_50 := hbb1_49.ext' hR
 have hbb2_50 := hbb2_49.ext' hR
 have hbb3_50 := hbb3_49.ext' hR
 have hbb6_50 := hbb6_49.ext' hR
 have s51_50 : get a50 51 = Value.bool (true) := t51
 clear hE_49 hN_49 hD_49 s1_49 s2_49 s3_49 s4_49 s6_49 s7_49 hbb1_49 hbb2_49 hbb3_49 hbb6_49
 refine tail_nil ?_
 refine wp_ifT s51_50 ?_
 refine wp_skip ?_
 refine wp_seq ?_
 refine wp_block ?_
 refine region_lex [] [(54, Pr.ex (i64 ((0 : Nat) : Int))), (55, Pr.ex (i64 ((0 : Nat) : Int))), (56, Pr.ex (i64 ((3 : Nat) : Int))), (57, Pr.ex (i64 ((3 : Nat) : Int))), (58, Pr.ex (Value.pointer (some ⟨b1, 3, none⟩))), (59, Pr.ex (w32 (v41))), (60, Pr.ex (Value.pointer (some ⟨b6, 0, none⟩)))] 7 hN_50 hD_50 (by kernel_rfl) (by kernel_rfl) ?_ ?_
 refine Asks.cons ?_ (Asks.cons ?_ (Asks.cons ?_ (Asks.cons ?_ (Asks.cons ?_ (Asks.cons ?_ (Asks.cons ?_ (Asks.zero _)))))))
 exact Ask.plain rfl rfl fun aq wq hNq hO hR hT => does_move (V := i64 ((0 : Nat) : Int)) ((hO 7 rfl).trans s7_50) ⟨Ext.refl _, rfl⟩
 exact Ask.plain rfl rfl fun aq wq hNq hO hR hT => does_move (V := i64 ((0 : Nat) : Int)) ((hO 7 rfl).trans s7_50) ⟨Ext.refl _, rfl⟩
 exact Ask.plain rfl rfl fun aq wq hNq hO hR hT => does_add (a := ((0 : Nat) : Int)) (b := ((3 : Nat) : Int)) (r := ((3 : Nat) : Int)) (hT 55 rfl rfl) rfl (by decide) (by decide) (by decide) ⟨Ext.refl _, rfl⟩
 exact Ask.plain rfl rfl fun aq wq hNq hO hR hT => does_rem (k := .i64) (a := ((3 : Nat) : Int)) (b := ((8 : Nat) : Int)) (r := ((3 : Nat) : Int)) (hT 56 rfl rfl) rfl (by decide) (by decide) (by decide) ⟨Ext.refl _, rfl⟩
 exact Ask.plain rfl rfl fun aq wq hNq hO hR hT => does_indexArr (k := .i64) (i := 3) (o' := 3) arr_83 ((hO 1 rfl).trans s1_50) (hT 57 rfl rfl) (by decide) (by decide) rfl ⟨Ext.refl _, rfl⟩
 exact Ask.plain rfl rfl fun aq wq hNq hO hR hT => does_loadD1 (o := 3) (V := w32 (v41)) (hT 58 rfl rfl) (hbb1_50.ext' hR) rfl one_22 ⟨Ext.refl _, rfl⟩
 exact Ask.plain rfl rfl fun aq wq hNq hO hR hT => does_indexArr (k := .i64) (i := 0) (o' := 0) arr_83 ((hO 6 rfl).trans s6_50) (hT 54 rfl rfl) (by decide) (by decide) rfl ⟨Ext.refl _, rfl⟩
 intro a51 wd51 hN_51 hD_51 hO hR hA hU
 obtain ⟨_, _, _, _, _, t59, t60, _⟩ := hA
 have hE_51 := hE_50.trans hR
 have s1_51 := (hO 1 rfl).trans s1_50
 have s2_51 := (hO 2 rfl).trans s2_50
 have s3_51 := (hO 3 rfl).trans s3_50
 have s4_51 := (hO 4 rfl).trans s4_50
 have s6_51 := (hO 6 rfl).trans s6_50
 have s7_51 := (hO 7 rfl).trans s7_50
 have hbb1_51 := hbb1_50.ext' hR
 have hbb2_51 := hbb2_50.ext' hR
 have hbb3_51 := hbb3_50.ext' hR
 have hbb6_51 := hbb6_50.ext' hR
 have s59_51 : get a51 59 = w32 (v41) := t59
 have s60_51 : get a51 60 = Value.pointer (some ⟨b6, 0, none⟩) := t60
 clear hE_50 hN_50 hD_50 s1_50 s2_50 s3_50 s4_50 s6_50 s7_50 s51_50 hbb1_50 hbb2_50 hbb3_50 hbb6_50
 refine tail_none rfl rfl (does_storeD (o := 0) (n := 1) (cs' := [w32 (v41), w32 (0), w32 (0), w32 (0), w32 (0), w32 (0), w32 (0), w32 (0)]) (V := w32 (v41)) s60_51 s59_51 hbb6_51 (Nat.le_of_ble_eq_true rfl) rfl siz_22 rfl rfl (fun wd52 hX hz hbb6_52 => ?_))
 have hE_52 := hE_51.since hX (fun k e => e ▸ fr_b6)
 have hbb1_52 := hbb1_51.ext hX ne_b1_b6
 have hbb2_52 := hbb2_51.ext hX ne_b2_b6
 have hbb3_52 := hbb3_51.ext hX ne_b3_b6
 clear hX hz hE_51 hbb1_51 hbb2_51 hbb3_51 hbb6_51
 refine tail_nil ?_
 refine region_lex [] [(52, Pr.ex (i64 ((0 : Nat) : Int))), (53, Pr.ex (i64 ((1 : Nat) : Int)))] 2 hN_51 hD_51 (by kernel_rfl) (by kernel_rfl) ?_ ?_
 refine Asks.cons ?_ (Asks.cons ?_ (Asks.zero _))
 exact Ask.plain rfl rfl fun aq wq hNq hO hR hT => does_move (V := i64 ((0 : Nat) : Int)) ((hO 7 rfl).trans s7_51) ⟨Ext.refl _, rfl⟩
 exact Ask.plain rfl rfl fun aq wq hNq hO hR hT => does_add (a := ((0 : Nat) : Int)) (b := ((1 : Nat) : Int)) (r := ((1 : Nat) : Int)) (hT 52 rfl rfl) rfl (by decide) (by decide) (by decide) ⟨Ext.refl _, rfl⟩
 intro a53 wd53 hN_53 hD_53 hO hR hA hU
 obtain ⟨_, t53, _⟩ := hA
 have hE_53 := hE_52.trans hR
 have s1_53 := (hO 1 rfl).trans s1_51
 have s2_53 := (hO 2 rfl).trans s2_51
 have s3_53 := (hO 3 rfl).trans s3_51
 have s4_53 := (hO 4 rfl).trans s4_51
 have s6_53 := (hO 6 rfl).trans s6_51
 have s7_53 := (hO 7 rfl).trans s7_51
 have hbb1_53 := hbb1_52.ext' hR
 have hbb2_53 := hbb2_52.ext' hR
 have hbb3_53 := hbb3_52.ext' hR
 have hbb6_53 := hbb6_52.ext' hR
 have s53_53 : get a53 53 = i64 ((1 : Nat) : Int) := t53
 clear hE_52 hN_51 hD_51 s1_51 s2_51 s3_51 s4_51 s6_51 s7_51 s59_51 s60_51 hbb1_52 hbb2_52 hbb3_52 hbb6_52
 refine tail_put rfl rfl hN_53 hD_53 (by decide) (does_assign (V := i64 ((1 : Nat) : Int)) s53_53 (fun a54 hN_54 hD_54 hv hO => ?_))
 have s7_54 := hv
 have s1_54 := (hO 1 rfl).trans s1_53
 have s2_54 := (hO 2 rfl).trans s2_53
 have s3_54 := (hO 3 rfl).trans s3_53
 have s4_54 := (hO 4 rfl).trans s4_53
 have s6_54 := (hO 6 rfl).trans s6_53
 clear hO hv hN_53 hD_53 s1_53 s2_53 s3_53 s4_53 s6_53 s53_53 s7_53
 refine tail_nil ?_
 refine round_step ?_
 refine wp_seq ?_
 refine wp_seq ?_
 refine region_lex [] [(50, Pr.ex (i64 ((1 : Nat) : Int))), (51, Pr.ex (Value.bool (true)))] 2 hN_54 hD_54 (by kernel_rfl) (by kernel_rfl) ?_ ?_
 refine Asks.cons ?_ (Asks.cons ?_ (Asks.zero _))
 exact Ask.plain rfl rfl fun aq wq hNq hO hR hT => does_move (V := i64 ((1 : Nat) : Int)) ((hO 7 rfl).trans s7_54) ⟨Ext.refl _, rfl⟩
 exact Ask.plain rfl rfl fun aq wq hNq hO hR hT => does_lss (a := ((1 : Nat) : Int)) (b := ((8 : Nat) : Int)) (hT 50 rfl rfl) rfl ⟨Ext.refl _, rfl⟩
 intro a55 wd55 hN_55 hD_55 hO hR hA hU
 obtain ⟨_, t51, _⟩ := hA
 have hE_55 := hE_53.trans hR
 have s1_55 := (hO 1 rfl).trans s1_54
 have s2_55 := (hO 2 rfl).trans s2_54
 have s3_55 := (hO 3 rfl).trans s3_54
 have s4_55 := (hO 4 rfl).trans s4_54
 have s6_55 := (hO 6 rfl).trans s6_54
 have s7_55 := (hO 7 rfl).trans s7_54
 have hbb1_55 := hbb1_53.ext' hR
 have hbb2_55 := hbb2_53.ext' hR
 have hbb3_55 := hbb3_53.ext' hR
 have hbb6_55 := hbb6_53.ext' hR
 have s51_55 : get a55 51 = Value.bool (true) := t51
 clear hE_53 hN_54 hD_54 s1_54 s2_54 s3_54 s4_54 s6_54 s7_54 hbb1_53 hbb2_53 hbb3_53 hbb6_53
 refine tail_nil ?_
 refine wp_ifT s51_55 ?_
 refine wp_skip ?_
 refine wp_seq ?_
 refine wp_block ?_
 refine region_lex [] [(54, Pr.ex (i64 ((1 : Nat) : Int))), (55, Pr.ex (i64 ((1 : Nat) : Int))), (56, Pr.ex (i64 ((4 : Nat) : Int))), (57, Pr.ex (i64 ((4 : Nat) : Int))), (58, Pr.ex (Value.pointer (some ⟨b1, 4, none⟩))), (59, Pr.ex (w32 (v17))), (60, Pr.ex (Value.pointer (some ⟨b6, 1, none⟩)))] 7 hN_55 hD_55 (by kernel_rfl) (by kernel_rfl) ?_ ?_
 refine Asks.cons ?_ (Asks.cons ?_ (Asks.cons ?_ (Asks.cons ?_ (Asks.cons ?_ (Asks.cons ?_ (Asks.cons ?_ (Asks.zero _)))))))
 exact Ask.plain rfl rfl fun aq wq hNq hO hR hT => does_move (V := i64 ((1 : Nat) : Int)) ((hO 7 rfl).trans s7_55) ⟨Ext.refl _, rfl⟩
 exact Ask.plain rfl rfl fun aq wq hNq hO hR hT => does_move (V := i64 ((1 : Nat) : Int)) ((hO 7 rfl).trans s7_55) ⟨Ext.refl _, rfl⟩
 exact Ask.plain rfl rfl fun aq wq hNq hO hR hT => does_add (a := ((1 : Nat) : Int)) (b := ((3 : Nat) : Int)) (r := ((4 : Nat) : Int)) (hT 55 rfl rfl) rfl (by decide) (by decide) (by decide) ⟨Ext.refl _, rfl⟩
 exact Ask.plain rfl rfl fun aq wq hNq hO hR hT => does_rem (k := .i64) (a := ((4 : Nat) : Int)) (b := ((8 : Nat) : Int)) (r := ((4 : Nat) : Int)) (hT 56 rfl rfl) rfl (by decide) (by decide) (by decide) ⟨Ext.refl _, rfl⟩
 exact Ask.plain rfl rfl fun aq wq hNq hO hR hT => does_indexArr (k := .i64) (i := 4) (o' := 4) arr_83 ((hO 1 rfl).trans s1_55) (hT 57 rfl rfl) (by decide) (by decide) rfl ⟨Ext.refl _, rfl⟩
 exact Ask.plain rfl rfl fun aq wq hNq hO hR hT => does_loadD1 (o := 4) (V := w32 (v17)) (hT 58 rfl rfl) (hbb1_55.ext' hR) rfl one_22 ⟨Ext.refl _, rfl⟩
 exact Ask.plain rfl rfl fun aq wq hNq hO hR hT => does_indexArr (k := .i64) (i := 1) (o' := 1) arr_83 ((hO 6 rfl).trans s6_55) (hT 54 rfl rfl) (by decide) (by decide) rfl ⟨Ext.refl _, rfl⟩
 intro a56 wd56 hN_56 hD_56 hO hR hA hU
 obtain ⟨_, _, _, _, _, t59, t60, _⟩ := hA
 have hE_56 := hE_55.trans hR
 have s1_56 := (hO 1 rfl).trans s1_55
 have s2_56 := (hO 2 rfl).trans s2_55
 have s3_56 := (hO 3 rfl).trans s3_55
 have s4_56 := (hO 4 rfl).trans s4_55
 have s6_56 := (hO 6 rfl).trans s6_55
 have s7_56 := (hO 7 rfl).trans s7_55
 have hbb1_56 := hbb1_55.ext' hR
 have hbb2_56 := hbb2_55.ext' hR
 have hbb3_56 := hbb3_55.ext' hR
 have hbb6_56 := hbb6_55.ext' hR
 have s59_56 : get a56 59 = w32 (v17) := t59
 have s60_56 : get a56 60 = Value.pointer (some ⟨b6, 1, none⟩) := t60
 clear hE_55 hN_55 hD_55 s1_55 s2_55 s3_55 s4_55 s6_55 s7_55 s51_55 hbb1_55 hbb2_55 hbb3_55 hbb6_55
 refine tail_none rfl rfl (does_storeD (o := 1) (n := 1) (cs' := [w32 (v41), w32 (v17), w32 (0), w32 (0), w32 (0), w32 (0), w32 (0), w32 (0)]) (V := w32 (v17)) s60_56 s59_56 hbb6_56 (Nat.le_of_ble_eq_true rfl) rfl siz_22 rfl rfl (fun wd57 hX hz hbb6_57 => ?_))
 have hE_57 := hE_56.since hX (fun k e => e ▸ fr_b6)
 have hbb1_57 := hbb1_56.ext hX ne_b1_b6
 have hbb2_57 := hbb2_56.ext hX ne_b2_b6
 have hbb3_57 := hbb3_56.ext hX ne_b3_b6
 clear hX hz hE_56 hbb1_56 hbb2_56 hbb3_56 hbb6_56
 refine tail_nil ?_
 refine region_lex [] [(52, Pr.ex (i64 ((1 : Nat) : Int))), (53, Pr.ex (i64 ((2 : Nat) : Int)))] 2 hN_56 hD_56 (by kernel_rfl) (by kernel_rfl) ?_ ?_
 refine Asks.cons ?_ (Asks.cons ?_ (Asks.zero _))
 exact Ask.plain rfl rfl fun aq wq hNq hO hR hT => does_move (V := i64 ((1 : Nat) : Int)) ((hO 7 rfl).trans s7_56) ⟨Ext.refl _, rfl⟩
 exact Ask.plain rfl rfl fun aq wq hNq hO hR hT => does_add (a := ((1 : Nat) : Int)) (b := ((1 : Nat) : Int)) (r := ((2 : Nat) : Int)) (hT 52 rfl rfl) rfl (by decide) (by decide) (by decide) ⟨Ext.refl _, rfl⟩
 intro a58 wd58 hN_58 hD_58 hO hR hA hU
 obtain ⟨_, t53, _⟩ := hA
 have hE_58 := hE_57.trans hR
 have s1_58 := (hO 1 rfl).trans s1_56
 have s2_58 := (hO 2 rfl).trans s2_56
 have s3_58 := (hO 3 rfl).trans s3_56
 have s4_58 := (hO 4 rfl).trans s4_56
 have s6_58 := (hO 6 rfl).trans s6_56
 have s7_58 := (hO 7 rfl).trans s7_56
 have hbb1_58 := hbb1_57.ext' hR
 have hbb2_58 := hbb2_57.ext' hR
 have hbb3_58 := hbb3_57.ext' hR
 have hbb6_58 := hbb6_57.ext' hR
 have s53_58 : get a58 53 = i64 ((2 : Nat) : Int) := t53
 clear hE_57 hN_56 hD_56 s1_56 s2_56 s3_56 s4_56 s6_56 s7_56 s59_56 s60_56 hbb1_57 hbb2_57 hbb3_57 hbb6_57
 refine tail_put rfl rfl hN_58 hD_58 (by decide) (does_assign (V := i64 ((2 : Nat) : Int)) s53_58 (fun a59 hN_59 hD_59 hv hO => ?_))
 have s7_59 := hv
 have s1_59 := (hO 1 rfl).trans s1_58
 have s2_59 := (hO 2 rfl).trans s2_58
 have s3_59 := (hO 3 rfl).trans s3_58
 have s4_59 := (hO 4 rfl).trans s4_58
 have s6_59 := (hO 6 rfl).trans s6_58
 clear hO hv hN_58 hD_58 s1_58 s2_58 s3_58 s4_58 s6_58 s53_58 s7_58
 refine tail_nil ?_
 refine round_step ?_
 refine wp_seq ?_
 refine wp_seq ?_
 refine region_lex [] [(50, Pr.ex (i64 ((2 : Nat) : Int))), (51, Pr.ex (Value.bool (true)))] 2 hN_59 hD_59 (by kernel_rfl) (by kernel_rfl) ?_ ?_
 refine Asks.cons ?_ (Asks.cons ?_ (Asks.zero _))
 exact Ask.plain rfl rfl fun aq wq hNq hO hR hT => does_move (V := i64 ((2 : Nat) : Int)) ((hO 7 rfl).trans s7_59) ⟨Ext.refl _, rfl⟩
 exact Ask.plain rfl rfl fun aq wq hNq hO hR hT => does_lss (a := ((2 : Nat) : Int)) (b := ((8 : Nat) : Int)) (hT 50 rfl rfl) rfl ⟨Ext.refl _, rfl⟩
 intro a60 wd60 hN_60 hD_60 hO hR hA hU
 obtain ⟨_, t51, _⟩ := hA
 have hE_60 := hE_58.trans hR
 have s1_60 := (hO 1 rfl).trans s1_59
 have s2_60 := (hO 2 rfl).trans s2_59
 have s3_60 := (hO 3 rfl).trans s3_59
 have s4_60 := (hO 4 rfl).trans s4_59
 have s6_60 := (hO 6 rfl).trans s6_59
 have s7_60 := (hO 7 rfl).trans s7_59
 have hbb1_60 := hbb1_58.ext' hR
 have hbb2_60 := hbb2_58.ext' hR
 have hbb3_60 := hbb3_58.ext' hR
 have hbb6_60 := hbb6_58.ext' hR
 have s51_60 : get a60 51 = Value.bool (true) := t51
 clear hE_58 hN_59 hD_59 s1_59 s2_59 s3_59 s4_59 s6_59 s7_59 hbb1_58 hbb2_58 hbb3_58 hbb6_58
 refine tail_nil ?_
 refine wp_ifT s51_60 ?_
 refine wp_skip ?_
 refine wp_seq ?_
 refine wp_block ?_
 refine region_lex [] [(54, Pr.ex (i64 ((2 : Nat) : Int))), (55, Pr.ex (i64 ((2 : Nat) : Int))), (56, Pr.ex (i64 ((5 : Nat) : Int))), (57, Pr.ex (i64 ((5 : Nat) : Int))), (58, Pr.ex (Value.pointer (some ⟨b1, 5, none⟩))), (59, Pr.ex (w32 (v26))), (60, Pr.ex (Value.pointer (some ⟨b6, 2, none⟩)))] 7 hN_60 hD_60 (by kernel_rfl) (by kernel_rfl) ?_ ?_
 refine Asks.cons ?_ (Asks.cons ?_ (Asks.cons ?_ (Asks.cons ?_ (Asks.cons ?_ (Asks.cons ?_ (Asks.cons ?_ (Asks.zero _)))))))
 exact Ask.plain rfl rfl fun aq wq hNq hO hR hT => does_move (V := i64 ((2 : Nat) : Int)) ((hO 7 rfl).trans s7_60) ⟨Ext.refl _, rfl⟩
 exact Ask.plain rfl rfl fun aq wq hNq hO hR hT => does_move (V := i64 ((2 : Nat) : Int)) ((hO 7 rfl).trans s7_60) ⟨Ext.refl _, rfl⟩
 exact Ask.plain rfl rfl fun aq wq hNq hO hR hT => does_add (a := ((2 : Nat) : Int)) (b := ((3 : Nat) : Int)) (r := ((5 : Nat) : Int)) (hT 55 rfl rfl) rfl (by decide) (by decide) (by decide) ⟨Ext.refl _, rfl⟩
 exact Ask.plain rfl rfl fun aq wq hNq hO hR hT => does_rem (k := .i64) (a := ((5 : Nat) : Int)) (b := ((8 : Nat) : Int)) (r := ((5 : Nat) : Int)) (hT 56 rfl rfl) rfl (by decide) (by decide) (by decide) ⟨Ext.refl _, rfl⟩
 exact Ask.plain rfl rfl fun aq wq hNq hO hR hT => does_indexArr (k := .i64) (i := 5) (o' := 5) arr_83 ((hO 1 rfl).trans s1_60) (hT 57 rfl rfl) (by decide) (by decide) rfl ⟨Ext.refl _, rfl⟩
 exact Ask.plain rfl rfl fun aq wq hNq hO hR hT => does_loadD1 (o := 5) (V := w32 (v26)) (hT 58 rfl rfl) (hbb1_60.ext' hR) rfl one_22 ⟨Ext.refl _, rfl⟩
 exact Ask.plain rfl rfl fun aq wq hNq hO hR hT => does_indexArr (k := .i64) (i := 2) (o' := 2) arr_83 ((hO 6 rfl).trans s6_60) (hT 54 rfl rfl) (by decide) (by decide) rfl ⟨Ext.refl _, rfl⟩
 intro a61 wd61 hN_61 hD_61 hO hR hA hU
 obtain ⟨_, _, _, _, _, t59, t60, _⟩ := hA
 have hE_61 := hE_60.trans hR
 have s1_61 := (hO 1 rfl).trans s1_60
 have s2_61 := (hO 2 rfl).trans s2_60
 have s3_61 := (hO 3 rfl).trans s3_60
 have s4_61 := (hO 4 rfl).trans s4_60
 have s6_61 := (hO 6 rfl).trans s6_60
 have s7_61 := (hO 7 rfl).trans s7_60
 have hbb1_61 := hbb1_60.ext' hR
 have hbb2_61 := hbb2_60.ext' hR
 have hbb3_61 := hbb3_60.ext' hR
 have hbb6_61 := hbb6_60.ext' hR
 have s59_61 : get a61 59 = w32 (v26) := t59
 have s60_61 : get a61 60 = Value.pointer (some ⟨b6, 2, none⟩) := t60
 clear hE_60 hN_60 hD_60 s1_60 s2_60 s3_60 s4_60 s6_60 s7_60 s51_60 hbb1_60 hbb2_60 hbb3_60 hbb6_60
 refine tail_none rfl rfl (does_storeD (o := 2) (n := 1) (cs' := [w32 (v41), w32 (v17), w32 (v26), w32 (0), w32 (0), w32 (0), w32 (0), w32 (0)]) (V := w32 (v26)) s60_61 s59_61 hbb6_61 (Nat.le_of_ble_eq_true rfl) rfl siz_22 rfl rfl (fun wd62 hX hz hbb6_62 => ?_))
 have hE_62 := hE_61.since hX (fun k e => e ▸ fr_b6)
 have hbb1_62 := hbb1_61.ext hX ne_b1_b6
 have hbb2_62 := hbb2_61.ext hX ne_b2_b6
 have hbb3_62 := hbb3_61.ext hX ne_b3_b6
 clear hX hz hE_61 hbb1_61 hbb2_61 hbb3_61 hbb6_61
 refine tail_nil ?_
 refine region_lex [] [(52, Pr.ex (i64 ((2 : Nat) : Int))), (53, Pr.ex (i64 ((3 : Nat) : Int)))] 2 hN_61 hD_61 (by kernel_rfl) (by kernel_rfl) ?_ ?_
 refine Asks.cons ?_ (Asks.cons ?_ (Asks.zero _))
 exact Ask.plain rfl rfl fun aq wq hNq hO hR hT => does_move (V := i64 ((2 : Nat) : Int)) ((hO 7 rfl).trans s7_61) ⟨Ext.refl _, rfl⟩
 exact Ask.plain rfl rfl fun aq wq hNq hO hR hT => does_add (a := ((2 : Nat) : Int)) (b := ((1 : Nat) : Int)) (r := ((3 : Nat) : Int)) (hT 52 rfl rfl) rfl (by decide) (by decide) (by decide) ⟨Ext.refl _, rfl⟩
 intro a63 wd63 hN_63 hD_63 hO hR hA hU
 obtain ⟨_, t53, _⟩ := hA
 have hE_63 := hE_62.trans hR
 have s1_63 := (hO 1 rfl).trans s1_61
 have s2_63 := (hO 2 rfl).trans s2_61
 have s3_63 := (hO 3 rfl).trans s3_61
 have s4_63 := (hO 4 rfl).trans s4_61
 have s6_63 := (hO 6 rfl).trans s6_61
 have s7_63 := (hO 7 rfl).trans s7_61
 have hbb1_63 := hbb1_62.ext' hR
 have hbb2_63 := hbb2_62.ext' hR
 have hbb3_63 := hbb3_62.ext' hR
 have hbb6_63 := hbb6_62.ext' hR
 have s53_63 : get a63 53 = i64 ((3 : Nat) : Int) := t53
 clear hE_62 hN_61 hD_61 s1_61 s2_61 s3_61 s4_61 s6_61 s7_61 s59_61 s60_61 hbb1_62 hbb2_62 hbb3_62 hbb6_62
 refine tail_put rfl rfl hN_63 hD_63 (by decide) (does_assign (V := i64 ((3 : Nat) : Int)) s53_63 (fun a64 hN_64 hD_64 hv hO => ?_))
 have s7_64 := hv
 have s1_64 := (hO 1 rfl).trans s1_63
 have s2_64 := (hO 2 rfl).trans s2_63
 have s3_64 := (hO 3 rfl).trans s3_63
 have s4_64 := (hO 4 rfl).trans s4_63
 have s6_64 := (hO 6 rfl).trans s6_63
 clear hO hv hN_63 hD_63 s1_63 s2_63 s3_63 s4_63 s6_63 s53_63 s7_63
 refine tail_nil ?_
 refine round_step ?_
 refine wp_seq ?_
 refine wp_seq ?_
 refine region_lex [] [(50, Pr.ex (i64 ((3 : Nat) : Int))), (51, Pr.ex (Value.bool (true)))] 2 hN_64 hD_64 (by kernel_rfl) (by kernel_rfl) ?_ ?_
 refine Asks.cons ?_ (Asks.cons ?_ (Asks.zero _))
 exact Ask.plain rfl rfl fun aq wq hNq hO hR hT => does_move (V := i64 ((3 : Nat) : Int)) ((hO 7 rfl).trans s7_64) ⟨Ext.refl _, rfl⟩
 exact Ask.plain rfl rfl fun aq wq hNq hO hR hT => does_lss (a := ((3 : Nat) : Int)) (b := ((8 : Nat) : Int)) (hT 50 rfl rfl) rfl ⟨Ext.refl _, rfl⟩
 intro a65 wd65 hN_65 hD_65 hO hR hA hU
 obtain ⟨_, t51, _⟩ := hA
 have hE_65 := hE_63.trans hR
 have s1_65 := (hO 1 rfl).trans s1_64
 have s2_65 := (hO 2 rfl).trans s2_64
 have s3_65 := (hO 3 rfl).trans s3_64
 have s4_65 := (hO 4 rfl).trans s4_64
 have s6_65 := (hO 6 rfl).trans s6_64
 have s7_65 := (hO 7 rfl).trans s7_64
 have hbb1_65 := hbb1_63.ext' hR
 have hbb2_65 := hbb2_63.ext' hR
 have hbb3_65 := hbb3_63.ext' hR
 have hbb6_65 := hbb6_63.ext' hR
 have s51_65 : get a65 51 = Value.bool (true) := t51
 clear hE_63 hN_64 hD_64 s1_64 s2_64 s3_64 s4_64 s6_64 s7_64 hbb1_63 hbb2_63 hbb3_63 hbb6_63
 refine tail_nil ?_
 refine wp_ifT s51_65 ?_
 refine wp_skip ?_
 refine wp_seq ?_
 refine wp_block ?_
 refine region_lex [] [(54, Pr.ex (i64 ((3 : Nat) : Int))), (55, Pr.ex (i64 ((3 : Nat) : Int))), (56, Pr.ex (i64 ((6 : Nat) : Int))), (57, Pr.ex (i64 ((6 : Nat) : Int))), (58, Pr.ex (Value.pointer (some ⟨b1, 6, none⟩))), (59, Pr.ex (w32 (v35))), (60, Pr.ex (Value.pointer (some ⟨b6, 3, none⟩)))] 7 hN_65 hD_65 (by kernel_rfl) (by kernel_rfl) ?_ ?_
 refine Asks.cons ?_ (Asks.cons ?_ (Asks.cons ?_ (Asks.cons ?_ (Asks.cons ?_ (Asks.cons ?_ (Asks.cons ?_ (Asks.zero _)))))))
 exact Ask.plain rfl rfl fun aq wq hNq hO hR hT => does_move (V := i64 ((3 : Nat) : Int)) ((hO 7 rfl).trans s7_65) ⟨Ext.refl _, rfl⟩
 exact Ask.plain rfl rfl fun aq wq hNq hO hR hT => does_move (V := i64 ((3 : Nat) : Int)) ((hO 7 rfl).trans s7_65) ⟨Ext.refl _, rfl⟩
 exact Ask.plain rfl rfl fun aq wq hNq hO hR hT => does_add (a := ((3 : Nat) : Int)) (b := ((3 : Nat) : Int)) (r := ((6 : Nat) : Int)) (hT 55 rfl rfl) rfl (by decide) (by decide) (by decide) ⟨Ext.refl _, rfl⟩
 exact Ask.plain rfl rfl fun aq wq hNq hO hR hT => does_rem (k := .i64) (a := ((6 : Nat) : Int)) (b := ((8 : Nat) : Int)) (r := ((6 : Nat) : Int)) (hT 56 rfl rfl) rfl (by decide) (by decide) (by decide) ⟨Ext.refl _, rfl⟩
 exact Ask.plain rfl rfl fun aq wq hNq hO hR hT => does_indexArr (k := .i64) (i := 6) (o' := 6) arr_83 ((hO 1 rfl).trans s1_65) (hT 57 rfl rfl) (by decide) (by decide) rfl ⟨Ext.refl _, rfl⟩
 exact Ask.plain rfl rfl fun aq wq hNq hO hR hT => does_loadD1 (o := 6) (V := w32 (v35)) (hT 58 rfl rfl) (hbb1_65.ext' hR) rfl one_22 ⟨Ext.refl _, rfl⟩
 exact Ask.plain rfl rfl fun aq wq hNq hO hR hT => does_indexArr (k := .i64) (i := 3) (o' := 3) arr_83 ((hO 6 rfl).trans s6_65) (hT 54 rfl rfl) (by decide) (by decide) rfl ⟨Ext.refl _, rfl⟩
 intro a66 wd66 hN_66 hD_66 hO hR hA hU
 obtain ⟨_, _, _, _, _, t59, t60, _⟩ := hA
 have hE_66 := hE_65.trans hR
 have s1_66 := (hO 1 rfl).trans s1_65
 have s2_66 := (hO 2 rfl).trans s2_65
 have s3_66 := (hO 3 rfl).trans s3_65
 have s4_66 := (hO 4 rfl).trans s4_65
 have s6_66 := (hO 6 rfl).trans s6_65
 have s7_66 := (hO 7 rfl).trans s7_65
 have hbb1_66 := hbb1_65.ext' hR
 have hbb2_66 := hbb2_65.ext' hR
 have hbb3_66 := hbb3_65.ext' hR
 have hbb6_66 := hbb6_65.ext' hR
 have s59_66 : get a66 59 = w32 (v35) := t59
 have s60_66 : get a66 60 = Value.pointer (some ⟨b6, 3, none⟩) := t60
 clear hE_65 hN_65 hD_65 s1_65 s2_65 s3_65 s4_65 s6_65 s7_65 s51_65 hbb1_65 hbb2_65 hbb3_65 hbb6_65
 refine tail_none rfl rfl (does_storeD (o := 3) (n := 1) (cs' := [w32 (v41), w32 (v17), w32 (v26), w32 (v35), w32 (0), w32 (0), w32 (0), w32 (0)]) (V := w32 (v35)) s60_66 s59_66 hbb6_66 (Nat.le_of_ble_eq_true rfl) rfl siz_22 rfl rfl (fun wd67 hX hz hbb6_67 => ?_))
 have hE_67 := hE_66.since hX (fun k e => e ▸ fr_b6)
 have hbb1_67 := hbb1_66.ext hX ne_b1_b6
 have hbb2_67 := hbb2_66.ext hX ne_b2_b6
 have hbb3_67 := hbb3_66.ext hX ne_b3_b6
 clear hX hz hE_66 hbb1_66 hbb2_66 hbb3_66 hbb6_66
 refine tail_nil ?_
 refine region_lex [] [(52, Pr.ex (i64 ((3 : Nat) : Int))), (53, Pr.ex (i64 ((4 : Nat) : Int)))] 2 hN_66 hD_66 (by kernel_rfl) (by kernel_rfl) ?_ ?_
 refine Asks.cons ?_ (Asks.cons ?_ (Asks.zero _))
 exact Ask.plain rfl rfl fun aq wq hNq hO hR hT => does_move (V := i64 ((3 : Nat) : Int)) ((hO 7 rfl).trans s7_66) ⟨Ext.refl _, rfl⟩
 exact Ask.plain rfl rfl fun aq wq hNq hO hR hT => does_add (a := ((3 : Nat) : Int)) (b := ((1 : Nat) : Int)) (r := ((4 : Nat) : Int)) (hT 52 rfl rfl) rfl (by decide) (by decide) (by decide) ⟨Ext.refl _, rfl⟩
 intro a68 wd68 hN_68 hD_68 hO hR hA hU
 obtain ⟨_, t53, _⟩ := hA
 have hE_68 := hE_67.trans hR
 have s1_68 := (hO 1 rfl).trans s1_66
 have s2_68 := (hO 2 rfl).trans s2_66
 have s3_68 := (hO 3 rfl).trans s3_66
 have s4_68 := (hO 4 rfl).trans s4_66
 have s6_68 := (hO 6 rfl).trans s6_66
 have s7_68 := (hO 7 rfl).trans s7_66
 have hbb1_68 := hbb1_67.ext' hR
 have hbb2_68 := hbb2_67.ext' hR
 have hbb3_68 := hbb3_67.ext' hR
 have hbb6_68 := hbb6_67.ext' hR
 have s53_68 : get a68 53 = i64 ((4 : Nat) : Int) := t53
 clear hE_67 hN_66 hD_66 s1_66 s2_66 s3_66 s4_66 s6_66 s7_66 s59_66 s60_66 hbb1_67 hbb2_67 hbb3_67 hbb6_67
 refine tail_put rfl rfl hN_68 hD_68 (by decide) (does_assign (V := i64 ((4 : Nat) : Int)) s53_68 (fun a69 hN_69 hD_69 hv hO => ?_))
 have s7_69 := hv
 have s1_69 := (hO 1 rfl).trans s1_68
 have s2_69 := (hO 2 rfl).trans s2_68
 have s3_69 := (hO 3 rfl).trans s3_68
 have s4_69 := (hO 4 rfl).trans s4_68
 have s6_69 := (hO 6 rfl).trans s6_68
 clear hO hv hN_68 hD_68 s1_68 s2_68 s3_68 s4_68 s6_68 s53_68 s7_68
 refine tail_nil ?_
 refine round_step ?_
 refine wp_seq ?_
 refine wp_seq ?_
 refine region_lex [] [(50, Pr.ex (i64 ((4 : Nat) : Int))), (51, Pr.ex (Value.bool (true)))] 2 hN_69 hD_69 (by kernel_rfl) (by kernel_rfl) ?_ ?_
 refine Asks.cons ?_ (Asks.cons ?_ (Asks.zero _))
 exact Ask.plain rfl rfl fun aq wq hNq hO hR hT => does_move (V := i64 ((4 : Nat) : Int)) ((hO 7 rfl).trans s7_69) ⟨Ext.refl _, rfl⟩
 exact Ask.plain rfl rfl fun aq wq hNq hO hR hT => does_lss (a := ((4 : Nat) : Int)) (b := ((8 : Nat) : Int)) (hT 50 rfl rfl) rfl ⟨Ext.refl _, rfl⟩
 intro a70 wd70 hN_70 hD_70 hO hR hA hU
 obtain ⟨_, t51, _⟩ := hA
 have hE_70 := hE_68.trans hR
 have s1_70 := (hO 1 rfl).trans s1_69
 have s2_70 := (hO 2 rfl).trans s2_69
 have s3_70 := (hO 3 rfl).trans s3_69
 have s4_70 := (hO 4 rfl).trans s4_69
 have s6_70 := (hO 6 rfl).trans s6_69
 have s7_70 := (hO 7 rfl).trans s7_69
 have hbb1_70 := hbb1_68.ext' hR
 have hbb2_70 := hbb2_68.ext' hR
 have hbb3_70 := hbb3_68.ext' hR
 have hbb6_70 := hbb6_68.ext' hR
 have s51_70 : get a70 51 = Value.bool (true) := t51
 clear hE_68 hN_69 hD_69 s1_69 s2_69 s3_69 s4_69 s6_69 s7_69 hbb1_68 hbb2_68 hbb3_68 hbb6_68
 refine tail_nil ?_
 refine wp_ifT s51_70 ?_
 refine wp_skip ?_
 refine wp_seq ?_
 refine wp_block ?_
 refine region_lex [] [(54, Pr.ex (i64 ((4 : Nat) : Int))), (55, Pr.ex (i64 ((4 : Nat) : Int))), (56, Pr.ex (i64 ((7 : Nat) : Int))), (57, Pr.ex (i64 ((7 : Nat) : Int))), (58, Pr.ex (Value.pointer (some ⟨b1, 7, none⟩))), (59, Pr.ex (w32 (v44))), (60, Pr.ex (Value.pointer (some ⟨b6, 4, none⟩)))] 7 hN_70 hD_70 (by kernel_rfl) (by kernel_rfl) ?_ ?_
 refine Asks.cons ?_ (Asks.cons ?_ (Asks.cons ?_ (Asks.cons ?_ (Asks.cons ?_ (Asks.cons ?_ (Asks.cons ?_ (Asks.zero _)))))))
 exact Ask.plain rfl rfl fun aq wq hNq hO hR hT => does_move (V := i64 ((4 : Nat) : Int)) ((hO 7 rfl).trans s7_70) ⟨Ext.refl _, rfl⟩
 exact Ask.plain rfl rfl fun aq wq hNq hO hR hT => does_move (V := i64 ((4 : Nat) : Int)) ((hO 7 rfl).trans s7_70) ⟨Ext.refl _, rfl⟩
 exact Ask.plain rfl rfl fun aq wq hNq hO hR hT => does_add (a := ((4 : Nat) : Int)) (b := ((3 : Nat) : Int)) (r := ((7 : Nat) : Int)) (hT 55 rfl rfl) rfl (by decide) (by decide) (by decide) ⟨Ext.refl _, rfl⟩
 exact Ask.plain rfl rfl fun aq wq hNq hO hR hT => does_rem (k := .i64) (a := ((7 : Nat) : Int)) (b := ((8 : Nat) : Int)) (r := ((7 : Nat) : Int)) (hT 56 rfl rfl) rfl (by decide) (by decide) (by decide) ⟨Ext.refl _, rfl⟩
 exact Ask.plain rfl rfl fun aq wq hNq hO hR hT => does_indexArr (k := .i64) (i := 7) (o' := 7) arr_83 ((hO 1 rfl).trans s1_70) (hT 57 rfl rfl) (by decide) (by decide) rfl ⟨Ext.refl _, rfl⟩
 exact Ask.plain rfl rfl fun aq wq hNq hO hR hT => does_loadD1 (o := 7) (V := w32 (v44)) (hT 58 rfl rfl) (hbb1_70.ext' hR) rfl one_22 ⟨Ext.refl _, rfl⟩
 exact Ask.plain rfl rfl fun aq wq hNq hO hR hT => does_indexArr (k := .i64) (i := 4) (o' := 4) arr_83 ((hO 6 rfl).trans s6_70) (hT 54 rfl rfl) (by decide) (by decide) rfl ⟨Ext.refl _, rfl⟩
 intro a71 wd71 hN_71 hD_71 hO hR hA hU
 obtain ⟨_, _, _, _, _, t59, t60, _⟩ := hA
 have hE_71 := hE_70.trans hR
 have s1_71 := (hO 1 rfl).trans s1_70
 have s2_71 := (hO 2 rfl).trans s2_70
 have s3_71 := (hO 3 rfl).trans s3_70
 have s4_71 := (hO 4 rfl).trans s4_70
 have s6_71 := (hO 6 rfl).trans s6_70
 have s7_71 := (hO 7 rfl).trans s7_70
 have hbb1_71 := hbb1_70.ext' hR
 have hbb2_71 := hbb2_70.ext' hR
 have hbb3_71 := hbb3_70.ext' hR
 have hbb6_71 := hbb6_70.ext' hR
 have s59_71 : get a71 59 = w32 (v44) := t59
 have s60_71 : get a71 60 = Value.pointer (some ⟨b6, 4, none⟩) := t60
 clear hE_70 hN_70 hD_70 s1_70 s2_70 s3_70 s4_70 s6_70 s7_70 s51_70 hbb1_70 hbb2_70 hbb3_70 hbb6_70
 refine tail_none rfl rfl (does_storeD (o := 4) (n := 1) (cs' := [w32 (v41), w32 (v17), w32 (v26), w32 (v35), w32 (v44), w32 (0), w32 (0), w32 (0)]) (V := w32 (v44)) s60_71 s59_71 hbb6_71 (Nat.le_of_ble_eq_true rfl) rfl siz_22 rfl rfl (fun wd72 hX hz hbb6_72 => ?_))
 have hE_72 := hE_71.since hX (fun k e => e ▸ fr_b6)
 have hbb1_72 := hbb1_71.ext hX ne_b1_b6
 have hbb2_72 := hbb2_71.ext hX ne_b2_b6
 have hbb3_72 := hbb3_71.ext hX ne_b3_b6
 clear hX hz hE_71 hbb1_71 hbb2_71 hbb3_71 hbb6_71
 refine tail_nil ?_
 refine region_lex [] [(52, Pr.ex (i64 ((4 : Nat) : Int))), (53, Pr.ex (i64 ((5 : Nat) : Int)))] 2 hN_71 hD_71 (by kernel_rfl) (by kernel_rfl) ?_ ?_
 refine Asks.cons ?_ (Asks.cons ?_ (Asks.zero _))
 exact Ask.plain rfl rfl fun aq wq hNq hO hR hT => does_move (V := i64 ((4 : Nat) : Int)) ((hO 7 rfl).trans s7_71) ⟨Ext.refl _, rfl⟩
 exact Ask.plain rfl rfl fun aq wq hNq hO hR hT => does_add (a := ((4 : Nat) : Int)) (b := ((1 : Nat) : Int)) (r := ((5 : Nat) : Int)) (hT 52 rfl rfl) rfl (by decide) (by decide) (by decide) ⟨Ext.refl _, rfl⟩
 intro a73 wd73 hN_73 hD_73 hO hR hA hU
 obtain ⟨_, t53, _⟩ := hA
 have hE_73 := hE_72.trans hR
 have s1_73 := (hO 1 rfl).trans s1_71
 have s2_73 := (hO 2 rfl).trans s2_71
 have s3_73 := (hO 3 rfl).trans s3_71
 have s4_73 := (hO 4 rfl).trans s4_71
 have s6_73 := (hO 6 rfl).trans s6_71
 have s7_73 := (hO 7 rfl).trans s7_71
 have hbb1_73 := hbb1_72.ext' hR
 have hbb2_73 := hbb2_72.ext' hR
 have hbb3_73 := hbb3_72.ext' hR
 have hbb6_73 := hbb6_72.ext' hR
 have s53_73 : get a73 53 = i64 ((5 : Nat) : Int) := t53
 clear hE_72 hN_71 hD_71 s1_71 s2_71 s3_71 s4_71 s6_71 s7_71 s59_71 s60_71 hbb1_72 hbb2_72 hbb3_72 hbb6_72
 refine tail_put rfl rfl hN_73 hD_73 (by decide) (does_assign (V := i64 ((5 : Nat) : Int)) s53_73 (fun a74 hN_74 hD_74 hv hO => ?_))
 have s7_74 := hv
 have s1_74 := (hO 1 rfl).trans s1_73
 have s2_74 := (hO 2 rfl).trans s2_73
 have s3_74 := (hO 3 rfl).trans s3_73
 have s4_74 := (hO 4 rfl).trans s4_73
 have s6_74 := (hO 6 rfl).trans s6_73
 clear hO hv hN_73 hD_73 s1_73 s2_73 s3_73 s4_73 s6_73 s53_73 s7_73
 refine tail_nil ?_
 refine round_step ?_
 refine wp_seq ?_
 refine wp_seq ?_
 refine region_lex [] [(50, Pr.ex (i64 ((5 : Nat) : Int))), (51, Pr.ex (Value.bool (true)))] 2 hN_74 hD_74 (by kernel_rfl) (by kernel_rfl) ?_ ?_
 refine Asks.cons ?_ (Asks.cons ?_ (Asks.zero _))
 exact Ask.plain rfl rfl fun aq wq hNq hO hR hT => does_move (V := i64 ((5 : Nat) : Int)) ((hO 7 rfl).trans s7_74) ⟨Ext.refl _, rfl⟩
 exact Ask.plain rfl rfl fun aq wq hNq hO hR hT => does_lss (a := ((5 : Nat) : Int)) (b := ((8 : Nat) : Int)) (hT 50 rfl rfl) rfl ⟨Ext.refl _, rfl⟩
 intro a75 wd75 hN_75 hD_75 hO hR hA hU
 obtain ⟨_, t51, _⟩ := hA
 have hE_75 := hE_73.trans hR
 have s1_75 := (hO 1 rfl).trans s1_74
 have s2_75 := (hO 2 rfl).trans s2_74
 have s3_75 := (hO 3 rfl).trans s3_74
 have s4_75 := (hO 4 rfl).trans s4_74
 have s6_75 := (hO 6 rfl).trans s6_74
 have s7_75 := (hO 7 rfl).trans s7_74
 have hbb1_75 := hbb1_73.ext' hR
 have hbb2_75 := hbb2_73.ext' hR
 have hbb3_75 := hbb3_73.ext' hR
 have hbb6_75 := hbb6_73.ext' hR
 have s51_75 : get a75 51 = Value.bool (true) := t51
 clear hE_73 hN_74 hD_74 s1_74 s2_74 s3_74 s4_74 s6_74 s7_74 hbb1_73 hbb2_73 hbb3_73 hbb6_73
 refine tail_nil ?_
 refine wp_ifT s51_75 ?_
 refine wp_skip ?_
 refine wp_seq ?_
 refine wp_block ?_
 refine region_lex [] [(54, Pr.ex (i64 ((5 : Nat) : Int))), (55, Pr.ex (i64 ((5 : Nat) : Int))), (56, Pr.ex (i64 ((8 : Nat) : Int))), (57, Pr.ex (i64 ((0 : Nat) : Int))), (58, Pr.ex (Value.pointer (some ⟨b1, 0, none⟩))), (59, Pr.ex (w32 (v14))), (60, Pr.ex (Value.pointer (some ⟨b6, 5, none⟩)))] 7 hN_75 hD_75 (by kernel_rfl) (by kernel_rfl) ?_ ?_
 refine Asks.cons ?_ (Asks.cons ?_ (Asks.cons ?_ (Asks.cons ?_ (Asks.cons ?_ (Asks.cons ?_ (Asks.cons ?_ (Asks.zero _)))))))
 exact Ask.plain rfl rfl fun aq wq hNq hO hR hT => does_move (V := i64 ((5 : Nat) : Int)) ((hO 7 rfl).trans s7_75) ⟨Ext.refl _, rfl⟩
 exact Ask.plain rfl rfl fun aq wq hNq hO hR hT => does_move (V := i64 ((5 : Nat) : Int)) ((hO 7 rfl).trans s7_75) ⟨Ext.refl _, rfl⟩
 exact Ask.plain rfl rfl fun aq wq hNq hO hR hT => does_add (a := ((5 : Nat) : Int)) (b := ((3 : Nat) : Int)) (r := ((8 : Nat) : Int)) (hT 55 rfl rfl) rfl (by decide) (by decide) (by decide) ⟨Ext.refl _, rfl⟩
 exact Ask.plain rfl rfl fun aq wq hNq hO hR hT => does_rem (k := .i64) (a := ((8 : Nat) : Int)) (b := ((8 : Nat) : Int)) (r := ((0 : Nat) : Int)) (hT 56 rfl rfl) rfl (by decide) (by decide) (by decide) ⟨Ext.refl _, rfl⟩
 exact Ask.plain rfl rfl fun aq wq hNq hO hR hT => does_indexArr (k := .i64) (i := 0) (o' := 0) arr_83 ((hO 1 rfl).trans s1_75) (hT 57 rfl rfl) (by decide) (by decide) rfl ⟨Ext.refl _, rfl⟩
 exact Ask.plain rfl rfl fun aq wq hNq hO hR hT => does_loadD1 (o := 0) (V := w32 (v14)) (hT 58 rfl rfl) (hbb1_75.ext' hR) rfl one_22 ⟨Ext.refl _, rfl⟩
 exact Ask.plain rfl rfl fun aq wq hNq hO hR hT => does_indexArr (k := .i64) (i := 5) (o' := 5) arr_83 ((hO 6 rfl).trans s6_75) (hT 54 rfl rfl) (by decide) (by decide) rfl ⟨Ext.refl _, rfl⟩
 intro a76 wd76 hN_76 hD_76 hO hR hA hU
 obtain ⟨_, _, _, _, _, t59, t60, _⟩ := hA
 have hE_76 := hE_75.trans hR
 have s1_76 := (hO 1 rfl).trans s1_75
 have s2_76 := (hO 2 rfl).trans s2_75
 have s3_76 := (hO 3 rfl).trans s3_75
 have s4_76 := (hO 4 rfl).trans s4_75
 have s6_76 := (hO 6 rfl).trans s6_75
 have s7_76 := (hO 7 rfl).trans s7_75
 have hbb1_76 := hbb1_75.ext' hR
 have hbb2_76 := hbb2_75.ext' hR
 have hbb3_76 := hbb3_75.ext' hR
 have hbb6_76 := hbb6_75.ext' hR
 have s59_76 : get a76 59 = w32 (v14) := t59
 have s60_76 : get a76 60 = Value.pointer (some ⟨b6, 5, none⟩) := t60
 clear hE_75 hN_75 hD_75 s1_75 s2_75 s3_75 s4_75 s6_75 s7_75 s51_75 hbb1_75 hbb2_75 hbb3_75 hbb6_75
 refine tail_none rfl rfl (does_storeD (o := 5) (n := 1) (cs' := [w32 (v41), w32 (v17), w32 (v26), w32 (v35), w32 (v44), w32 (v14), w32 (0), w32 (0)]) (V := w32 (v14)) s60_76 s59_76 hbb6_76 (Nat.le_of_ble_eq_true rfl) rfl siz_22 rfl rfl (fun wd77 hX hz hbb6_77 => ?_))
 have hE_77 := hE_76.since hX (fun k e => e ▸ fr_b6)
 have hbb1_77 := hbb1_76.ext hX ne_b1_b6
 have hbb2_77 := hbb2_76.ext hX ne_b2_b6
 have hbb3_77 := hbb3_76.ext hX ne_b3_b6
 clear hX hz hE_76 hbb1_76 hbb2_76 hbb3_76 hbb6_76
 refine tail_nil ?_
 refine region_lex [] [(52, Pr.ex (i64 ((5 : Nat) : Int))), (53, Pr.ex (i64 ((6 : Nat) : Int)))] 2 hN_76 hD_76 (by kernel_rfl) (by kernel_rfl) ?_ ?_
 refine Asks.cons ?_ (Asks.cons ?_ (Asks.zero _))
 exact Ask.plain rfl rfl fun aq wq hNq hO hR hT => does_move (V := i64 ((5 : Nat) : Int)) ((hO 7 rfl).trans s7_76) ⟨Ext.refl _, rfl⟩
 exact Ask.plain rfl rfl fun aq wq hNq hO hR hT => does_add (a := ((5 : Nat) : Int)) (b := ((1 : Nat) : Int)) (r := ((6 : Nat) : Int)) (hT 52 rfl rfl) rfl (by decide) (by decide) (by decide) ⟨Ext.refl _, rfl⟩
 intro a78 wd78 hN_78 hD_78 hO hR hA hU
 obtain ⟨_, t53, _⟩ := hA
 have hE_78 := hE_77.trans hR
 have s1_78 := (hO 1 rfl).trans s1_76
 have s2_78 := (hO 2 rfl).trans s2_76
 have s3_78 := (hO 3 rfl).trans s3_76
 have s4_78 := (hO 4 rfl).trans s4_76
 have s6_78 := (hO 6 rfl).trans s6_76
 have s7_78 := (hO 7 rfl).trans s7_76
 have hbb1_78 := hbb1_77.ext' hR
 have hbb2_78 := hbb2_77.ext' hR
 have hbb3_78 := hbb3_77.ext' hR
 have hbb6_78 := hbb6_77.ext' hR
 have s53_78 : get a78 53 = i64 ((6 : Nat) : Int) := t53
 clear hE_77 hN_76 hD_76 s1_76 s2_76 s3_76 s4_76 s6_76 s7_76 s59_76 s60_76 hbb1_77 hbb2_77 hbb3_77 hbb6_77
 refine tail_put rfl rfl hN_78 hD_78 (by decide) (does_assign (V := i64 ((6 : Nat) : Int)) s53_78 (fun a79 hN_79 hD_79 hv hO => ?_))
 have s7_79 := hv
 have s1_79 := (hO 1 rfl).trans s1_78
 have s2_79 := (hO 2 rfl).trans s2_78
 have s3_79 := (hO 3 rfl).trans s3_78
 have s4_79 := (hO 4 rfl).trans s4_78
 have s6_79 := (hO 6 rfl).trans s6_78
 clear hO hv hN_78 hD_78 s1_78 s2_78 s3_78 s4_78 s6_78 s53_78 s7_78
 refine tail_nil ?_
 refine round_step ?_
 refine wp_seq ?_
 refine wp_seq ?_
 refine region_lex [] [(50, Pr.ex (i64 ((6 : Nat) : Int))), (51, Pr.ex (Value.bool (true)))] 2 hN_79 hD_79 (by kernel_rfl) (by kernel_rfl) ?_ ?_
 refine Asks.cons ?_ (Asks.cons ?_ (Asks.zero _))
 exact Ask.plain rfl rfl fun aq wq hNq hO hR hT => does_move (V := i64 ((6 : Nat) : Int)) ((hO 7 rfl).trans s7_79) ⟨Ext.refl _, rfl⟩
 exact Ask.plain rfl rfl fun aq wq hNq hO hR hT => does_lss (a := ((6 : Nat) : Int)) (b := ((8 : Nat) : Int)) (hT 50 rfl rfl) rfl ⟨Ext.refl _, rfl⟩
 intro a80 wd80 hN_80 hD_80 hO hR hA hU
 obtain ⟨_, t51, _⟩ := hA
 have hE_80 := hE_78.trans hR
 have s1_80 := (hO 1 rfl).trans s1_79
 have s2_80 := (hO 2 rfl).trans s2_79
 have s3_80 := (hO 3 rfl).trans s3_79
 have s4_80 := (hO 4 rfl).trans s4_79
 have s6_80 := (hO 6 rfl).trans s6_79
 have s7_80 := (hO 7 rfl).trans s7_79
 have hbb1_80 := hbb1_78.ext' hR
 have hbb2_80 := hbb2_78.ext' hR
 have hbb3_80 := hbb3_78.ext' hR
 have hbb6_80 := hbb6_78.ext' hR
 have s51_80 : get a80 51 = Value.bool (true) := t51
 clear hE_78 hN_79 hD_79 s1_79 s2_79 s3_79 s4_79 s6_79 s7_79 hbb1_78 hbb2_78 hbb3_78 hbb6_78
 refine tail_nil ?_
 refine wp_ifT s51_80 ?_
 refine wp_skip ?_
 refine wp_seq ?_
 refine wp_block ?_
 refine region_lex [] [(54, Pr.ex (i64 ((6 : Nat) : Int))), (55, Pr.ex (i64 ((6 : Nat) : Int))), (56, Pr.ex (i64 ((9 : Nat) : Int))), (57, Pr.ex (i64 ((1 : Nat) : Int))), (58, Pr.ex (Value.pointer (some ⟨b1, 1, none⟩))), (59, Pr.ex (w32 (v23))), (60, Pr.ex (Value.pointer (some ⟨b6, 6, none⟩)))] 7 hN_80 hD_80 (by kernel_rfl) (by kernel_rfl) ?_ ?_
 refine Asks.cons ?_ (Asks.cons ?_ (Asks.cons ?_ (Asks.cons ?_ (Asks.cons ?_ (Asks.cons ?_ (Asks.cons ?_ (Asks.zero _)))))))
 exact Ask.plain rfl rfl fun aq wq hNq hO hR hT => does_move (V := i64 ((6 : Nat) : Int)) ((hO 7 rfl).trans s7_80) ⟨Ext.refl _, rfl⟩
 exact Ask.plain rfl rfl fun aq wq hNq hO hR hT => does_move (V := i64 ((6 : Nat) : Int)) ((hO 7 rfl).trans s7_80) ⟨Ext.refl _, rfl⟩
 exact Ask.plain rfl rfl fun aq wq hNq hO hR hT => does_add (a := ((6 : Nat) : Int)) (b := ((3 : Nat) : Int)) (r := ((9 : Nat) : Int)) (hT 55 rfl rfl) rfl (by decide) (by decide) (by decide) ⟨Ext.refl _, rfl⟩
 exact Ask.plain rfl rfl fun aq wq hNq hO hR hT => does_rem (k := .i64) (a := ((9 : Nat) : Int)) (b := ((8 : Nat) : Int)) (r := ((1 : Nat) : Int)) (hT 56 rfl rfl) rfl (by decide) (by decide) (by decide) ⟨Ext.refl _, rfl⟩
 exact Ask.plain rfl rfl fun aq wq hNq hO hR hT => does_indexArr (k := .i64) (i := 1) (o' := 1) arr_83 ((hO 1 rfl).trans s1_80) (hT 57 rfl rfl) (by decide) (by decide) rfl ⟨Ext.refl _, rfl⟩
 exact Ask.plain rfl rfl fun aq wq hNq hO hR hT => does_loadD1 (o := 1) (V := w32 (v23)) (hT 58 rfl rfl) (hbb1_80.ext' hR) rfl one_22 ⟨Ext.refl _, rfl⟩
 exact Ask.plain rfl rfl fun aq wq hNq hO hR hT => does_indexArr (k := .i64) (i := 6) (o' := 6) arr_83 ((hO 6 rfl).trans s6_80) (hT 54 rfl rfl) (by decide) (by decide) rfl ⟨Ext.refl _, rfl⟩
 intro a81 wd81 hN_81 hD_81 hO hR hA hU
 obtain ⟨_, _, _, _, _, t59, t60, _⟩ := hA
 have hE_81 := hE_80.trans hR
 have s1_81 := (hO 1 rfl).trans s1_80
 have s2_81 := (hO 2 rfl).trans s2_80
 have s3_81 := (hO 3 rfl).trans s3_80
 have s4_81 := (hO 4 rfl).trans s4_80
 have s6_81 := (hO 6 rfl).trans s6_80
 have s7_81 := (hO 7 rfl).trans s7_80
 have hbb1_81 := hbb1_80.ext' hR
 have hbb2_81 := hbb2_80.ext' hR
 have hbb3_81 := hbb3_80.ext' hR
 have hbb6_81 := hbb6_80.ext' hR
 have s59_81 : get a81 59 = w32 (v23) := t59
 have s60_81 : get a81 60 = Value.pointer (some ⟨b6, 6, none⟩) := t60
 clear hE_80 hN_80 hD_80 s1_80 s2_80 s3_80 s4_80 s6_80 s7_80 s51_80 hbb1_80 hbb2_80 hbb3_80 hbb6_80
 refine tail_none rfl rfl (does_storeD (o := 6) (n := 1) (cs' := [w32 (v41), w32 (v17), w32 (v26), w32 (v35), w32 (v44), w32 (v14), w32 (v23), w32 (0)]) (V := w32 (v23)) s60_81 s59_81 hbb6_81 (Nat.le_of_ble_eq_true rfl) rfl siz_22 rfl rfl (fun wd82 hX hz hbb6_82 => ?_))
 have hE_82 := hE_81.since hX (fun k e => e ▸ fr_b6)
 have hbb1_82 := hbb1_81.ext hX ne_b1_b6
 have hbb2_82 := hbb2_81.ext hX ne_b2_b6
 have hbb3_82 := hbb3_81.ext hX ne_b3_b6
 clear hX hz hE_81 hbb1_81 hbb2_81 hbb3_81 hbb6_81
 refine tail_nil ?_
 refine region_lex [] [(52, Pr.ex (i64 ((6 : Nat) : Int))), (53, Pr.ex (i64 ((7 : Nat) : Int)))] 2 hN_81 hD_81 (by kernel_rfl) (by kernel_rfl) ?_ ?_
 refine Asks.cons ?_ (Asks.cons ?_ (Asks.zero _))
 exact Ask.plain rfl rfl fun aq wq hNq hO hR hT => does_move (V := i64 ((6 : Nat) : Int)) ((hO 7 rfl).trans s7_81) ⟨Ext.refl _, rfl⟩
 exact Ask.plain rfl rfl fun aq wq hNq hO hR hT => does_add (a := ((6 : Nat) : Int)) (b := ((1 : Nat) : Int)) (r := ((7 : Nat) : Int)) (hT 52 rfl rfl) rfl (by decide) (by decide) (by decide) ⟨Ext.refl _, rfl⟩
 intro a83 wd83 hN_83 hD_83 hO hR hA hU
 obtain ⟨_, t53, _⟩ := hA
 have hE_83 := hE_82.trans hR
 have s1_83 := (hO 1 rfl).trans s1_81
 have s2_83 := (hO 2 rfl).trans s2_81
 have s3_83 := (hO 3 rfl).trans s3_81
 have s4_83 := (hO 4 rfl).trans s4_81
 have s6_83 := (hO 6 rfl).trans s6_81
 have s7_83 := (hO 7 rfl).trans s7_81
 have hbb1_83 := hbb1_82.ext' hR
 have hbb2_83 := hbb2_82.ext' hR
 have hbb3_83 := hbb3_82.ext' hR
 have hbb6_83 := hbb6_82.ext' hR
 have s53_83 : get a83 53 = i64 ((7 : Nat) : Int) := t53
 clear hE_82 hN_81 hD_81 s1_81 s2_81 s3_81 s4_81 s6_81 s7_81 s59_81 s60_81 hbb1_82 hbb2_82 hbb3_82 hbb6_82
 refine tail_put rfl rfl hN_83 hD_83 (by decide) (does_assign (V := i64 ((7 : Nat) : Int)) s53_83 (fun a84 hN_84 hD_84 hv hO => ?_))
 have s7_84 := hv
 have s1_84 := (hO 1 rfl).trans s1_83
 have s2_84 := (hO 2 rfl).trans s2_83
 have s3_84 := (hO 3 rfl).trans s3_83
 have s4_84 := (hO 4 rfl).trans s4_83
 have s6_84 := (hO 6 rfl).trans s6_83
 clear hO hv hN_83 hD_83 s1_83 s2_83 s3_83 s4_83 s6_83 s53_83 s7_83
 refine tail_nil ?_
 refine round_step ?_
 refine wp_seq ?_
 refine wp_seq ?_
 refine region_lex [] [(50, Pr.ex (i64 ((7 : Nat) : Int))), (51, Pr.ex (Value.bool (true)))] 2 hN_84 hD_84 (by kernel_rfl) (by kernel_rfl) ?_ ?_
 refine Asks.cons ?_ (Asks.cons ?_ (Asks.zero _))
 exact Ask.plain rfl rfl fun aq wq hNq hO hR hT => does_move (V := i64 ((7 : Nat) : Int)) ((hO 7 rfl).trans s7_84) ⟨Ext.refl _, rfl⟩
 exact Ask.plain rfl rfl fun aq wq hNq hO hR hT => does_lss (a := ((7 : Nat) : Int)) (b := ((8 : Nat) : Int)) (hT 50 rfl rfl) rfl ⟨Ext.refl _, rfl⟩
 intro a85 wd85 hN_85 hD_85 hO hR hA hU
 obtain ⟨_, t51, _⟩ := hA
 have hE_85 := hE_83.trans hR
 have s1_85 := (hO 1 rfl).trans s1_84
 have s2_85 := (hO 2 rfl).trans s2_84
 have s3_85 := (hO 3 rfl).trans s3_84
 have s4_85 := (hO 4 rfl).trans s4_84
 have s6_85 := (hO 6 rfl).trans s6_84
 have s7_85 := (hO 7 rfl).trans s7_84
 have hbb1_85 := hbb1_83.ext' hR
 have hbb2_85 := hbb2_83.ext' hR
 have hbb3_85 := hbb3_83.ext' hR
 have hbb6_85 := hbb6_83.ext' hR
 have s51_85 : get a85 51 = Value.bool (true) := t51
 clear hE_83 hN_84 hD_84 s1_84 s2_84 s3_84 s4_84 s6_84 s7_84 hbb1_83 hbb2_83 hbb3_83 hbb6_83
 refine tail_nil ?_
 refine wp_ifT s51_85 ?_
 refine wp_skip ?_
 refine wp_seq ?_
 refine wp_block ?_
 refine region_lex [] [(54, Pr.ex (i64 ((7 : Nat) : Int))), (55, Pr.ex (i64 ((7 : Nat) : Int))), (56, Pr.ex (i64 ((10 : Nat) : Int))), (57, Pr.ex (i64 ((2 : Nat) : Int))), (58, Pr.ex (Value.pointer (some ⟨b1, 2, none⟩))), (59, Pr.ex (w32 (v32))), (60, Pr.ex (Value.pointer (some ⟨b6, 7, none⟩)))] 7 hN_85 hD_85 (by kernel_rfl) (by kernel_rfl) ?_ ?_
 refine Asks.cons ?_ (Asks.cons ?_ (Asks.cons ?_ (Asks.cons ?_ (Asks.cons ?_ (Asks.cons ?_ (Asks.cons ?_ (Asks.zero _)))))))
 exact Ask.plain rfl rfl fun aq wq hNq hO hR hT => does_move (V := i64 ((7 : Nat) : Int)) ((hO 7 rfl).trans s7_85) ⟨Ext.refl _, rfl⟩
 exact Ask.plain rfl rfl fun aq wq hNq hO hR hT => does_move (V := i64 ((7 : Nat) : Int)) ((hO 7 rfl).trans s7_85) ⟨Ext.refl _, rfl⟩
 exact Ask.plain rfl rfl fun aq wq hNq hO hR hT => does_add (a := ((7 : Nat) : Int)) (b := ((3 : Nat) : Int)) (r := ((10 : Nat) : Int)) (hT 55 rfl rfl) rfl (by decide) (by decide) (by decide) ⟨Ext.refl _, rfl⟩
 exact Ask.plain rfl rfl fun aq wq hNq hO hR hT => does_rem (k := .i64) (a := ((10 : Nat) : Int)) (b := ((8 : Nat) : Int)) (r := ((2 : Nat) : Int)) (hT 56 rfl rfl) rfl (by decide) (by decide) (by decide) ⟨Ext.refl _, rfl⟩
 exact Ask.plain rfl rfl fun aq wq hNq hO hR hT => does_indexArr (k := .i64) (i := 2) (o' := 2) arr_83 ((hO 1 rfl).trans s1_85) (hT 57 rfl rfl) (by decide) (by decide) rfl ⟨Ext.refl _, rfl⟩
 exact Ask.plain rfl rfl fun aq wq hNq hO hR hT => does_loadD1 (o := 2) (V := w32 (v32)) (hT 58 rfl rfl) (hbb1_85.ext' hR) rfl one_22 ⟨Ext.refl _, rfl⟩
 exact Ask.plain rfl rfl fun aq wq hNq hO hR hT => does_indexArr (k := .i64) (i := 7) (o' := 7) arr_83 ((hO 6 rfl).trans s6_85) (hT 54 rfl rfl) (by decide) (by decide) rfl ⟨Ext.refl _, rfl⟩
 intro a86 wd86 hN_86 hD_86 hO hR hA hU
 obtain ⟨_, _, _, _, _, t59, t60, _⟩ := hA
 have hE_86 := hE_85.trans hR
 have s1_86 := (hO 1 rfl).trans s1_85
 have s2_86 := (hO 2 rfl).trans s2_85
 have s3_86 := (hO 3 rfl).trans s3_85
 have s4_86 := (hO 4 rfl).trans s4_85
 have s6_86 := (hO 6 rfl).trans s6_85
 have s7_86 := (hO 7 rfl).trans s7_85
 have hbb1_86 := hbb1_85.ext' hR
 have hbb2_86 := hbb2_85.ext' hR
 have hbb3_86 := hbb3_85.ext' hR
 have hbb6_86 := hbb6_85.ext' hR
 have s59_86 : get a86 59 = w32 (v32) := t59
 have s60_86 : get a86 60 = Value.pointer (some ⟨b6, 7, none⟩) := t60
 clear hE_85 hN_85 hD_85 s1_85 s2_85 s3_85 s4_85 s6_85 s7_85 s51_85 hbb1_85 hbb2_85 hbb3_85 hbb6_85
 refine tail_none rfl rfl (does_storeD (o := 7) (n := 1) (cs' := [w32 (v41), w32 (v17), w32 (v26), w32 (v35), w32 (v44), w32 (v14), w32 (v23), w32 (v32)]) (V := w32 (v32)) s60_86 s59_86 hbb6_86 (Nat.le_of_ble_eq_true rfl) rfl siz_22 rfl rfl (fun wd87 hX hz hbb6_87 => ?_))
 have hE_87 := hE_86.since hX (fun k e => e ▸ fr_b6)
 have hbb1_87 := hbb1_86.ext hX ne_b1_b6
 have hbb2_87 := hbb2_86.ext hX ne_b2_b6
 have hbb3_87 := hbb3_86.ext hX ne_b3_b6
 clear hX hz hE_86 hbb1_86 hbb2_86 hbb3_86 hbb6_86
 refine tail_nil ?_
 refine region_lex [] [(52, Pr.ex (i64 ((7 : Nat) : Int))), (53, Pr.ex (i64 ((8 : Nat) : Int)))] 2 hN_86 hD_86 (by kernel_rfl) (by kernel_rfl) ?_ ?_
 refine Asks.cons ?_ (Asks.cons ?_ (Asks.zero _))
 exact Ask.plain rfl rfl fun aq wq hNq hO hR hT => does_move (V := i64 ((7 : Nat) : Int)) ((hO 7 rfl).trans s7_86) ⟨Ext.refl _, rfl⟩
 exact Ask.plain rfl rfl fun aq wq hNq hO hR hT => does_add (a := ((7 : Nat) : Int)) (b := ((1 : Nat) : Int)) (r := ((8 : Nat) : Int)) (hT 52 rfl rfl) rfl (by decide) (by decide) (by decide) ⟨Ext.refl _, rfl⟩
 intro a88 wd88 hN_88 hD_88 hO hR hA hU
 obtain ⟨_, t53, _⟩ := hA
 have hE_88 := hE_87.trans hR
 have s1_88 := (hO 1 rfl).trans s1_86
 have s2_88 := (hO 2 rfl).trans s2_86
 have s3_88 := (hO 3 rfl).trans s3_86
 have s4_88 := (hO 4 rfl).trans s4_86
 have s6_88 := (hO 6 rfl).trans s6_86
 have s7_88 := (hO 7 rfl).trans s7_86
 have hbb1_88 := hbb1_87.ext' hR
 have hbb2_88 := hbb2_87.ext' hR
 have hbb3_88 := hbb3_87.ext' hR
 have hbb6_88 := hbb6_87.ext' hR
 have s53_88 : get a88 53 = i64 ((8 : Nat) : Int) := t53
 clear hE_87 hN_86 hD_86 s1_86 s2_86 s3_86 s4_86 s6_86 s7_86 s59_86 s60_86 hbb1_87 hbb2_87 hbb3_87 hbb6_87
 refine tail_put rfl rfl hN_88 hD_88 (by decide) (does_assign (V := i64 ((8 : Nat) : Int)) s53_88 (fun a89 hN_89 hD_89 hv hO => ?_))
 have s7_89 := hv
 have s1_89 := (hO 1 rfl).trans s1_88
 have s2_89 := (hO 2 rfl).trans s2_88
 have s3_89 := (hO 3 rfl).trans s3_88
 have s4_89 := (hO 4 rfl).trans s4_88
 have s6_89 := (hO 6 rfl).trans s6_88
 clear hO hv hN_88 hD_88 s1_88 s2_88 s3_88 s4_88 s6_88 s53_88 s7_88
 refine tail_nil ?_
 refine round_step ?_
 refine wp_seq ?_
 refine wp_seq ?_
 refine region_lex [] [(50, Pr.ex (i64 ((8 : Nat) : Int))), (51, Pr.ex (Value.bool (false)))] 2 hN_89 hD_89 (by kernel_rfl) (by kernel_rfl) ?_ ?_
 refine Asks.cons ?_ (Asks.cons ?_ (Asks.zero _))
 exact Ask.plain rfl rfl fun aq wq hNq hO hR hT => does_move (V := i64 ((8 : Nat) : Int)) ((hO 7 rfl).trans s7_89) ⟨Ext.refl _, rfl⟩
 exact Ask.plain rfl rfl fun aq wq hNq hO hR hT => does_lss (a := ((8 : Nat) : Int)) (b := ((8 : Nat) : Int)) (hT 50 rfl rfl) rfl ⟨Ext.refl _, rfl⟩
 intro a90 wd90 hN_90 hD_90 hO hR hA hU
 obtain ⟨_, t51, _⟩ := hA
 have hE_90 := hE_88.trans hR
 have s1_90 := (hO 1 rfl).trans s1_89
 have s2_90 := (hO 2 rfl).trans s2_89
 have s3_90 := (hO 3 rfl).trans s3_89
 have s4_90 := (hO 4 rfl).trans s4_89
 have s6_90 := (hO 6 rfl).trans s6_89
 have s7_90 := (hO 7 rfl).trans s7_89
 have hbb1_90 := hbb1_88.ext' hR
 have hbb2_90 := hbb2_88.ext' hR
 have hbb3_90 := hbb3_88.ext' hR
 have hbb6_90 := hbb6_88.ext' hR
 have s51_90 : get a90 51 = Value.bool (false) := t51
 clear hE_88 hN_89 hD_89 s1_89 s2_89 s3_89 s4_89 s6_89 s7_89 hbb1_88 hbb2_88 hbb3_88 hbb6_88
 refine tail_nil ?_
 refine wp_ifF s51_90 ?_
 refine wp_exit ?_
 refine region_lex [] [(61, Pr.ex (Value.agg #[w32 (v41), w32 (v17), w32 (v26), w32 (v35), w32 (v44), w32 (v14), w32 (v23), w32 (v32)]))] 1 hN_90 hD_90 (by kernel_rfl) (by kernel_rfl) ?_ ?_
 refine Asks.cons ?_ (Asks.zero _)
 exact Ask.plain rfl rfl fun aq wq hNq hO hR hT => does_loadD (o := 0) (n := 8) (mid := [w32 (v41), w32 (v17), w32 (v26), w32 (v35), w32 (v44), w32 (v14), w32 (v23), w32 (v32)]) ((hO 6 rfl).trans s6_90) (hbb6_90.ext' hR) rfl rfl (Nat.le_of_ble_eq_true rfl) row_83 rfl ⟨Ext.refl _, rfl⟩
 intro a91 wd91 hN_91 hD_91 hO hR hA hU
 obtain ⟨t61, _⟩ := hA
 have hE_91 := hE_90.trans hR
 have s1_91 := (hO 1 rfl).trans s1_90
 have s2_91 := (hO 2 rfl).trans s2_90
 have s3_91 := (hO 3 rfl).trans s3_90
 have s4_91 := (hO 4 rfl).trans s4_90
 have hbb1_91 := hbb1_90.ext' hR
 have hbb2_91 := hbb2_90.ext' hR
 have hbb3_91 := hbb3_90.ext' hR
 have hbb6_91 := hbb6_90.ext' hR
 have s61_91 : get a91 61 = Value.agg #[w32 (v41), w32 (v17), w32 (v26), w32 (v35), w32 (v44), w32 (v14), w32 (v23), w32 (v32)] := t61
 clear hE_90 hN_90 hD_90 s1_90 s2_90 s3_90 s4_90 s6_90 s7_90 s51_90 hbb1_90 hbb2_90 hbb3_90 hbb6_90
 refine tail_none rfl rfl (does_storeD (o := 0) (n := 8) (cs' := [w32 (v41), w32 (v17), w32 (v26), w32 (v35), w32 (v44), w32 (v14), w32 (v23), w32 (v32)]) (V := Value.agg #[w32 (v41), w32 (v17), w32 (v26), w32 (v35), w32 (v44), w32 (v14), w32 (v23), w32 (v32)]) s1_91 s61_91 hbb1_91 (Nat.le_of_ble_eq_true rfl) rfl siz_83 rfl rfl (fun wd92 hX hz hbb1_92 => ?_))
 have hE_92 := hE_91.since hX (fun k e => e ▸ fr_b1)
 have hbb2_92 := hbb2_91.ext hX ne_b1_b2.symm
 have hbb3_92 := hbb3_91.ext hX ne_b1_b3.symm
 have hbb6_92 := hbb6_91.ext hX ne_b1_b6.symm
 clear hX hz hE_91 hbb1_91 hbb2_91 hbb3_91 hbb6_91
 refine tail_nil ?_
 refine region_lex [] [(11, Pr.ex (i64 ((k : Nat) : Int))), (12, Pr.ex (i64 ((k + 1 : Nat) : Int)))] 2 hN_91 hD_91 (by kernel_rfl) (by kernel_rfl) ?_ ?_
 refine Asks.cons ?_ (Asks.cons ?_ (Asks.zero _))
 exact Ask.plain rfl rfl fun aq wq hNq hO hR hT => does_move (V := i64 ((k : Nat) : Int)) ((hO 4 rfl).trans s4_91) ⟨Ext.refl _, rfl⟩
 exact Ask.plain rfl rfl fun aq wq hNq hO hR hT => does_add (a := ((k : Nat) : Int)) (b := ((1 : Nat) : Int)) (r := ((k + 1 : Nat) : Int)) (hT 11 rfl rfl) rfl (by omega) (by omega) (by omega) ⟨Ext.refl _, rfl⟩
 intro a93 wd93 hN_93 hD_93 hO hR hA hU
 obtain ⟨_, t12, _⟩ := hA
 have hE_93 := hE_92.trans hR
 have s1_93 := (hO 1 rfl).trans s1_91
 have s2_93 := (hO 2 rfl).trans s2_91
 have s3_93 := (hO 3 rfl).trans s3_91
 have s4_93 := (hO 4 rfl).trans s4_91
 have hbb1_93 := hbb1_92.ext' hR
 have hbb2_93 := hbb2_92.ext' hR
 have hbb3_93 := hbb3_92.ext' hR
 have hbb6_93 := hbb6_92.ext' hR
 have s12_93 : get a93 12 = i64 ((k + 1 : Nat) : Int) := t12
 clear hE_92 hN_91 hD_91 s1_91 s2_91 s3_91 s4_91 s61_91 hbb1_92 hbb2_92 hbb3_92 hbb6_92
 refine tail_put rfl rfl hN_93 hD_93 (by decide) (does_assign (V := i64 ((k + 1 : Nat) : Int)) s12_93 (fun a94 hN_94 hD_94 hv hO => ?_))
 have s4_94 := hv
 have s1_94 := (hO 1 rfl).trans s1_93
 have s2_94 := (hO 2 rfl).trans s2_93
 have s3_94 := (hO 3 rfl).trans s3_93
 clear hO hv hN_93 hD_93 s1_93 s2_93 s3_93 s12_93 s4_93
 refine tail_nil ?_
 subst hv44
 subst hv41
 subst hv35
 subst hv32
 subst hv26
 subst hv23
 subst hv17
 subst hv14
 subst hv9
 exact ⟨_, by omega, k + 1, rfl, hN_94, hD_94, s1_94, s2_94, s3_94, s4_94, hE_93, hbb1_93, hbb2_93, hbb3_93, by omega⟩
 have hc0 := of_decide_eq_false hc0
 refine wp_exit ?_
 refine wp_seq ?_
 refine region_lex [] [(62, Pr.ex (Value.agg #[w32 ((s.rounds k).a), w32 ((s.rounds k).b), w32 ((s.rounds k).c), w32 ((s.rounds k).d), w32 ((s.rounds k).e), w32 ((s.rounds k).f), w32 ((s.rounds k).g), w32 ((s.rounds k).h)]))] 1 hN_6 hD_6 (by kernel_rfl) (by kernel_rfl) ?_ ?_
 refine Asks.cons ?_ (Asks.zero _)
 exact Ask.plain rfl rfl fun aq wq hNq hO hR hT => does_loadD (o := 0) (n := 8) (mid := [w32 ((s.rounds k).a), w32 ((s.rounds k).b), w32 ((s.rounds k).c), w32 ((s.rounds k).d), w32 ((s.rounds k).e), w32 ((s.rounds k).f), w32 ((s.rounds k).g), w32 ((s.rounds k).h)]) ((hO 1 rfl).trans s1_6) (hbb1_6.ext' hR) rfl rfl (Nat.le_of_ble_eq_true rfl) row_83 rfl ⟨Ext.refl _, rfl⟩
 intro a95 wd95 hN_95 hD_95 hO hR hA hU
 obtain ⟨t62, _⟩ := hA
 have hE_95 := hE_6.trans hR
 have s2_95 := (hO 2 rfl).trans s2_6
 have hbb1_95 := hbb1_6.ext' hR
 have hbb2_95 := hbb2_6.ext' hR
 have hbb3_95 := hbb3_6.ext' hR
 have s62_95 : get a95 62 = Value.agg #[w32 ((s.rounds k).a), w32 ((s.rounds k).b), w32 ((s.rounds k).c), w32 ((s.rounds k).d), w32 ((s.rounds k).e), w32 ((s.rounds k).f), w32 ((s.rounds k).g), w32 ((s.rounds k).h)] := t62
 clear hE_6 hN_6 hD_6 s1_6 s2_6 s3_6 s4_6 s10_6 hbb1_6 hbb2_6 hbb3_6
 refine tail_none rfl rfl (does_storeD (o := 0) (n := 8) (cs' := [w32 ((s.rounds k).a), w32 ((s.rounds k).b), w32 ((s.rounds k).c), w32 ((s.rounds k).d), w32 ((s.rounds k).e), w32 ((s.rounds k).f), w32 ((s.rounds k).g), w32 ((s.rounds k).h)]) (V := Value.agg #[w32 ((s.rounds k).a), w32 ((s.rounds k).b), w32 ((s.rounds k).c), w32 ((s.rounds k).d), w32 ((s.rounds k).e), w32 ((s.rounds k).f), w32 ((s.rounds k).g), w32 ((s.rounds k).h)]) s2_95 s62_95 hbb2_95 (Nat.le_of_ble_eq_true rfl) rfl siz_83 rfl rfl (fun wd96 hX hz hbb2_96 => ?_))
 have hE_96 := hE_95.since hX (fun k e => e ▸ fr_b2)
 have hbb1_96 := hbb1_95.ext hX ne_b1_b2
 have hbb3_96 := hbb3_95.ext hX ne_b2_b3.symm
 clear hX hz hE_95 hbb1_95 hbb2_95 hbb3_95
 refine tail_nil ?_
 refine wp_ret ?_
 refine res_one (V := Value.agg #[w32 ((s.rounds k).a), w32 ((s.rounds k).b), w32 ((s.rounds k).c), w32 ((s.rounds k).d), w32 ((s.rounds k).e), w32 ((s.rounds k).f), w32 ((s.rounds k).g), w32 ((s.rounds k).h)]) rfl hD_95 (ResIs.cell s2_95 hbb2_96 row_83 rfl rfl) ?_
 have hk8 : k = 8 := by omega
 subst hk8
 exact ⟨rfl, hE_96⟩

end Go.Proofs.YtaeohnkfmachfabDoor
