/- The walks of functions of the program: printed. -/
import Derived.Test.YtaeohnkfmachfabDoorG1
import Derived.Test.YtaeohnkfmachfabDoorF0
set_option maxRecDepth 100000
namespace Go.Proofs.YtaeohnkfmachfabDoor
open Go Go.RowKit Sk Sd
theorem mix (s : St) (w0 : World) (hL : Laid w0) :
    Gives Tryd.prog 72 #[Value.agg #[w32 (s.a), w32 (s.b), w32 (s.c), w32 (s.d), w32 (s.e), w32 (s.f), w32 (s.g), w32 (s.h)]] w0 (Pr.ex (St.val s.mix)) := by
 refine enter (N := 60) Tryd.func72 rfl rfl ?_
 intro a0 hN_0 hD_0 hA
 have s0_0 : get a0 0 = Value.agg #[w32 (s.a), w32 (s.b), w32 (s.c), w32 (s.d), w32 (s.e), w32 (s.f), w32 (s.g), w32 (s.h)] := hA 0 _ rfl
 clear hA
 have hE_0 : Ext w0 w0 := Ext.refl w0
 refine wp_seq ?_
 refine region_lex [1, 2] [(1, Pr.box' w0.heap.size 83 [w32 (s.a), w32 (s.b), w32 (s.c), w32 (s.d), w32 (s.e), w32 (s.f), w32 (s.g), w32 (s.h)]), (2, Pr.box' w0.heap.size 83 [w32 (0), w32 (0), w32 (0), w32 (0), w32 (0), w32 (0), w32 (0), w32 (0)])] 2 hN_0 hD_0 (by kernel_rfl) (by kernel_rfl) ?_ ?_
 refine Asks.cons ?_ (Asks.cons ?_ (Asks.zero _))
 refine Ask.fresh rfl rfl ?_
 intro aq wq hNq hO hR hT
 exact does_box (V := Value.agg #[w32 (s.a), w32 (s.b), w32 (s.c), w32 (s.d), w32 (s.e), w32 (s.f), w32 (s.g), w32 (s.h)]) ((hO 0 rfl).trans s0_0) (fun b w2 he hlo hb => ⟨he, ⟨b, rfl, Nat.le_trans hR.size' hlo, hb⟩, ⟨b, rfl, hlo, hb.lt⟩⟩)
 refine Ask.fresh rfl rfl ?_
 intro aq wq hNq hO hR hT
 exact does_alloc zero_83 (fun b w2 he hlo hb => ⟨he, ⟨b, rfl, Nat.le_trans hR.size' hlo, hb⟩, ⟨b, rfl, hlo, hb.lt⟩⟩)
 intro a1 wd1 hN_1 hD_1 hO hR hA hU
 obtain ⟨t1, t2, _⟩ := hA
 have hE_1 := hE_0.trans hR
 obtain ⟨b1, s1_1, lo_b1, hbb1_1⟩ := t1
 have fr_b1 : w0.heap.size ≤ b1 := Nat.le_trans hE_0.size' lo_b1
 obtain ⟨b2, s2_1, lo_b2, hbb2_1⟩ := t2
 have fr_b2 : w0.heap.size ≤ b2 := Nat.le_trans hE_0.size' lo_b2
 obtain ⟨u0, ⟨u1, _⟩⟩ := hU
 have ne_b1_b2 : b1 ≠ b2 := fun e => u0 2 (by decide) (by rw [s1_1, s2_1, e])
 clear hE_0 hN_0 hD_0 s0_0
 refine tail_nil ?_
 refine wp_seq ?_
 refine wp_seq ?_
 refine region_lex [] [(8, Pr.ex (w32 (0)))] 1 hN_1 hD_1 (by kernel_rfl) (by kernel_rfl) ?_ ?_
 refine Asks.cons ?_ (Asks.zero _)
 exact Ask.plain rfl rfl fun aq wq hNq hO hR hT => does_move (V := w32 (0)) rfl ⟨Ext.refl _, rfl⟩
 intro a2 wd2 hN_2 hD_2 hO hR hA hU
 obtain ⟨t8, _⟩ := hA
 have hE_2 := hE_1.trans hR
 have s1_2 := (hO 1 rfl).trans s1_1
 have s2_2 := (hO 2 rfl).trans s2_1
 have hbb1_2 := hbb1_1.ext' hR
 have hbb2_2 := hbb2_1.ext' hR
 have s8_2 : get a2 8 = w32 (0) := t8
 clear hE_1 hN_1 hD_1 s1_1 s2_1 hbb1_1 hbb2_1
 refine tail_nil ?_
 refine wp_block ?_
 refine loop_g (fun mz az wz => ∃ k : Nat, mz = 8 - k ∧ (az.tmps.size = 60) ∧ (az.defers = []) ∧ (get az 1 = Value.pointer (some ⟨b1, 0, none⟩)) ∧ (get az 2 = Value.pointer (some ⟨b2, 0, none⟩)) ∧ (get az 8 = w32 (UInt32.ofNat k)) ∧ (Ext w0 wz) ∧ (Has wz b1 83 [w32 ((s.rounds k).a), w32 ((s.rounds k).b), w32 ((s.rounds k).c), w32 ((s.rounds k).d), w32 ((s.rounds k).e), w32 ((s.rounds k).f), w32 ((s.rounds k).g), w32 ((s.rounds k).h)]) ∧ (Has wz b2 83 [w32 (0), w32 (0), w32 (0), w32 (0), w32 (0), w32 (0), w32 (0), w32 (0)]) ∧ (k ≤ 8)) ?_ ?_
 exact ⟨_, 0, rfl, hN_2, hD_2, s1_2, s2_2, s8_2, hE_2, hbb1_2, hbb2_2, by omega⟩
 rintro mz a3 wd3 ⟨k, rfl, hN_3, hD_3, s1_3, s2_3, s8_3, hE_3, hbb1_3, hbb2_3, hk⟩
 refine wp_seq ?_
 refine region_lex [] [(9, Pr.ex (Value.bool (decide (((UInt32.ofNat k : UInt32).toNat : Int) < ((8 : UInt32).toNat : Int)))))] 1 hN_3 hD_3 (by kernel_rfl) (by kernel_rfl) ?_ ?_
 refine Asks.cons ?_ (Asks.zero _)
 exact Ask.plain rfl rfl fun aq wq hNq hO hR hT => does_lss (a := ((UInt32.ofNat k : UInt32).toNat : Int)) (b := ((8 : UInt32).toNat : Int)) ((hO 8 rfl).trans s8_3) rfl ⟨Ext.refl _, rfl⟩
 intro a4 wd4 hN_4 hD_4 hO hR hA hU
 obtain ⟨t9, _⟩ := hA
 have hE_4 := hE_3.trans hR
 have s1_4 := (hO 1 rfl).trans s1_3
 have s2_4 := (hO 2 rfl).trans s2_3
 have s8_4 := (hO 8 rfl).trans s8_3
 have hbb1_4 := hbb1_3.ext' hR
 have hbb2_4 := hbb2_3.ext' hR
 have s9_4 : get a4 9 = Value.bool (decide (((UInt32.ofNat k : UInt32).toNat : Int) < ((8 : UInt32).toNat : Int))) := t9
 clear hE_3 hN_3 hD_3 s1_3 s2_3 s8_3 hbb1_3 hbb2_3
 refine tail_nil ?_
 refine wp_seq ?_
 refine wp_if (B := decide (((UInt32.ofNat k : UInt32).toNat : Int) < ((8 : UInt32).toNat : Int))) s9_4 (fun hc0 => ?_) (fun hc0 => ?_)
 have hc0 := of_decide_eq_true hc0
 have hk8 : k < 8 := (u32_lt8 hk).1 hc0
 refine wp_skip ?_
 refine wp_seq ?_
 refine wp_block ?_
 refine wp_seq ?_
 refine region_lex [] [(10, Pr.ex (w32 (UInt32.ofNat k))), (3, Pr.ex (w32 (UInt32.ofNat k)))] 2 hN_4 hD_4 (by kernel_rfl) (by kernel_rfl) ?_ ?_
 refine Asks.cons ?_ (Asks.cons ?_ (Asks.zero _))
 exact Ask.plain rfl rfl fun aq wq hNq hO hR hT => does_move (V := w32 (UInt32.ofNat k)) ((hO 8 rfl).trans s8_4) ⟨Ext.refl _, rfl⟩
 exact Ask.plain rfl rfl fun aq wq hNq hO hR hT => does_assign (V := w32 (UInt32.ofNat k)) (hT 10 rfl rfl) ⟨Ext.refl _, rfl⟩
 intro a5 wd5 hN_5 hD_5 hO hR hA hU
 obtain ⟨_, t3, _⟩ := hA
 have hE_5 := hE_4.trans hR
 have s1_5 := (hO 1 rfl).trans s1_4
 have s2_5 := (hO 2 rfl).trans s2_4
 have s8_5 := (hO 8 rfl).trans s8_4
 have hbb1_5 := hbb1_4.ext' hR
 have hbb2_5 := hbb2_4.ext' hR
 have s3_5 : get a5 3 = w32 (UInt32.ofNat k) := t3
 clear hE_4 hN_4 hD_4 s1_4 s2_4 s8_4 s9_4 hbb1_4 hbb2_4
 refine tail_nil ?_
 refine wp_seq ?_
 refine region_lex [] [(11, Pr.ex (Value.pointer (some ⟨b1, 0, none⟩))), (12, Pr.ex (w32 ((s.rounds k).a))), (13, Pr.ex (w32 (UInt32.ofNat k))), (14, Pr.ex (w32 ((UInt32.ofNat k : UInt32) + (1 : UInt32)))), (15, Pr.ex (w32 ((2654435769 : UInt32) * ((UInt32.ofNat k : UInt32) + (1 : UInt32) : UInt32)))), (16, Pr.ex (w32 (((s.rounds k).a : UInt32) + ((2654435769 : UInt32) * ((UInt32.ofNat k : UInt32) + (1 : UInt32) : UInt32) : UInt32)))), (17, Pr.ex (Value.pointer (some ⟨b1, 0, none⟩)))] 7 hN_5 hD_5 (by kernel_rfl) (by kernel_rfl) ?_ ?_
 refine Asks.cons ?_ (Asks.cons ?_ (Asks.cons ?_ (Asks.cons ?_ (Asks.cons ?_ (Asks.cons ?_ (Asks.cons ?_ (Asks.zero _)))))))
 exact Ask.plain rfl rfl fun aq wq hNq hO hR hT => does_indexArr (k := .i64) (i := 0) (o' := 0) arr_83 ((hO 1 rfl).trans s1_5) rfl (by decide) (by decide) rfl ⟨Ext.refl _, rfl⟩
 exact Ask.plain rfl rfl fun aq wq hNq hO hR hT => does_loadD1 (o := 0) (V := w32 ((s.rounds k).a)) (hT 11 rfl rfl) (hbb1_5.ext' hR) rfl one_22 ⟨Ext.refl _, rfl⟩
 exact Ask.plain rfl rfl fun aq wq hNq hO hR hT => does_move (V := w32 (UInt32.ofNat k)) ((hO 3 rfl).trans s3_5) ⟨Ext.refl _, rfl⟩
 exact Ask.plain rfl rfl fun aq wq hNq hO hR hT => does_add32 (a := (UInt32.ofNat k : UInt32)) (b := (1 : UInt32)) (hT 13 rfl rfl) rfl ⟨Ext.refl _, rfl⟩
 exact Ask.plain rfl rfl fun aq wq hNq hO hR hT => does_mul32 (a := (2654435769 : UInt32)) (b := ((UInt32.ofNat k : UInt32) + (1 : UInt32) : UInt32)) rfl (hT 14 rfl rfl) ⟨Ext.refl _, rfl⟩
 exact Ask.plain rfl rfl fun aq wq hNq hO hR hT => does_add32 (a := ((s.rounds k).a : UInt32)) (b := ((2654435769 : UInt32) * ((UInt32.ofNat k : UInt32) + (1 : UInt32) : UInt32) : UInt32)) (hT 12 rfl rfl) (hT 15 rfl rfl) ⟨Ext.refl _, rfl⟩
 exact Ask.plain rfl rfl fun aq wq hNq hO hR hT => does_indexArr (k := .i64) (i := 0) (o' := 0) arr_83 ((hO 1 rfl).trans s1_5) rfl (by decide) (by decide) rfl ⟨Ext.refl _, rfl⟩
 intro a6 wd6 hN_6 hD_6 hO hR hA hU
 obtain ⟨_, _, _, _, _, t16, t17, _⟩ := hA
 have hE_6 := hE_5.trans hR
 have s1_6 := (hO 1 rfl).trans s1_5
 have s2_6 := (hO 2 rfl).trans s2_5
 have s8_6 := (hO 8 rfl).trans s8_5
 have hbb1_6 := hbb1_5.ext' hR
 have hbb2_6 := hbb2_5.ext' hR
 have s16_6 : get a6 16 = w32 (((s.rounds k).a : UInt32) + ((2654435769 : UInt32) * ((UInt32.ofNat k : UInt32) + (1 : UInt32) : UInt32) : UInt32)) := t16
 have s17_6 : get a6 17 = Value.pointer (some ⟨b1, 0, none⟩) := t17
 clear hE_5 hN_5 hD_5 s1_5 s2_5 s3_5 s8_5 hbb1_5 hbb2_5
 refine tail_none rfl rfl (does_storeD (o := 0) (n := 1) (cs' := [w32 (((s.rounds k).a : UInt32) + ((2654435769 : UInt32) * ((UInt32.ofNat k : UInt32) + (1 : UInt32) : UInt32) : UInt32)), w32 ((s.rounds k).b), w32 ((s.rounds k).c), w32 ((s.rounds k).d), w32 ((s.rounds k).e), w32 ((s.rounds k).f), w32 ((s.rounds k).g), w32 ((s.rounds k).h)]) (V := w32 (((s.rounds k).a : UInt32) + ((2654435769 : UInt32) * ((UInt32.ofNat k : UInt32) + (1 : UInt32) : UInt32) : UInt32))) s17_6 s16_6 hbb1_6 (Nat.le_of_ble_eq_true rfl) rfl siz_22 rfl rfl (fun wd7 hX hz hbb1_7 => ?_))
 have hE_7 := hE_6.since hX (fun k e => e ▸ fr_b1)
 have hbb2_7 := hbb2_6.ext hX ne_b1_b2.symm
 clear hX hz hE_6 hbb1_6 hbb2_6
 obtain ⟨v8, hv8⟩ : ∃ v : UInt32, ((s.rounds k).a : UInt32) + ((2654435769 : UInt32) * ((UInt32.ofNat k : UInt32) + (1 : UInt32) : UInt32) : UInt32) = v := ⟨_, rfl⟩
 rw [hv8] at hbb1_7
 refine tail_nil ?_
 refine wp_seq ?_
 refine wp_seq ?_
 refine region_lex [] [(18, Pr.ex (Value.agg #[i64 ((7 : Nat) : Int), i64 ((9 : Nat) : Int), i64 ((13 : Nat) : Int), i64 ((18 : Nat) : Int)])), (19, Pr.ex (i64 ((0 : Nat) : Int)))] 2 hN_6 hD_6 (by kernel_rfl) (by kernel_rfl) ?_ ?_
 refine Asks.cons ?_ (Asks.cons ?_ (Asks.zero _))
 exact Ask.plain rfl rfl fun aq wq hNq hO hR hT => does_loadP (lo := 0) (hi := 0) (cs := [i64 ((7 : Nat) : Int), i64 ((9 : Nat) : Int), i64 ((13 : Nat) : Int), i64 ((18 : Nat) : Int)]) ⟨0, 0, rfl, Nat.zero_le _, .inl rfl, (hL.ext (hE_7.trans hR))⟩ row_104 rfl ⟨Ext.refl _, rfl⟩
 exact Ask.plain rfl rfl fun aq wq hNq hO hR hT => does_move (V := i64 ((0 : Nat) : Int)) rfl ⟨Ext.refl _, rfl⟩
 intro a9 wd9 hN_9 hD_9 hO hR hA hU
 obtain ⟨t18, t19, _⟩ := hA
 have hE_9 := hE_7.trans hR
 have s1_9 := (hO 1 rfl).trans s1_6
 have s2_9 := (hO 2 rfl).trans s2_6
 have s8_9 := (hO 8 rfl).trans s8_6
 have hbb1_9 := hbb1_7.ext' hR
 have hbb2_9 := hbb2_7.ext' hR
 have s18_9 : get a9 18 = Value.agg #[i64 ((7 : Nat) : Int), i64 ((9 : Nat) : Int), i64 ((13 : Nat) : Int), i64 ((18 : Nat) : Int)] := t18
 have s19_9 : get a9 19 = i64 ((0 : Nat) : Int) := t19
 clear hE_7 hN_6 hD_6 s1_6 s2_6 s8_6 s16_6 s17_6 hbb1_7 hbb2_7
 refine tail_nil ?_
 refine wp_block ?_
 refine loop_rounds 5 ?_
 refine round_step ?_
 refine wp_seq ?_
 refine region_lex [] [(20, Pr.ex (Value.bool (true)))] 1 hN_9 hD_9 (by kernel_rfl) (by kernel_rfl) ?_ ?_
 refine Asks.cons ?_ (Asks.zero _)
 exact Ask.plain rfl rfl fun aq wq hNq hO hR hT => does_lss (a := ((0 : Nat) : Int)) (b := ((4 : Nat) : Int)) ((hO 19 rfl).trans s19_9) rfl ⟨Ext.refl _, rfl⟩
 intro a10 wd10 hN_10 hD_10 hO hR hA hU
 obtain ⟨t20, _⟩ := hA
 have hE_10 := hE_9.trans hR
 have s1_10 := (hO 1 rfl).trans s1_9
 have s2_10 := (hO 2 rfl).trans s2_9
 have s8_10 := (hO 8 rfl).trans s8_9
 have s18_10 := (hO 18 rfl).trans s18_9
 have s19_10 := (hO 19 rfl).trans s19_9
 have hbb1_10 := hbb1_9.ext' hR
 have hbb2_10 := hbb2_9.ext' hR
 have s20_10 : get a10 20 = Value.bool (true) := t20
 clear hE_9 hN_9 hD_9 s1_9 s2_9 s8_9 s18_9 s19_9 hbb1_9 hbb2_9
 refine tail_nil ?_
 refine wp_seq ?_
 refine wp_ifT s20_10 ?_
 refine wp_skip ?_
 refine wp_seq ?_
 refine wp_block ?_
 refine wp_seq ?_
 refine region_lex [] [(21, Pr.ex (i64 ((0 : Nat) : Int))), (22, Pr.ex (i64 ((7 : Nat) : Int))), (4, Pr.ex (i64 ((0 : Nat) : Int))), (5, Pr.ex (i64 ((7 : Nat) : Int)))] 4 hN_10 hD_10 (by kernel_rfl) (by kernel_rfl) ?_ ?_
 refine Asks.cons ?_ (Asks.cons ?_ (Asks.cons ?_ (Asks.cons ?_ (Asks.zero _))))
 exact Ask.plain rfl rfl fun aq wq hNq hO hR hT => does_move (V := i64 ((0 : Nat) : Int)) ((hO 19 rfl).trans s19_10) ⟨Ext.refl _, rfl⟩
 exact Ask.plain rfl rfl fun aq wq hNq hO hR hT => does_indexArrV (cs := [i64 ((7 : Nat) : Int), i64 ((9 : Nat) : Int), i64 ((13 : Nat) : Int), i64 ((18 : Nat) : Int)]) (k := .i64) (i := 0) (V := i64 ((7 : Nat) : Int)) arr_104 one_3 ((hO 18 rfl).trans s18_10) ((hO 19 rfl).trans s19_10) (by decide) (by decide) rfl ⟨Ext.refl _, rfl⟩
 exact Ask.plain rfl rfl fun aq wq hNq hO hR hT => does_assign (V := i64 ((0 : Nat) : Int)) (hT 21 rfl rfl) ⟨Ext.refl _, rfl⟩
 exact Ask.plain rfl rfl fun aq wq hNq hO hR hT => does_assign (V := i64 ((7 : Nat) : Int)) (hT 22 rfl rfl) ⟨Ext.refl _, rfl⟩
 intro a11 wd11 hN_11 hD_11 hO hR hA hU
 obtain ⟨_, _, t4, t5, _⟩ := hA
 have hE_11 := hE_10.trans hR
 have s1_11 := (hO 1 rfl).trans s1_10
 have s2_11 := (hO 2 rfl).trans s2_10
 have s8_11 := (hO 8 rfl).trans s8_10
 have s18_11 := (hO 18 rfl).trans s18_10
 have s19_11 := (hO 19 rfl).trans s19_10
 have hbb1_11 := hbb1_10.ext' hR
 have hbb2_11 := hbb2_10.ext' hR
 have s4_11 : get a11 4 = i64 ((0 : Nat) : Int) := t4
 have s5_11 : get a11 5 = i64 ((7 : Nat) : Int) := t5
 clear hE_10 hN_10 hD_10 s1_10 s2_10 s8_10 s18_10 s19_10 s20_10 hbb1_10 hbb2_10
 refine tail_nil ?_
 refine wp_seq ?_
 refine region_any [] [(23, Pr.ex (i64 ((0 : Nat) : Int))), (24, Pr.ex (Value.pointer (some ⟨b1, 0, none⟩))), (25, Pr.ex (w32 (v8))), (26, Pr.ex (i64 ((0 : Nat) : Int))), (27, Pr.ex (i64 ((4 : Nat) : Int))), (28, Pr.ex (Value.pointer (some ⟨b1, 4, none⟩))), (29, Pr.ex (w32 ((s.rounds k).e))), (30, Pr.ex (w32 ((v8 : UInt32) + ((s.rounds k).e : UInt32)))), (31, Pr.ex (Value.pointer (some ⟨b1, 0, none⟩)))] 9 mixed hN_11 hD_11 (by kernel_rfl) (by kernel_rfl) (by kernel_rfl) ?_ ?_
 refine Asks.cons ?_ (Asks.cons ?_ (Asks.cons ?_ (Asks.cons ?_ (Asks.cons ?_ (Asks.cons ?_ (Asks.cons ?_ (Asks.cons ?_ (Asks.cons ?_ (Asks.zero _)))))))))
 exact Ask.plainD rfl rfl fun aq wq hNq hO hR hT => does_move (V := i64 ((0 : Nat) : Int)) ((hO 4 rfl).trans s4_11) ⟨Ext.refl _, rfl⟩
 exact Ask.plainD rfl rfl fun aq wq hNq hO hR hT => does_indexArr (k := .i64) (i := 0) (o' := 0) arr_83 ((hO 1 rfl).trans s1_11) (hT 23 rfl rfl) (by decide) (by decide) rfl ⟨Ext.refl _, rfl⟩
 exact Ask.plainD rfl rfl fun aq wq hNq hO hR hT => does_loadD1 (o := 0) (V := w32 (v8)) (hT 24 rfl rfl) (hbb1_11.ext' hR) rfl one_22 ⟨Ext.refl _, rfl⟩
 exact Ask.plainD rfl rfl fun aq wq hNq hO hR hT => does_move (V := i64 ((0 : Nat) : Int)) ((hO 4 rfl).trans s4_11) ⟨Ext.refl _, rfl⟩
 exact Ask.plainD rfl rfl fun aq wq hNq hO hR hT => does_add (a := ((0 : Nat) : Int)) (b := ((4 : Nat) : Int)) (r := ((4 : Nat) : Int)) (hT 26 rfl rfl) rfl (by decide) (by decide) (by decide) ⟨Ext.refl _, rfl⟩
 exact Ask.plainD rfl rfl fun aq wq hNq hO hR hT => does_indexArr (k := .i64) (i := 4) (o' := 4) arr_83 ((hO 1 rfl).trans s1_11) (hT 27 rfl rfl) (by decide) (by decide) rfl ⟨Ext.refl _, rfl⟩
 exact Ask.plainD rfl rfl fun aq wq hNq hO hR hT => does_loadD1 (o := 4) (V := w32 ((s.rounds k).e)) (hT 28 rfl rfl) (hbb1_11.ext' hR) rfl one_22 ⟨Ext.refl _, rfl⟩
 exact Ask.plainD rfl rfl fun aq wq hNq hO hR hT => does_add32 (a := (v8 : UInt32)) (b := ((s.rounds k).e : UInt32)) (hT 25 rfl rfl) (hT 29 rfl rfl) ⟨Ext.refl _, rfl⟩
 exact Ask.plainD rfl rfl fun aq wq hNq hO hR hT => does_indexArr (k := .i64) (i := 0) (o' := 0) arr_83 ((hO 1 rfl).trans s1_11) (hT 23 rfl rfl) (by decide) (by decide) rfl ⟨Ext.refl _, rfl⟩
 intro a12 wd12 hN_12 hD_12 hO hR hA hU
 obtain ⟨_, _, _, _, _, _, _, t30, t31, _⟩ := hA
 have hE_12 := hE_11.trans hR
 have s1_12 := (hO 1 rfl).trans s1_11
 have s2_12 := (hO 2 rfl).trans s2_11
 have s4_12 := (hO 4 rfl).trans s4_11
 have s5_12 := (hO 5 rfl).trans s5_11
 have s8_12 := (hO 8 rfl).trans s8_11
 have s18_12 := (hO 18 rfl).trans s18_11
 have s19_12 := (hO 19 rfl).trans s19_11
 have hbb1_12 := hbb1_11.ext' hR
 have hbb2_12 := hbb2_11.ext' hR
 have s30_12 : get a12 30 = w32 ((v8 : UInt32) + ((s.rounds k).e : UInt32)) := t30
 have s31_12 : get a12 31 = Value.pointer (some ⟨b1, 0, none⟩) := t31
 clear hE_11 hN_11 hD_11 s1_11 s2_11 s4_11 s5_11 s8_11 s18_11 s19_11 hbb1_11 hbb2_11
 refine tail_none rfl rfl (does_storeD (o := 0) (n := 1) (cs' := [w32 ((v8 : UInt32) + ((s.rounds k).e : UInt32)), w32 ((s.rounds k).b), w32 ((s.rounds k).c), w32 ((s.rounds k).d), w32 ((s.rounds k).e), w32 ((s.rounds k).f), w32 ((s.rounds k).g), w32 ((s.rounds k).h)]) (V := w32 ((v8 : UInt32) + ((s.rounds k).e : UInt32))) s31_12 s30_12 hbb1_12 (Nat.le_of_ble_eq_true rfl) rfl siz_22 rfl rfl (fun wd13 hX hz hbb1_13 => ?_))
 have hE_13 := hE_12.since hX (fun k e => e ▸ fr_b1)
 have hbb2_13 := hbb2_12.ext hX ne_b1_b2.symm
 clear hX hz hE_12 hbb1_12 hbb2_12
 obtain ⟨v14, hv14⟩ : ∃ v : UInt32, (v8 : UInt32) + ((s.rounds k).e : UInt32) = v := ⟨_, rfl⟩
 rw [hv14] at hbb1_13
 refine tail_nil ?_
 refine region_any [] [(32, Pr.ex (i64 ((0 : Nat) : Int))), (33, Pr.ex (i64 ((4 : Nat) : Int))), (34, Pr.ex (i64 ((0 : Nat) : Int))), (35, Pr.ex (i64 ((4 : Nat) : Int))), (36, Pr.ex (Value.pointer (some ⟨b1, 4, none⟩))), (37, Pr.ex (w32 ((s.rounds k).e))), (38, Pr.ex (i64 ((0 : Nat) : Int))), (39, Pr.ex (Value.pointer (some ⟨b1, 0, none⟩))), (40, Pr.ex (w32 (v14))), (41, Pr.ex (w32 (((s.rounds k).e : UInt32) ^^^ (v14 : UInt32)))), (42, Pr.ex (i64 ((7 : Nat) : Int))), (43, Pr.ex (w32 (rot (((s.rounds k).e : UInt32) ^^^ (v14 : UInt32)) 7))), (44, Pr.ex (Value.pointer (some ⟨b1, 4, none⟩)))] 13 mixed hN_12 hD_12 (by kernel_rfl) (by kernel_rfl) (by kernel_rfl) ?_ ?_
 refine Asks.cons ?_ (Asks.cons ?_ (Asks.cons ?_ (Asks.cons ?_ (Asks.cons ?_ (Asks.cons ?_ (Asks.cons ?_ (Asks.cons ?_ (Asks.cons ?_ (Asks.cons ?_ (Asks.cons ?_ (Asks.cons ?_ (Asks.cons ?_ (Asks.zero _)))))))))))))
 exact Ask.plainD rfl rfl fun aq wq hNq hO hR hT => does_move (V := i64 ((0 : Nat) : Int)) ((hO 4 rfl).trans s4_12) ⟨Ext.refl _, rfl⟩
 exact Ask.plainD rfl rfl fun aq wq hNq hO hR hT => does_add (a := ((0 : Nat) : Int)) (b := ((4 : Nat) : Int)) (r := ((4 : Nat) : Int)) (hT 32 rfl rfl) rfl (by decide) (by decide) (by decide) ⟨Ext.refl _, rfl⟩
 exact Ask.plainD rfl rfl fun aq wq hNq hO hR hT => does_move (V := i64 ((0 : Nat) : Int)) ((hO 4 rfl).trans s4_12) ⟨Ext.refl _, rfl⟩
 exact Ask.plainD rfl rfl fun aq wq hNq hO hR hT => does_add (a := ((0 : Nat) : Int)) (b := ((4 : Nat) : Int)) (r := ((4 : Nat) : Int)) (hT 34 rfl rfl) rfl (by decide) (by decide) (by decide) ⟨Ext.refl _, rfl⟩
 exact Ask.plainD rfl rfl fun aq wq hNq hO hR hT => does_indexArr (k := .i64) (i := 4) (o' := 4) arr_83 ((hO 1 rfl).trans s1_12) (hT 35 rfl rfl) (by decide) (by decide) rfl ⟨Ext.refl _, rfl⟩
 exact Ask.plainD rfl rfl fun aq wq hNq hO hR hT => does_loadD1 (o := 4) (V := w32 ((s.rounds k).e)) (hT 36 rfl rfl) (hbb1_13.ext' hR) rfl one_22 ⟨Ext.refl _, rfl⟩
 exact Ask.plainD rfl rfl fun aq wq hNq hO hR hT => does_move (V := i64 ((0 : Nat) : Int)) ((hO 4 rfl).trans s4_12) ⟨Ext.refl _, rfl⟩
 exact Ask.plainD rfl rfl fun aq wq hNq hO hR hT => does_indexArr (k := .i64) (i := 0) (o' := 0) arr_83 ((hO 1 rfl).trans s1_12) (hT 38 rfl rfl) (by decide) (by decide) rfl ⟨Ext.refl _, rfl⟩
 exact Ask.plainD rfl rfl fun aq wq hNq hO hR hT => does_loadD1 (o := 0) (V := w32 (v14)) (hT 39 rfl rfl) (hbb1_13.ext' hR) rfl one_22 ⟨Ext.refl _, rfl⟩
 exact Ask.plainD rfl rfl fun aq wq hNq hO hR hT => does_xor32 (a := ((s.rounds k).e : UInt32)) (b := (v14 : UInt32)) (hT 37 rfl rfl) (hT 40 rfl rfl) ⟨Ext.refl _, rfl⟩
 exact Ask.plainD rfl rfl fun aq wq hNq hO hR hT => does_move (V := i64 ((7 : Nat) : Int)) ((hO 5 rfl).trans s5_12) ⟨Ext.refl _, rfl⟩
 exact Ask.plainD rfl rfl fun aq wq hNq hO hR hT => does_ret (vs := #[w32 (((s.rounds k).e : UInt32) ^^^ (v14 : UInt32)), i64 ((7 : Nat) : Int)]) call_81 (args2 (hT 41 rfl rfl) (hT 42 rfl rfl)) rfl ((turn (((s.rounds k).e : UInt32) ^^^ (v14 : UInt32)) (7) wq (by decide)).mono fun v w2 h => ⟨h.2, h.1⟩)
 exact Ask.plainD rfl rfl fun aq wq hNq hO hR hT => does_indexArr (k := .i64) (i := 4) (o' := 4) arr_83 ((hO 1 rfl).trans s1_12) (hT 33 rfl rfl) (by decide) (by decide) rfl ⟨Ext.refl _, rfl⟩
 intro a15 wd15 hN_15 hD_15 hO hR hA hU
 obtain ⟨_, _, _, _, _, _, _, _, _, _, _, t43, t44, _⟩ := hA
 have hE_15 := hE_13.trans hR
 have s1_15 := (hO 1 rfl).trans s1_12
 have s2_15 := (hO 2 rfl).trans s2_12
 have s8_15 := (hO 8 rfl).trans s8_12
 have s18_15 := (hO 18 rfl).trans s18_12
 have s19_15 := (hO 19 rfl).trans s19_12
 have hbb1_15 := hbb1_13.ext' hR
 have hbb2_15 := hbb2_13.ext' hR
 have s43_15 : get a15 43 = w32 (rot (((s.rounds k).e : UInt32) ^^^ (v14 : UInt32)) 7) := t43
 have s44_15 : get a15 44 = Value.pointer (some ⟨b1, 4, none⟩) := t44
 clear hE_13 hN_12 hD_12 s1_12 s2_12 s4_12 s5_12 s8_12 s18_12 s19_12 s30_12 s31_12 hbb1_13 hbb2_13
 refine tail_none rfl rfl (does_storeD (o := 4) (n := 1) (cs' := [w32 (v14), w32 ((s.rounds k).b), w32 ((s.rounds k).c), w32 ((s.rounds k).d), w32 (rot (((s.rounds k).e : UInt32) ^^^ (v14 : UInt32)) 7), w32 ((s.rounds k).f), w32 ((s.rounds k).g), w32 ((s.rounds k).h)]) (V := w32 (rot (((s.rounds k).e : UInt32) ^^^ (v14 : UInt32)) 7)) s44_15 s43_15 hbb1_15 (Nat.le_of_ble_eq_true rfl) rfl siz_22 rfl rfl (fun wd16 hX hz hbb1_16 => ?_))
 have hE_16 := hE_15.since hX (fun k e => e ▸ fr_b1)
 have hbb2_16 := hbb2_15.ext hX ne_b1_b2.symm
 clear hX hz hE_15 hbb1_15 hbb2_15
 obtain ⟨v17, hv17⟩ : ∃ v : UInt32, rot (((s.rounds k).e : UInt32) ^^^ (v14 : UInt32)) 7 = v := ⟨_, rfl⟩
 rw [hv17] at hbb1_16
 refine tail_nil ?_
 refine region_lex [] [(45, Pr.ex (i64 ((1 : Nat) : Int)))] 1 hN_15 hD_15 (by kernel_rfl) (by kernel_rfl) ?_ ?_
 refine Asks.cons ?_ (Asks.zero _)
 exact Ask.plain rfl rfl fun aq wq hNq hO hR hT => does_add (a := ((0 : Nat) : Int)) (b := ((1 : Nat) : Int)) (r := ((1 : Nat) : Int)) ((hO 19 rfl).trans s19_15) rfl (by decide) (by decide) (by decide) ⟨Ext.refl _, rfl⟩
 intro a18 wd18 hN_18 hD_18 hO hR hA hU
 obtain ⟨t45, _⟩ := hA
 have hE_18 := hE_16.trans hR
 have s1_18 := (hO 1 rfl).trans s1_15
 have s2_18 := (hO 2 rfl).trans s2_15
 have s8_18 := (hO 8 rfl).trans s8_15
 have s18_18 := (hO 18 rfl).trans s18_15
 have s19_18 := (hO 19 rfl).trans s19_15
 have hbb1_18 := hbb1_16.ext' hR
 have hbb2_18 := hbb2_16.ext' hR
 have s45_18 : get a18 45 = i64 ((1 : Nat) : Int) := t45
 clear hE_16 hN_15 hD_15 s1_15 s2_15 s8_15 s18_15 s19_15 s43_15 s44_15 hbb1_16 hbb2_16
 refine tail_put rfl rfl hN_18 hD_18 (by decide) (does_move (V := i64 ((1 : Nat) : Int)) s45_18 (fun a19 hN_19 hD_19 hv hO => ?_))
 have s19_19 := hv
 have s1_19 := (hO 1 rfl).trans s1_18
 have s2_19 := (hO 2 rfl).trans s2_18
 have s8_19 := (hO 8 rfl).trans s8_18
 have s18_19 := (hO 18 rfl).trans s18_18
 clear hO hv hN_18 hD_18 s1_18 s2_18 s8_18 s18_18 s45_18 s19_18
 refine tail_nil ?_
 refine round_step ?_
 refine wp_seq ?_
 refine region_lex [] [(20, Pr.ex (Value.bool (true)))] 1 hN_19 hD_19 (by kernel_rfl) (by kernel_rfl) ?_ ?_
 refine Asks.cons ?_ (Asks.zero _)
 exact Ask.plain rfl rfl fun aq wq hNq hO hR hT => does_lss (a := ((1 : Nat) : Int)) (b := ((4 : Nat) : Int)) ((hO 19 rfl).trans s19_19) rfl ⟨Ext.refl _, rfl⟩
 intro a20 wd20 hN_20 hD_20 hO hR hA hU
 obtain ⟨t20, _⟩ := hA
 have hE_20 := hE_18.trans hR
 have s1_20 := (hO 1 rfl).trans s1_19
 have s2_20 := (hO 2 rfl).trans s2_19
 have s8_20 := (hO 8 rfl).trans s8_19
 have s18_20 := (hO 18 rfl).trans s18_19
 have s19_20 := (hO 19 rfl).trans s19_19
 have hbb1_20 := hbb1_18.ext' hR
 have hbb2_20 := hbb2_18.ext' hR
 have s20_20 : get a20 20 = Value.bool (true) := t20
 clear hE_18 hN_19 hD_19 s1_19 s2_19 s8_19 s18_19 s19_19 hbb1_18 hbb2_18
 refine tail_nil ?_
 refine wp_seq ?_
 refine wp_ifT s20_20 ?_
 refine wp_skip ?_
 refine wp_seq ?_
 refine wp_block ?_
 refine wp_seq ?_
 refine region_lex [] [(21, Pr.ex (i64 ((1 : Nat) : Int))), (22, Pr.ex (i64 ((9 : Nat) : Int))), (4, Pr.ex (i64 ((1 : Nat) : Int))), (5, Pr.ex (i64 ((9 : Nat) : Int)))] 4 hN_20 hD_20 (by kernel_rfl) (by kernel_rfl) ?_ ?_
 refine Asks.cons ?_ (Asks.cons ?_ (Asks.cons ?_ (Asks.cons ?_ (Asks.zero _))))
 exact Ask.plain rfl rfl fun aq wq hNq hO hR hT => does_move (V := i64 ((1 : Nat) : Int)) ((hO 19 rfl).trans s19_20) ⟨Ext.refl _, rfl⟩
 exact Ask.plain rfl rfl fun aq wq hNq hO hR hT => does_indexArrV (cs := [i64 ((7 : Nat) : Int), i64 ((9 : Nat) : Int), i64 ((13 : Nat) : Int), i64 ((18 : Nat) : Int)]) (k := .i64) (i := 1) (V := i64 ((9 : Nat) : Int)) arr_104 one_3 ((hO 18 rfl).trans s18_20) ((hO 19 rfl).trans s19_20) (by decide) (by decide) rfl ⟨Ext.refl _, rfl⟩
 exact Ask.plain rfl rfl fun aq wq hNq hO hR hT => does_assign (V := i64 ((1 : Nat) : Int)) (hT 21 rfl rfl) ⟨Ext.refl _, rfl⟩
 exact Ask.plain rfl rfl fun aq wq hNq hO hR hT => does_assign (V := i64 ((9 : Nat) : Int)) (hT 22 rfl rfl) ⟨Ext.refl _, rfl⟩
 intro a21 wd21 hN_21 hD_21 hO hR hA hU
 obtain ⟨_, _, t4, t5, _⟩ := hA
 have hE_21 := hE_20.trans hR
 have s1_21 := (hO 1 rfl).trans s1_20
 have s2_21 := (hO 2 rfl).trans s2_20
 have s8_21 := (hO 8 rfl).trans s8_20
 have s18_21 := (hO 18 rfl).trans s18_20
 have s19_21 := (hO 19 rfl).trans s19_20
 have hbb1_21 := hbb1_20.ext' hR
 have hbb2_21 := hbb2_20.ext' hR
 have s4_21 : get a21 4 = i64 ((1 : Nat) : Int) := t4
 have s5_21 : get a21 5 = i64 ((9 : Nat) : Int) := t5
 clear hE_20 hN_20 hD_20 s1_20 s2_20 s8_20 s18_20 s19_20 s20_20 hbb1_20 hbb2_20
 refine tail_nil ?_
 refine wp_seq ?_
 refine region_any [] [(23, Pr.ex (i64 ((1 : Nat) : Int))), (24, Pr.ex (Value.pointer (some ⟨b1, 1, none⟩))), (25, Pr.ex (w32 ((s.rounds k).b))), (26, Pr.ex (i64 ((1 : Nat) : Int))), (27, Pr.ex (i64 ((5 : Nat) : Int))), (28, Pr.ex (Value.pointer (some ⟨b1, 5, none⟩))), (29, Pr.ex (w32 ((s.rounds k).f))), (30, Pr.ex (w32 (((s.rounds k).b : UInt32) + ((s.rounds k).f : UInt32)))), (31, Pr.ex (Value.pointer (some ⟨b1, 1, none⟩)))] 9 mixed hN_21 hD_21 (by kernel_rfl) (by kernel_rfl) (by kernel_rfl) ?_ ?_
 refine Asks.cons ?_ (Asks.cons ?_ (Asks.cons ?_ (Asks.cons ?_ (Asks.cons ?_ (Asks.cons ?_ (Asks.cons ?_ (Asks.cons ?_ (Asks.cons ?_ (Asks.zero _)))))))))
 exact Ask.plainD rfl rfl fun aq wq hNq hO hR hT => does_move (V := i64 ((1 : Nat) : Int)) ((hO 4 rfl).trans s4_21) ⟨Ext.refl _, rfl⟩
 exact Ask.plainD rfl rfl fun aq wq hNq hO hR hT => does_indexArr (k := .i64) (i := 1) (o' := 1) arr_83 ((hO 1 rfl).trans s1_21) (hT 23 rfl rfl) (by decide) (by decide) rfl ⟨Ext.refl _, rfl⟩
 exact Ask.plainD rfl rfl fun aq wq hNq hO hR hT => does_loadD1 (o := 1) (V := w32 ((s.rounds k).b)) (hT 24 rfl rfl) (hbb1_21.ext' hR) rfl one_22 ⟨Ext.refl _, rfl⟩
 exact Ask.plainD rfl rfl fun aq wq hNq hO hR hT => does_move (V := i64 ((1 : Nat) : Int)) ((hO 4 rfl).trans s4_21) ⟨Ext.refl _, rfl⟩
 exact Ask.plainD rfl rfl fun aq wq hNq hO hR hT => does_add (a := ((1 : Nat) : Int)) (b := ((4 : Nat) : Int)) (r := ((5 : Nat) : Int)) (hT 26 rfl rfl) rfl (by decide) (by decide) (by decide) ⟨Ext.refl _, rfl⟩
 exact Ask.plainD rfl rfl fun aq wq hNq hO hR hT => does_indexArr (k := .i64) (i := 5) (o' := 5) arr_83 ((hO 1 rfl).trans s1_21) (hT 27 rfl rfl) (by decide) (by decide) rfl ⟨Ext.refl _, rfl⟩
 exact Ask.plainD rfl rfl fun aq wq hNq hO hR hT => does_loadD1 (o := 5) (V := w32 ((s.rounds k).f)) (hT 28 rfl rfl) (hbb1_21.ext' hR) rfl one_22 ⟨Ext.refl _, rfl⟩
 exact Ask.plainD rfl rfl fun aq wq hNq hO hR hT => does_add32 (a := ((s.rounds k).b : UInt32)) (b := ((s.rounds k).f : UInt32)) (hT 25 rfl rfl) (hT 29 rfl rfl) ⟨Ext.refl _, rfl⟩
 exact Ask.plainD rfl rfl fun aq wq hNq hO hR hT => does_indexArr (k := .i64) (i := 1) (o' := 1) arr_83 ((hO 1 rfl).trans s1_21) (hT 23 rfl rfl) (by decide) (by decide) rfl ⟨Ext.refl _, rfl⟩
 intro a22 wd22 hN_22 hD_22 hO hR hA hU
 obtain ⟨_, _, _, _, _, _, _, t30, t31, _⟩ := hA
 have hE_22 := hE_21.trans hR
 have s1_22 := (hO 1 rfl).trans s1_21
 have s2_22 := (hO 2 rfl).trans s2_21
 have s4_22 := (hO 4 rfl).trans s4_21
 have s5_22 := (hO 5 rfl).trans s5_21
 have s8_22 := (hO 8 rfl).trans s8_21
 have s18_22 := (hO 18 rfl).trans s18_21
 have s19_22 := (hO 19 rfl).trans s19_21
 have hbb1_22 := hbb1_21.ext' hR
 have hbb2_22 := hbb2_21.ext' hR
 have s30_22 : get a22 30 = w32 (((s.rounds k).b : UInt32) + ((s.rounds k).f : UInt32)) := t30
 have s31_22 : get a22 31 = Value.pointer (some ⟨b1, 1, none⟩) := t31
 clear hE_21 hN_21 hD_21 s1_21 s2_21 s4_21 s5_21 s8_21 s18_21 s19_21 hbb1_21 hbb2_21
 refine tail_none rfl rfl (does_storeD (o := 1) (n := 1) (cs' := [w32 (v14), w32 (((s.rounds k).b : UInt32) + ((s.rounds k).f : UInt32)), w32 ((s.rounds k).c), w32 ((s.rounds k).d), w32 (v17), w32 ((s.rounds k).f), w32 ((s.rounds k).g), w32 ((s.rounds k).h)]) (V := w32 (((s.rounds k).b : UInt32) + ((s.rounds k).f : UInt32))) s31_22 s30_22 hbb1_22 (Nat.le_of_ble_eq_true rfl) rfl siz_22 rfl rfl (fun wd23 hX hz hbb1_23 => ?_))
 have hE_23 := hE_22.since hX (fun k e => e ▸ fr_b1)
 have hbb2_23 := hbb2_22.ext hX ne_b1_b2.symm
 clear hX hz hE_22 hbb1_22 hbb2_22
 obtain ⟨v24, hv24⟩ : ∃ v : UInt32, ((s.rounds k).b : UInt32) + ((s.rounds k).f : UInt32) = v := ⟨_, rfl⟩
 rw [hv24] at hbb1_23
 refine tail_nil ?_
 refine region_any [] [(32, Pr.ex (i64 ((1 : Nat) : Int))), (33, Pr.ex (i64 ((5 : Nat) : Int))), (34, Pr.ex (i64 ((1 : Nat) : Int))), (35, Pr.ex (i64 ((5 : Nat) : Int))), (36, Pr.ex (Value.pointer (some ⟨b1, 5, none⟩))), (37, Pr.ex (w32 ((s.rounds k).f))), (38, Pr.ex (i64 ((1 : Nat) : Int))), (39, Pr.ex (Value.pointer (some ⟨b1, 1, none⟩))), (40, Pr.ex (w32 (v24))), (41, Pr.ex (w32 (((s.rounds k).f : UInt32) ^^^ (v24 : UInt32)))), (42, Pr.ex (i64 ((9 : Nat) : Int))), (43, Pr.ex (w32 (rot (((s.rounds k).f : UInt32) ^^^ (v24 : UInt32)) 9))), (44, Pr.ex (Value.pointer (some ⟨b1, 5, none⟩)))] 13 mixed hN_22 hD_22 (by kernel_rfl) (by kernel_rfl) (by kernel_rfl) ?_ ?_
 refine Asks.cons ?_ (Asks.cons ?_ (Asks.cons ?_ (Asks.cons ?_ (Asks.cons ?_ (Asks.cons ?_ (Asks.cons ?_ (Asks.cons ?_ (Asks.cons ?_ (Asks.cons ?_ (Asks.cons ?_ (Asks.cons ?_ (Asks.cons ?_ (Asks.zero _)))))))))))))
 exact Ask.plainD rfl rfl fun aq wq hNq hO hR hT => does_move (V := i64 ((1 : Nat) : Int)) ((hO 4 rfl).trans s4_22) ⟨Ext.refl _, rfl⟩
 exact Ask.plainD rfl rfl fun aq wq hNq hO hR hT => does_add (a := ((1 : Nat) : Int)) (b := ((4 : Nat) : Int)) (r := ((5 : Nat) : Int)) (hT 32 rfl rfl) rfl (by decide) (by decide) (by decide) ⟨Ext.refl _, rfl⟩
 exact Ask.plainD rfl rfl fun aq wq hNq hO hR hT => does_move (V := i64 ((1 : Nat) : Int)) ((hO 4 rfl).trans s4_22) ⟨Ext.refl _, rfl⟩
 exact Ask.plainD rfl rfl fun aq wq hNq hO hR hT => does_add (a := ((1 : Nat) : Int)) (b := ((4 : Nat) : Int)) (r := ((5 : Nat) : Int)) (hT 34 rfl rfl) rfl (by decide) (by decide) (by decide) ⟨Ext.refl _, rfl⟩
 exact Ask.plainD rfl rfl fun aq wq hNq hO hR hT => does_indexArr (k := .i64) (i := 5) (o' := 5) arr_83 ((hO 1 rfl).trans s1_22) (hT 35 rfl rfl) (by decide) (by decide) rfl ⟨Ext.refl _, rfl⟩
 exact Ask.plainD rfl rfl fun aq wq hNq hO hR hT => does_loadD1 (o := 5) (V := w32 ((s.rounds k).f)) (hT 36 rfl rfl) (hbb1_23.ext' hR) rfl one_22 ⟨Ext.refl _, rfl⟩
 exact Ask.plainD rfl rfl fun aq wq hNq hO hR hT => does_move (V := i64 ((1 : Nat) : Int)) ((hO 4 rfl).trans s4_22) ⟨Ext.refl _, rfl⟩
 exact Ask.plainD rfl rfl fun aq wq hNq hO hR hT => does_indexArr (k := .i64) (i := 1) (o' := 1) arr_83 ((hO 1 rfl).trans s1_22) (hT 38 rfl rfl) (by decide) (by decide) rfl ⟨Ext.refl _, rfl⟩
 exact Ask.plainD rfl rfl fun aq wq hNq hO hR hT => does_loadD1 (o := 1) (V := w32 (v24)) (hT 39 rfl rfl) (hbb1_23.ext' hR) rfl one_22 ⟨Ext.refl _, rfl⟩
 exact Ask.plainD rfl rfl fun aq wq hNq hO hR hT => does_xor32 (a := ((s.rounds k).f : UInt32)) (b := (v24 : UInt32)) (hT 37 rfl rfl) (hT 40 rfl rfl) ⟨Ext.refl _, rfl⟩
 exact Ask.plainD rfl rfl fun aq wq hNq hO hR hT => does_move (V := i64 ((9 : Nat) : Int)) ((hO 5 rfl).trans s5_22) ⟨Ext.refl _, rfl⟩
 exact Ask.plainD rfl rfl fun aq wq hNq hO hR hT => does_ret (vs := #[w32 (((s.rounds k).f : UInt32) ^^^ (v24 : UInt32)), i64 ((9 : Nat) : Int)]) call_81 (args2 (hT 41 rfl rfl) (hT 42 rfl rfl)) rfl ((turn (((s.rounds k).f : UInt32) ^^^ (v24 : UInt32)) (9) wq (by decide)).mono fun v w2 h => ⟨h.2, h.1⟩)
 exact Ask.plainD rfl rfl fun aq wq hNq hO hR hT => does_indexArr (k := .i64) (i := 5) (o' := 5) arr_83 ((hO 1 rfl).trans s1_22) (hT 33 rfl rfl) (by decide) (by decide) rfl ⟨Ext.refl _, rfl⟩
 intro a25 wd25 hN_25 hD_25 hO hR hA hU
 obtain ⟨_, _, _, _, _, _, _, _, _, _, _, t43, t44, _⟩ := hA
 have hE_25 := hE_23.trans hR
 have s1_25 := (hO 1 rfl).trans s1_22
 have s2_25 := (hO 2 rfl).trans s2_22
 have s8_25 := (hO 8 rfl).trans s8_22
 have s18_25 := (hO 18 rfl).trans s18_22
 have s19_25 := (hO 19 rfl).trans s19_22
 have hbb1_25 := hbb1_23.ext' hR
 have hbb2_25 := hbb2_23.ext' hR
 have s43_25 : get a25 43 = w32 (rot (((s.rounds k).f : UInt32) ^^^ (v24 : UInt32)) 9) := t43
 have s44_25 : get a25 44 = Value.pointer (some ⟨b1, 5, none⟩) := t44
 clear hE_23 hN_22 hD_22 s1_22 s2_22 s4_22 s5_22 s8_22 s18_22 s19_22 s30_22 s31_22 hbb1_23 hbb2_23
 refine tail_none rfl rfl (does_storeD (o := 5) (n := 1) (cs' := [w32 (v14), w32 (v24), w32 ((s.rounds k).c), w32 ((s.rounds k).d), w32 (v17), w32 (rot (((s.rounds k).f : UInt32) ^^^ (v24 : UInt32)) 9), w32 ((s.rounds k).g), w32 ((s.rounds k).h)]) (V := w32 (rot (((s.rounds k).f : UInt32) ^^^ (v24 : UInt32)) 9)) s44_25 s43_25 hbb1_25 (Nat.le_of_ble_eq_true rfl) rfl siz_22 rfl rfl (fun wd26 hX hz hbb1_26 => ?_))
 have hE_26 := hE_25.since hX (fun k e => e ▸ fr_b1)
 have hbb2_26 := hbb2_25.ext hX ne_b1_b2.symm
 clear hX hz hE_25 hbb1_25 hbb2_25
 obtain ⟨v27, hv27⟩ : ∃ v : UInt32, rot (((s.rounds k).f : UInt32) ^^^ (v24 : UInt32)) 9 = v := ⟨_, rfl⟩
 rw [hv27] at hbb1_26
 refine tail_nil ?_
 refine region_lex [] [(45, Pr.ex (i64 ((2 : Nat) : Int)))] 1 hN_25 hD_25 (by kernel_rfl) (by kernel_rfl) ?_ ?_
 refine Asks.cons ?_ (Asks.zero _)
 exact Ask.plain rfl rfl fun aq wq hNq hO hR hT => does_add (a := ((1 : Nat) : Int)) (b := ((1 : Nat) : Int)) (r := ((2 : Nat) : Int)) ((hO 19 rfl).trans s19_25) rfl (by decide) (by decide) (by decide) ⟨Ext.refl _, rfl⟩
 intro a28 wd28 hN_28 hD_28 hO hR hA hU
 obtain ⟨t45, _⟩ := hA
 have hE_28 := hE_26.trans hR
 have s1_28 := (hO 1 rfl).trans s1_25
 have s2_28 := (hO 2 rfl).trans s2_25
 have s8_28 := (hO 8 rfl).trans s8_25
 have s18_28 := (hO 18 rfl).trans s18_25
 have s19_28 := (hO 19 rfl).trans s19_25
 have hbb1_28 := hbb1_26.ext' hR
 have hbb2_28 := hbb2_26.ext' hR
 have s45_28 : get a28 45 = i64 ((2 : Nat) : Int) := t45
 clear hE_26 hN_25 hD_25 s1_25 s2_25 s8_25 s18_25 s19_25 s43_25 s44_25 hbb1_26 hbb2_26
 refine tail_put rfl rfl hN_28 hD_28 (by decide) (does_move (V := i64 ((2 : Nat) : Int)) s45_28 (fun a29 hN_29 hD_29 hv hO => ?_))
 have s19_29 := hv
 have s1_29 := (hO 1 rfl).trans s1_28
 have s2_29 := (hO 2 rfl).trans s2_28
 have s8_29 := (hO 8 rfl).trans s8_28
 have s18_29 := (hO 18 rfl).trans s18_28
 clear hO hv hN_28 hD_28 s1_28 s2_28 s8_28 s18_28 s45_28 s19_28
 refine tail_nil ?_
 refine round_step ?_
 refine wp_seq ?_
 refine region_lex [] [(20, Pr.ex (Value.bool (true)))] 1 hN_29 hD_29 (by kernel_rfl) (by kernel_rfl) ?_ ?_
 refine Asks.cons ?_ (Asks.zero _)
 exact Ask.plain rfl rfl fun aq wq hNq hO hR hT => does_lss (a := ((2 : Nat) : Int)) (b := ((4 : Nat) : Int)) ((hO 19 rfl).trans s19_29) rfl ⟨Ext.refl _, rfl⟩
 intro a30 wd30 hN_30 hD_30 hO hR hA hU
 obtain ⟨t20, _⟩ := hA
 have hE_30 := hE_28.trans hR
 have s1_30 := (hO 1 rfl).trans s1_29
 have s2_30 := (hO 2 rfl).trans s2_29
 have s8_30 := (hO 8 rfl).trans s8_29
 have s18_30 := (hO 18 rfl).trans s18_29
 have s19_30 := (hO 19 rfl).trans s19_29
 have hbb1_30 := hbb1_28.ext' hR
 have hbb2_30 := hbb2_28.ext' hR
 have s20_30 : get a30 20 = Value.bool (true) := t20
 clear hE_28 hN_29 hD_29 s1_29 s2_29 s8_29 s18_29 s19_29 hbb1_28 hbb2_28
 refine tail_nil ?_
 refine wp_seq ?_
 refine wp_ifT s20_30 ?_
 refine wp_skip ?_
 refine wp_seq ?_
 refine wp_block ?_
 refine wp_seq ?_
 refine region_lex [] [(21, Pr.ex (i64 ((2 : Nat) : Int))), (22, Pr.ex (i64 ((13 : Nat) : Int))), (4, Pr.ex (i64 ((2 : Nat) : Int))), (5, Pr.ex (i64 ((13 : Nat) : Int)))] 4 hN_30 hD_30 (by kernel_rfl) (by kernel_rfl) ?_ ?_
 refine Asks.cons ?_ (Asks.cons ?_ (Asks.cons ?_ (Asks.cons ?_ (Asks.zero _))))
 exact Ask.plain rfl rfl fun aq wq hNq hO hR hT => does_move (V := i64 ((2 : Nat) : Int)) ((hO 19 rfl).trans s19_30) ⟨Ext.refl _, rfl⟩
 exact Ask.plain rfl rfl fun aq wq hNq hO hR hT => does_indexArrV (cs := [i64 ((7 : Nat) : Int), i64 ((9 : Nat) : Int), i64 ((13 : Nat) : Int), i64 ((18 : Nat) : Int)]) (k := .i64) (i := 2) (V := i64 ((13 : Nat) : Int)) arr_104 one_3 ((hO 18 rfl).trans s18_30) ((hO 19 rfl).trans s19_30) (by decide) (by decide) rfl ⟨Ext.refl _, rfl⟩
 exact Ask.plain rfl rfl fun aq wq hNq hO hR hT => does_assign (V := i64 ((2 : Nat) : Int)) (hT 21 rfl rfl) ⟨Ext.refl _, rfl⟩
 exact Ask.plain rfl rfl fun aq wq hNq hO hR hT => does_assign (V := i64 ((13 : Nat) : Int)) (hT 22 rfl rfl) ⟨Ext.refl _, rfl⟩
 intro a31 wd31 hN_31 hD_31 hO hR hA hU
 obtain ⟨_, _, t4, t5, _⟩ := hA
 have hE_31 := hE_30.trans hR
 have s1_31 := (hO 1 rfl).trans s1_30
 have s2_31 := (hO 2 rfl).trans s2_30
 have s8_31 := (hO 8 rfl).trans s8_30
 have s18_31 := (hO 18 rfl).trans s18_30
 have s19_31 := (hO 19 rfl).trans s19_30
 have hbb1_31 := hbb1_30.ext' hR
 have hbb2_31 := hbb2_30.ext' hR
 have s4_31 : get a31 4 = i64 ((2 : Nat) : Int) := t4
 have s5_31 : get a31 5 = i64 ((13 : Nat) : Int) := t5
 clear hE_30 hN_30 hD_30 s1_30 s2_30 s8_30 s18_30 s19_30 s20_30 hbb1_30 hbb2_30
 refine tail_nil ?_
 refine wp_seq ?_
 refine region_any [] [(23, Pr.ex (i64 ((2 : Nat) : Int))), (24, Pr.ex (Value.pointer (some ⟨b1, 2, none⟩))), (25, Pr.ex (w32 ((s.rounds k).c))), (26, Pr.ex (i64 ((2 : Nat) : Int))), (27, Pr.ex (i64 ((6 : Nat) : Int))), (28, Pr.ex (Value.pointer (some ⟨b1, 6, none⟩))), (29, Pr.ex (w32 ((s.rounds k).g))), (30, Pr.ex (w32 (((s.rounds k).c : UInt32) + ((s.rounds k).g : UInt32)))), (31, Pr.ex (Value.pointer (some ⟨b1, 2, none⟩)))] 9 mixed hN_31 hD_31 (by kernel_rfl) (by kernel_rfl) (by kernel_rfl) ?_ ?_
 refine Asks.cons ?_ (Asks.cons ?_ (Asks.cons ?_ (Asks.cons ?_ (Asks.cons ?_ (Asks.cons ?_ (Asks.cons ?_ (Asks.cons ?_ (Asks.cons ?_ (Asks.zero _)))))))))
 exact Ask.plainD rfl rfl fun aq wq hNq hO hR hT => does_move (V := i64 ((2 : Nat) : Int)) ((hO 4 rfl).trans s4_31) ⟨Ext.refl _, rfl⟩
 exact Ask.plainD rfl rfl fun aq wq hNq hO hR hT => does_indexArr (k := .i64) (i := 2) (o' := 2) arr_83 ((hO 1 rfl).trans s1_31) (hT 23 rfl rfl) (by decide) (by decide) rfl ⟨Ext.refl _, rfl⟩
 exact Ask.plainD rfl rfl fun aq wq hNq hO hR hT => does_loadD1 (o := 2) (V := w32 ((s.rounds k).c)) (hT 24 rfl rfl) (hbb1_31.ext' hR) rfl one_22 ⟨Ext.refl _, rfl⟩
 exact Ask.plainD rfl rfl fun aq wq hNq hO hR hT => does_move (V := i64 ((2 : Nat) : Int)) ((hO 4 rfl).trans s4_31) ⟨Ext.refl _, rfl⟩
 exact Ask.plainD rfl rfl fun aq wq hNq hO hR hT => does_add (a := ((2 : Nat) : Int)) (b := ((4 : Nat) : Int)) (r := ((6 : Nat) : Int)) (hT 26 rfl rfl) rfl (by decide) (by decide) (by decide) ⟨Ext.refl _, rfl⟩
 exact Ask.plainD rfl rfl fun aq wq hNq hO hR hT => does_indexArr (k := .i64) (i := 6) (o' := 6) arr_83 ((hO 1 rfl).trans s1_31) (hT 27 rfl rfl) (by decide) (by decide) rfl ⟨Ext.refl _, rfl⟩
 exact Ask.plainD rfl rfl fun aq wq hNq hO hR hT => does_loadD1 (o := 6) (V := w32 ((s.rounds k).g)) (hT 28 rfl rfl) (hbb1_31.ext' hR) rfl one_22 ⟨Ext.refl _, rfl⟩
 exact Ask.plainD rfl rfl fun aq wq hNq hO hR hT => does_add32 (a := ((s.rounds k).c : UInt32)) (b := ((s.rounds k).g : UInt32)) (hT 25 rfl rfl) (hT 29 rfl rfl) ⟨Ext.refl _, rfl⟩
 exact Ask.plainD rfl rfl fun aq wq hNq hO hR hT => does_indexArr (k := .i64) (i := 2) (o' := 2) arr_83 ((hO 1 rfl).trans s1_31) (hT 23 rfl rfl) (by decide) (by decide) rfl ⟨Ext.refl _, rfl⟩
 intro a32 wd32 hN_32 hD_32 hO hR hA hU
 obtain ⟨_, _, _, _, _, _, _, t30, t31, _⟩ := hA
 have hE_32 := hE_31.trans hR
 have s1_32 := (hO 1 rfl).trans s1_31
 have s2_32 := (hO 2 rfl).trans s2_31
 have s4_32 := (hO 4 rfl).trans s4_31
 have s5_32 := (hO 5 rfl).trans s5_31
 have s8_32 := (hO 8 rfl).trans s8_31
 have s18_32 := (hO 18 rfl).trans s18_31
 have s19_32 := (hO 19 rfl).trans s19_31
 have hbb1_32 := hbb1_31.ext' hR
 have hbb2_32 := hbb2_31.ext' hR
 have s30_32 : get a32 30 = w32 (((s.rounds k).c : UInt32) + ((s.rounds k).g : UInt32)) := t30
 have s31_32 : get a32 31 = Value.pointer (some ⟨b1, 2, none⟩) := t31
 clear hE_31 hN_31 hD_31 s1_31 s2_31 s4_31 s5_31 s8_31 s18_31 s19_31 hbb1_31 hbb2_31
 refine tail_none rfl rfl (does_storeD (o := 2) (n := 1) (cs' := [w32 (v14), w32 (v24), w32 (((s.rounds k).c : UInt32) + ((s.rounds k).g : UInt32)), w32 ((s.rounds k).d), w32 (v17), w32 (v27), w32 ((s.rounds k).g), w32 ((s.rounds k).h)]) (V := w32 (((s.rounds k).c : UInt32) + ((s.rounds k).g : UInt32))) s31_32 s30_32 hbb1_32 (Nat.le_of_ble_eq_true rfl) rfl siz_22 rfl rfl (fun wd33 hX hz hbb1_33 => ?_))
 have hE_33 := hE_32.since hX (fun k e => e ▸ fr_b1)
 have hbb2_33 := hbb2_32.ext hX ne_b1_b2.symm
 clear hX hz hE_32 hbb1_32 hbb2_32
 obtain ⟨v34, hv34⟩ : ∃ v : UInt32, ((s.rounds k).c : UInt32) + ((s.rounds k).g : UInt32) = v := ⟨_, rfl⟩
 rw [hv34] at hbb1_33
 refine tail_nil ?_
 refine region_any [] [(32, Pr.ex (i64 ((2 : Nat) : Int))), (33, Pr.ex (i64 ((6 : Nat) : Int))), (34, Pr.ex (i64 ((2 : Nat) : Int))), (35, Pr.ex (i64 ((6 : Nat) : Int))), (36, Pr.ex (Value.pointer (some ⟨b1, 6, none⟩))), (37, Pr.ex (w32 ((s.rounds k).g))), (38, Pr.ex (i64 ((2 : Nat) : Int))), (39, Pr.ex (Value.pointer (some ⟨b1, 2, none⟩))), (40, Pr.ex (w32 (v34))), (41, Pr.ex (w32 (((s.rounds k).g : UInt32) ^^^ (v34 : UInt32)))), (42, Pr.ex (i64 ((13 : Nat) : Int))), (43, Pr.ex (w32 (rot (((s.rounds k).g : UInt32) ^^^ (v34 : UInt32)) 13))), (44, Pr.ex (Value.pointer (some ⟨b1, 6, none⟩)))] 13 mixed hN_32 hD_32 (by kernel_rfl) (by kernel_rfl) (by kernel_rfl) ?_ ?_
 refine Asks.cons ?_ (Asks.cons ?_ (Asks.cons ?_ (Asks.cons ?_ (Asks.cons ?_ (Asks.cons ?_ (Asks.cons ?_ (Asks.cons ?_ (Asks.cons ?_ (Asks.cons ?_ (Asks.cons ?_ (Asks.cons ?_ (Asks.cons ?_ (Asks.zero _)))))))))))))
 exact Ask.plainD rfl rfl fun aq wq hNq hO hR hT => does_move (V := i64 ((2 : Nat) : Int)) ((hO 4 rfl).trans s4_32) ⟨Ext.refl _, rfl⟩
 exact Ask.plainD rfl rfl fun aq wq hNq hO hR hT => does_add (a := ((2 : Nat) : Int)) (b := ((4 : Nat) : Int)) (r := ((6 : Nat) : Int)) (hT 32 rfl rfl) rfl (by decide) (by decide) (by decide) ⟨Ext.refl _, rfl⟩
 exact Ask.plainD rfl rfl fun aq wq hNq hO hR hT => does_move (V := i64 ((2 : Nat) : Int)) ((hO 4 rfl).trans s4_32) ⟨Ext.refl _, rfl⟩
 exact Ask.plainD rfl rfl fun aq wq hNq hO hR hT => does_add (a := ((2 : Nat) : Int)) (b := ((4 : Nat) : Int)) (r := ((6 : Nat) : Int)) (hT 34 rfl rfl) rfl (by decide) (by decide) (by decide) ⟨Ext.refl _, rfl⟩
 exact Ask.plainD rfl rfl fun aq wq hNq hO hR hT => does_indexArr (k := .i64) (i := 6) (o' := 6) arr_83 ((hO 1 rfl).trans s1_32) (hT 35 rfl rfl) (by decide) (by decide) rfl ⟨Ext.refl _, rfl⟩
 exact Ask.plainD rfl rfl fun aq wq hNq hO hR hT => does_loadD1 (o := 6) (V := w32 ((s.rounds k).g)) (hT 36 rfl rfl) (hbb1_33.ext' hR) rfl one_22 ⟨Ext.refl _, rfl⟩
 exact Ask.plainD rfl rfl fun aq wq hNq hO hR hT => does_move (V := i64 ((2 : Nat) : Int)) ((hO 4 rfl).trans s4_32) ⟨Ext.refl _, rfl⟩
 exact Ask.plainD rfl rfl fun aq wq hNq hO hR hT => does_indexArr (k := .i64) (i := 2) (o' := 2) arr_83 ((hO 1 rfl).trans s1_32) (hT 38 rfl rfl) (by decide) (by decide) rfl ⟨Ext.refl _, rfl⟩
 exact Ask.plainD rfl rfl fun aq wq hNq hO hR hT => does_loadD1 (o := 2) (V := w32 (v34)) (hT 39 rfl rfl) (hbb1_33.ext' hR) rfl one_22 ⟨Ext.refl _, rfl⟩
 exact Ask.plainD rfl rfl fun aq wq hNq hO hR hT => does_xor32 (a := ((s.rounds k).g : UInt32)) (b := (v34 : UInt32)) (hT 37 rfl rfl) (hT 40 rfl rfl) ⟨Ext.refl _, rfl⟩
 exact Ask.plainD rfl rfl fun aq wq hNq hO hR hT => does_move (V := i64 ((13 : Nat) : Int)) ((hO 5 rfl).trans s5_32) ⟨Ext.refl _, rfl⟩
 exact Ask.plainD rfl rfl fun aq wq hNq hO hR hT => does_ret (vs := #[w32 (((s.rounds k).g : UInt32) ^^^ (v34 : UInt32)), i64 ((13 : Nat) : Int)]) call_81 (args2 (hT 41 rfl rfl) (hT 42 rfl rfl)) rfl ((turn (((s.rounds k).g : UInt32) ^^^ (v34 : UInt32)) (13) wq (by decide)).mono fun v w2 h => ⟨h.2, h.1⟩)
 exact Ask.plainD rfl rfl fun aq wq hNq hO hR hT => does_indexArr (k := .i64) (i := 6) (o' := 6) arr_83 ((hO 1 rfl).trans s1_32) (hT 33 rfl rfl) (by decide) (by decide) rfl ⟨Ext.refl _, rfl⟩
 intro a35 wd35 hN_35 hD_35 hO hR hA hU
 obtain ⟨_, _, _, _, _, _, _, _, _, _, _, t43, t44, _⟩ := hA
 have hE_35 := hE_33.trans hR
 have s1_35 := (hO 1 rfl).trans s1_32
 have s2_35 := (hO 2 rfl).trans s2_32
 have s8_35 := (hO 8 rfl).trans s8_32
 have s18_35 := (hO 18 rfl).trans s18_32
 have s19_35 := (hO 19 rfl).trans s19_32
 have hbb1_35 := hbb1_33.ext' hR
 have hbb2_35 := hbb2_33.ext' hR
 have s43_35 : get a35 43 = w32 (rot (((s.rounds k).g : UInt32) ^^^ (v34 : UInt32)) 13) := t43
 have s44_35 : get a35 44 = Value.pointer (some ⟨b1, 6, none⟩) := t44
 clear hE_33 hN_32 hD_32 s1_32 s2_32 s4_32 s5_32 s8_32 s18_32 s19_32 s30_32 s31_32 hbb1_33 hbb2_33
 refine tail_none rfl rfl (does_storeD (o := 6) (n := 1) (cs' := [w32 (v14), w32 (v24), w32 (v34), w32 ((s.rounds k).d), w32 (v17), w32 (v27), w32 (rot (((s.rounds k).g : UInt32) ^^^ (v34 : UInt32)) 13), w32 ((s.rounds k).h)]) (V := w32 (rot (((s.rounds k).g : UInt32) ^^^ (v34 : UInt32)) 13)) s44_35 s43_35 hbb1_35 (Nat.le_of_ble_eq_true rfl) rfl siz_22 rfl rfl (fun wd36 hX hz hbb1_36 => ?_))
 have hE_36 := hE_35.since hX (fun k e => e ▸ fr_b1)
 have hbb2_36 := hbb2_35.ext hX ne_b1_b2.symm
 clear hX hz hE_35 hbb1_35 hbb2_35
 obtain ⟨v37, hv37⟩ : ∃ v : UInt32, rot (((s.rounds k).g : UInt32) ^^^ (v34 : UInt32)) 13 = v := ⟨_, rfl⟩
 rw [hv37] at hbb1_36
 refine tail_nil ?_
 refine region_lex [] [(45, Pr.ex (i64 ((3 : Nat) : Int)))] 1 hN_35 hD_35 (by kernel_rfl) (by kernel_rfl) ?_ ?_
 refine Asks.cons ?_ (Asks.zero _)
 exact Ask.plain rfl rfl fun aq wq hNq hO hR hT => does_add (a := ((2 : Nat) : Int)) (b := ((1 : Nat) : Int)) (r := ((3 : Nat) : Int)) ((hO 19 rfl).trans s19_35) rfl (by decide) (by decide) (by decide) ⟨Ext.refl _, rfl⟩
 intro a38 wd38 hN_38 hD_38 hO hR hA hU
 obtain ⟨t45, _⟩ := hA
 have hE_38 := hE_36.trans hR
 have s1_38 := (hO 1 rfl).trans s1_35
 have s2_38 := (hO 2 rfl).trans s2_35
 have s8_38 := (hO 8 rfl).trans s8_35
 have s18_38 := (hO 18 rfl).trans s18_35
 have s19_38 := (hO 19 rfl).trans s19_35
 have hbb1_38 := hbb1_36.ext' hR
 have hbb2_38 := hbb2_36.ext' hR
 have s45_38 : get a38 45 = i64 ((3 : Nat) : Int) := t45
 clear hE_36 hN_35 hD_35 s1_35 s2_35 s8_35 s18_35 s19_35 s43_35 s44_35 hbb1_36 hbb2_36
 refine tail_put rfl rfl hN_38 hD_38 (by decide) (does_move (V := i64 ((3 : Nat) : Int)) s45_38 (fun a39 hN_39 hD_39 hv hO => ?_))
 have s19_39 := hv
 have s1_39 := (hO 1 rfl).trans s1_38
 have s2_39 := (hO 2 rfl).trans s2_38
 have s8_39 := (hO 8 rfl).trans s8_38
 have s18_39 := (hO 18 rfl).trans s18_38
 clear hO hv hN_38 hD_38 s1_38 s2_38 s8_38 s18_38 s45_38 s19_38
 refine tail_nil ?_
 refine round_step ?_
 refine wp_seq ?_
 refine region_lex [] [(20, Pr.ex (Value.bool (true)))] 1 hN_39 hD_39 (by kernel_rfl) (by kernel_rfl) ?_ ?_
 refine Asks.cons ?_ (Asks.zero _)
 exact Ask.plain rfl rfl fun aq wq hNq hO hR hT => does_lss (a := ((3 : Nat) : Int)) (b := ((4 : Nat) : Int)) ((hO 19 rfl).trans s19_39) rfl ⟨Ext.refl _, rfl⟩
 intro a40 wd40 hN_40 hD_40 hO hR hA hU
 obtain ⟨t20, _⟩ := hA
 have hE_40 := hE_38.trans hR
 have s1_40 := (hO 1 rfl).trans s1_39
 have s2_40 := (hO 2 rfl).trans s2_39
 have s8_40 := (hO 8 rfl).trans s8_39
 have s18_40 := (hO 18 rfl).trans s18_39
 have s19_40 := (hO 19 rfl).trans s19_39
 have hbb1_40 := hbb1_38.ext' hR
 have hbb2_40 := hbb2_38.ext' hR
 have s20_40 : get a40 20 = Value.bool (true) := t20
 clear hE_38 hN_39 hD_39 s1_39 s2_39 s8_39 s18_39 s19_39 hbb1_38 hbb2_38
 refine tail_nil ?_
 refine wp_seq ?_
 refine wp_ifT s20_40 ?_
 refine wp_skip ?_
 refine wp_seq ?_
 refine wp_block ?_
 refine wp_seq ?_
 refine region_lex [] [(21, Pr.ex (i64 ((3 : Nat) : Int))), (22, Pr.ex (i64 ((18 : Nat) : Int))), (4, Pr.ex (i64 ((3 : Nat) : Int))), (5, Pr.ex (i64 ((18 : Nat) : Int)))] 4 hN_40 hD_40 (by kernel_rfl) (by kernel_rfl) ?_ ?_
 refine Asks.cons ?_ (Asks.cons ?_ (Asks.cons ?_ (Asks.cons ?_ (Asks.zero _))))
 exact Ask.plain rfl rfl fun aq wq hNq hO hR hT => does_move (V := i64 ((3 : Nat) : Int)) ((hO 19 rfl).trans s19_40) ⟨Ext.refl _, rfl⟩
 exact Ask.plain rfl rfl fun aq wq hNq hO hR hT => does_indexArrV (cs := [i64 ((7 : Nat) : Int), i64 ((9 : Nat) : Int), i64 ((13 : Nat) : Int), i64 ((18 : Nat) : Int)]) (k := .i64) (i := 3) (V := i64 ((18 : Nat) : Int)) arr_104 one_3 ((hO 18 rfl).trans s18_40) ((hO 19 rfl).trans s19_40) (by decide) (by decide) rfl ⟨Ext.refl _, rfl⟩
 exact Ask.plain rfl rfl fun aq wq hNq hO hR hT => does_assign (V := i64 ((3 : Nat) : Int)) (hT 21 rfl rfl) ⟨Ext.refl _, rfl⟩
 exact Ask.plain rfl rfl fun aq wq hNq hO hR hT => does_assign (V := i64 ((18 : Nat) : Int)) (hT 22 rfl rfl) ⟨Ext.refl _, rfl⟩
 intro a41 wd41 hN_41 hD_41 hO hR hA hU
 obtain ⟨_, _, t4, t5, _⟩ := hA
 have hE_41 := hE_40.trans hR
 have s1_41 := (hO 1 rfl).trans s1_40
 have s2_41 := (hO 2 rfl).trans s2_40
 have s8_41 := (hO 8 rfl).trans s8_40
 have s18_41 := (hO 18 rfl).trans s18_40
 have s19_41 := (hO 19 rfl).trans s19_40
 have hbb1_41 := hbb1_40.ext' hR
 have hbb2_41 := hbb2_40.ext' hR
 have s4_41 : get a41 4 = i64 ((3 : Nat) : Int) := t4
 have s5_41 : get a41 5 = i64 ((18 : Nat) : Int) := t5
 clear hE_40 hN_40 hD_40 s1_40 s2_40 s8_40 s18_40 s19_40 s20_40 hbb1_40 hbb2_40
 refine tail_nil ?_
 refine wp_seq ?_
 refine region_any [] [(23, Pr.ex (i64 ((3 : Nat) : Int))), (24, Pr.ex (Value.pointer (some ⟨b1, 3, none⟩))), (25, Pr.ex (w32 ((s.rounds k).d))), (26, Pr.ex (i64 ((3 : Nat) : Int))), (27, Pr.ex (i64 ((7 : Nat) : Int))), (28, Pr.ex (Value.pointer (some ⟨b1, 7, none⟩))), (29, Pr.ex (w32 ((s.rounds k).h))), (30, Pr.ex (w32 (((s.rounds k).d : UInt32) + ((s.rounds k).h : UInt32)))), (31, Pr.ex (Value.pointer (some ⟨b1, 3, none⟩)))] 9 mixed hN_41 hD_41 (by kernel_rfl) (by kernel_rfl) (by kernel_rfl) ?_ ?_
 refine Asks.cons ?_ (Asks.cons ?_ (Asks.cons ?_ (Asks.cons ?_ (Asks.cons ?_ (Asks.cons ?_ (Asks.cons ?_ (Asks.cons ?_ (Asks.cons ?_ (Asks.zero _)))))))))
 exact Ask.plainD rfl rfl fun aq wq hNq hO hR hT => does_move (V := i64 ((3 : Nat) : Int)) ((hO 4 rfl).trans s4_41) ⟨Ext.refl _, rfl⟩
 exact Ask.plainD rfl rfl fun aq wq hNq hO hR hT => does_indexArr (k := .i64) (i := 3) (o' := 3) arr_83 ((hO 1 rfl).trans s1_41) (hT 23 rfl rfl) (by decide) (by decide) rfl ⟨Ext.refl _, rfl⟩
 exact Ask.plainD rfl rfl fun aq wq hNq hO hR hT => does_loadD1 (o := 3) (V := w32 ((s.rounds k).d)) (hT 24 rfl rfl) (hbb1_41.ext' hR) rfl one_22 ⟨Ext.refl _, rfl⟩
 exact Ask.plainD rfl rfl fun aq wq hNq hO hR hT => does_move (V := i64 ((3 : Nat) : Int)) ((hO 4 rfl).trans s4_41) ⟨Ext.refl _, rfl⟩
 exact Ask.plainD rfl rfl fun aq wq hNq hO hR hT => does_add (a := ((3 : Nat) : Int)) (b := ((4 : Nat) : Int)) (r := ((7 : Nat) : Int)) (hT 26 rfl rfl) rfl (by decide) (by decide) (by decide) ⟨Ext.refl _, rfl⟩
 exact Ask.plainD rfl rfl fun aq wq hNq hO hR hT => does_indexArr (k := .i64) (i := 7) (o' := 7) arr_83 ((hO 1 rfl).trans s1_41) (hT 27 rfl rfl) (by decide) (by decide) rfl ⟨Ext.refl _, rfl⟩
 exact Ask.plainD rfl rfl fun aq wq hNq hO hR hT => does_loadD1 (o := 7) (V := w32 ((s.rounds k).h)) (hT 28 rfl rfl) (hbb1_41.ext' hR) rfl one_22 ⟨Ext.refl _, rfl⟩
 exact Ask.plainD rfl rfl fun aq wq hNq hO hR hT => does_add32 (a := ((s.rounds k).d : UInt32)) (b := ((s.rounds k).h : UInt32)) (hT 25 rfl rfl) (hT 29 rfl rfl) ⟨Ext.refl _, rfl⟩
 exact Ask.plainD rfl rfl fun aq wq hNq hO hR hT => does_indexArr (k := .i64) (i := 3) (o' := 3) arr_83 ((hO 1 rfl).trans s1_41) (hT 23 rfl rfl) (by decide) (by decide) rfl ⟨Ext.refl _, rfl⟩
 intro a42 wd42 hN_42 hD_42 hO hR hA hU
 obtain ⟨_, _, _, _, _, _, _, t30, t31, _⟩ := hA
 have hE_42 := hE_41.trans hR
 have s1_42 := (hO 1 rfl).trans s1_41
 have s2_42 := (hO 2 rfl).trans s2_41
 have s4_42 := (hO 4 rfl).trans s4_41
 have s5_42 := (hO 5 rfl).trans s5_41
 have s8_42 := (hO 8 rfl).trans s8_41
 have s18_42 := (hO 18 rfl).trans s18_41
 have s19_42 := (hO 19 rfl).trans s19_41
 have hbb1_42 := hbb1_41.ext' hR
 have hbb2_42 := hbb2_41.ext' hR
 have s30_42 : get a42 30 = w32 (((s.rounds k).d : UInt32) + ((s.rounds k).h : UInt32)) := t30
 have s31_42 : get a42 31 = Value.pointer (some ⟨b1, 3, none⟩) := t31
 clear hE_41 hN_41 hD_41 s1_41 s2_41 s4_41 s5_41 s8_41 s18_41 s19_41 hbb1_41 hbb2_41
 refine tail_none rfl rfl (does_storeD (o := 3) (n := 1) (cs' := [w32 (v14), w32 (v24), w32 (v34), w32 (((s.rounds k).d : UInt32) + ((s.rounds k).h : UInt32)), w32 (v17), w32 (v27), w32 (v37), w32 ((s.rounds k).h)]) (V := w32 (((s.rounds k).d : UInt32) + ((s.rounds k).h : UInt32))) s31_42 s30_42 hbb1_42 (Nat.le_of_ble_eq_true rfl) rfl siz_22 rfl rfl (fun wd43 hX hz hbb1_43 => ?_))
 have hE_43 := hE_42.since hX (fun k e => e ▸ fr_b1)
 have hbb2_43 := hbb2_42.ext hX ne_b1_b2.symm
 clear hX hz hE_42 hbb1_42 hbb2_42
 obtain ⟨v44, hv44⟩ : ∃ v : UInt32, ((s.rounds k).d : UInt32) + ((s.rounds k).h : UInt32) = v := ⟨_, rfl⟩
 rw [hv44] at hbb1_43
 refine tail_nil ?_
 refine region_any [] [(32, Pr.ex (i64 ((3 : Nat) : Int))), (33, Pr.ex (i64 ((7 : Nat) : Int))), (34, Pr.ex (i64 ((3 : Nat) : Int))), (35, Pr.ex (i64 ((7 : Nat) : Int))), (36, Pr.ex (Value.pointer (some ⟨b1, 7, none⟩))), (37, Pr.ex (w32 ((s.rounds k).h))), (38, Pr.ex (i64 ((3 : Nat) : Int))), (39, Pr.ex (Value.pointer (some ⟨b1, 3, none⟩))), (40, Pr.ex (w32 (v44))), (41, Pr.ex (w32 (((s.rounds k).h : UInt32) ^^^ (v44 : UInt32)))), (42, Pr.ex (i64 ((18 : Nat) : Int))), (43, Pr.ex (w32 (rot (((s.rounds k).h : UInt32) ^^^ (v44 : UInt32)) 18))), (44, Pr.ex (Value.pointer (some ⟨b1, 7, none⟩)))] 13 mixed hN_42 hD_42 (by kernel_rfl) (by kernel_rfl) (by kernel_rfl) ?_ ?_
 refine Asks.cons ?_ (Asks.cons ?_ (Asks.cons ?_ (Asks.cons ?_ (Asks.cons ?_ (Asks.cons ?_ (Asks.cons ?_ (Asks.cons ?_ (Asks.cons ?_ (Asks.cons ?_ (Asks.cons ?_ (Asks.cons ?_ (Asks.cons ?_ (Asks.zero _)))))))))))))
 exact Ask.plainD rfl rfl fun aq wq hNq hO hR hT => does_move (V := i64 ((3 : Nat) : Int)) ((hO 4 rfl).trans s4_42) ⟨Ext.refl _, rfl⟩
 exact Ask.plainD rfl rfl fun aq wq hNq hO hR hT => does_add (a := ((3 : Nat) : Int)) (b := ((4 : Nat) : Int)) (r := ((7 : Nat) : Int)) (hT 32 rfl rfl) rfl (by decide) (by decide) (by decide) ⟨Ext.refl _, rfl⟩
 exact Ask.plainD rfl rfl fun aq wq hNq hO hR hT => does_move (V := i64 ((3 : Nat) : Int)) ((hO 4 rfl).trans s4_42) ⟨Ext.refl _, rfl⟩
 exact Ask.plainD rfl rfl fun aq wq hNq hO hR hT => does_add (a := ((3 : Nat) : Int)) (b := ((4 : Nat) : Int)) (r := ((7 : Nat) : Int)) (hT 34 rfl rfl) rfl (by decide) (by decide) (by decide) ⟨Ext.refl _, rfl⟩
 exact Ask.plainD rfl rfl fun aq wq hNq hO hR hT => does_indexArr (k := .i64) (i := 7) (o' := 7) arr_83 ((hO 1 rfl).trans s1_42) (hT 35 rfl rfl) (by decide) (by decide) rfl ⟨Ext.refl _, rfl⟩
 exact Ask.plainD rfl rfl fun aq wq hNq hO hR hT => does_loadD1 (o := 7) (V := w32 ((s.rounds k).h)) (hT 36 rfl rfl) (hbb1_43.ext' hR) rfl one_22 ⟨Ext.refl _, rfl⟩
 exact Ask.plainD rfl rfl fun aq wq hNq hO hR hT => does_move (V := i64 ((3 : Nat) : Int)) ((hO 4 rfl).trans s4_42) ⟨Ext.refl _, rfl⟩
 exact Ask.plainD rfl rfl fun aq wq hNq hO hR hT => does_indexArr (k := .i64) (i := 3) (o' := 3) arr_83 ((hO 1 rfl).trans s1_42) (hT 38 rfl rfl) (by decide) (by decide) rfl ⟨Ext.refl _, rfl⟩
 exact Ask.plainD rfl rfl fun aq wq hNq hO hR hT => does_loadD1 (o := 3) (V := w32 (v44)) (hT 39 rfl rfl) (hbb1_43.ext' hR) rfl one_22 ⟨Ext.refl _, rfl⟩
 exact Ask.plainD rfl rfl fun aq wq hNq hO hR hT => does_xor32 (a := ((s.rounds k).h : UInt32)) (b := (v44 : UInt32)) (hT 37 rfl rfl) (hT 40 rfl rfl) ⟨Ext.refl _, rfl⟩
 exact Ask.plainD rfl rfl fun aq wq hNq hO hR hT => does_move (V := i64 ((18 : Nat) : Int)) ((hO 5 rfl).trans s5_42) ⟨Ext.refl _, rfl⟩
 exact Ask.plainD rfl rfl fun aq wq hNq hO hR hT => does_ret (vs := #[w32 (((s.rounds k).h : UInt32) ^^^ (v44 : UInt32)), i64 ((18 : Nat) : Int)]) call_81 (args2 (hT 41 rfl rfl) (hT 42 rfl rfl)) rfl ((turn (((s.rounds k).h : UInt32) ^^^ (v44 : UInt32)) (18) wq (by decide)).mono fun v w2 h => ⟨h.2, h.1⟩)
 exact Ask.plainD rfl rfl fun aq wq hNq hO hR hT => does_indexArr (k := .i64) (i := 7) (o' := 7) arr_83 ((hO 1 rfl).trans s1_42) (hT 33 rfl rfl) (by decide) (by decide) rfl ⟨Ext.refl _, rfl⟩
 intro a45 wd45 hN_45 hD_45 hO hR hA hU
 obtain ⟨_, _, _, _, _, _, _, _, _, _, _, t43, t44, _⟩ := hA
 have hE_45 := hE_43.trans hR
 have s1_45 := (hO 1 rfl).trans s1_42
 have s2_45 := (hO 2 rfl).trans s2_42
 have s8_45 := (hO 8 rfl).trans s8_42
 have s18_45 := (hO 18 rfl).trans s18_42
 have s19_45 := (hO 19 rfl).trans s19_42
 have hbb1_45 := hbb1_43.ext' hR
 have hbb2_45 := hbb2_43.ext' hR
 have s43_45 : get a45 43 = w32 (rot (((s.rounds k).h : UInt32) ^^^ (v44 : UInt32)) 18) := t43
 have s44_45 : get a45 44 = Value.pointer (some ⟨b1, 7, none⟩) := t44
 clear hE_43 hN_42 hD_42 s1_42 s2_42 s4_42 s5_42 s8_42 s18_42 s19_42 s30_42 s31_42 hbb1_43 hbb2_43
 refine tail_none rfl rfl (does_storeD (o := 7) (n := 1) (cs' := [w32 (v14), w32 (v24), w32 (v34), w32 (v44), w32 (v17), w32 (v27), w32 (v37), w32 (rot (((s.rounds k).h : UInt32) ^^^ (v44 : UInt32)) 18)]) (V := w32 (rot (((s.rounds k).h : UInt32) ^^^ (v44 : UInt32)) 18)) s44_45 s43_45 hbb1_45 (Nat.le_of_ble_eq_true rfl) rfl siz_22 rfl rfl (fun wd46 hX hz hbb1_46 => ?_))
 have hE_46 := hE_45.since hX (fun k e => e ▸ fr_b1)
 have hbb2_46 := hbb2_45.ext hX ne_b1_b2.symm
 clear hX hz hE_45 hbb1_45 hbb2_45
 obtain ⟨v47, hv47⟩ : ∃ v : UInt32, rot (((s.rounds k).h : UInt32) ^^^ (v44 : UInt32)) 18 = v := ⟨_, rfl⟩
 rw [hv47] at hbb1_46
 refine tail_nil ?_
 refine region_lex [] [(45, Pr.ex (i64 ((4 : Nat) : Int)))] 1 hN_45 hD_45 (by kernel_rfl) (by kernel_rfl) ?_ ?_
 refine Asks.cons ?_ (Asks.zero _)
 exact Ask.plain rfl rfl fun aq wq hNq hO hR hT => does_add (a := ((3 : Nat) : Int)) (b := ((1 : Nat) : Int)) (r := ((4 : Nat) : Int)) ((hO 19 rfl).trans s19_45) rfl (by decide) (by decide) (by decide) ⟨Ext.refl _, rfl⟩
 intro a48 wd48 hN_48 hD_48 hO hR hA hU
 obtain ⟨t45, _⟩ := hA
 have hE_48 := hE_46.trans hR
 have s1_48 := (hO 1 rfl).trans s1_45
 have s2_48 := (hO 2 rfl).trans s2_45
 have s8_48 := (hO 8 rfl).trans s8_45
 have s18_48 := (hO 18 rfl).trans s18_45
 have s19_48 := (hO 19 rfl).trans s19_45
 have hbb1_48 := hbb1_46.ext' hR
 have hbb2_48 := hbb2_46.ext' hR
 have s45_48 : get a48 45 = i64 ((4 : Nat) : Int) := t45
 clear hE_46 hN_45 hD_45 s1_45 s2_45 s8_45 s18_45 s19_45 s43_45 s44_45 hbb1_46 hbb2_46
 refine tail_put rfl rfl hN_48 hD_48 (by decide) (does_move (V := i64 ((4 : Nat) : Int)) s45_48 (fun a49 hN_49 hD_49 hv hO => ?_))
 have s19_49 := hv
 have s1_49 := (hO 1 rfl).trans s1_48
 have s2_49 := (hO 2 rfl).trans s2_48
 have s8_49 := (hO 8 rfl).trans s8_48
 have s18_49 := (hO 18 rfl).trans s18_48
 clear hO hv hN_48 hD_48 s1_48 s2_48 s8_48 s18_48 s45_48 s19_48
 refine tail_nil ?_
 refine round_step ?_
 refine wp_seq ?_
 refine region_lex [] [(20, Pr.ex (Value.bool (false)))] 1 hN_49 hD_49 (by kernel_rfl) (by kernel_rfl) ?_ ?_
 refine Asks.cons ?_ (Asks.zero _)
 exact Ask.plain rfl rfl fun aq wq hNq hO hR hT => does_lss (a := ((4 : Nat) : Int)) (b := ((4 : Nat) : Int)) ((hO 19 rfl).trans s19_49) rfl ⟨Ext.refl _, rfl⟩
 intro a50 wd50 hN_50 hD_50 hO hR hA hU
 obtain ⟨t20, _⟩ := hA
 have hE_50 := hE_48.trans hR
 have s1_50 := (hO 1 rfl).trans s1_49
 have s2_50 := (hO 2 rfl).trans s2_49
 have s8_50 := (hO 8 rfl).trans s8_49
 have s18_50 := (hO 18 rfl).trans s18_49
 have s19_50 := (hO 19 rfl).trans s19_49
 have hbb1_50 := hbb1_48.ext' hR
 have hbb2_50 := hbb2_48.ext' hR
 have s20_50 : get a50 20 = Value.bool (false) := t20
 clear hE_48 hN_49 hD_49 s1_49 s2_49 s8_49 s18_49 s19_49 hbb1_48 hbb2_48
 refine tail_nil ?_
 refine wp_seq ?_
 refine wp_ifF s20_50 ?_
 refine wp_exit ?_
 refine wp_seq ?_
 refine region_lex [6] [(46, Pr.ex (Value.agg #[w32 (v14), w32 (v24), w32 (v34), w32 (v44), w32 (v17), w32 (v27), w32 (v37), w32 (v47)])), (6, Pr.box' wd50.heap.size 83 [w32 (0), w32 (0), w32 (0), w32 (0), w32 (0), w32 (0), w32 (0), w32 (0)])] 2 hN_50 hD_50 (by kernel_rfl) (by kernel_rfl) ?_ ?_
 refine Asks.cons ?_ (Asks.cons ?_ (Asks.zero _))
 exact Ask.plain rfl rfl fun aq wq hNq hO hR hT => does_loadD (o := 0) (n := 8) (mid := [w32 (v14), w32 (v24), w32 (v34), w32 (v44), w32 (v17), w32 (v27), w32 (v37), w32 (v47)]) ((hO 1 rfl).trans s1_50) (hbb1_50.ext' hR) rfl rfl (Nat.le_of_ble_eq_true rfl) row_83 rfl ⟨Ext.refl _, rfl⟩
 refine Ask.fresh rfl rfl ?_
 intro aq wq hNq hO hR hT
 exact does_alloc zero_83 (fun b w2 he hlo hb => ⟨he, ⟨b, rfl, Nat.le_trans hR.size' hlo, hb⟩, ⟨b, rfl, hlo, hb.lt⟩⟩)
 intro a51 wd51 hN_51 hD_51 hO hR hA hU
 obtain ⟨t46, t6, _⟩ := hA
 have hE_51 := hE_50.trans hR
 have s1_51 := (hO 1 rfl).trans s1_50
 have s2_51 := (hO 2 rfl).trans s2_50
 have s8_51 := (hO 8 rfl).trans s8_50
 have hbb1_51 := hbb1_50.ext' hR
 have hbb2_51 := hbb2_50.ext' hR
 have s46_51 : get a51 46 = Value.agg #[w32 (v14), w32 (v24), w32 (v34), w32 (v44), w32 (v17), w32 (v27), w32 (v37), w32 (v47)] := t46
 obtain ⟨b6, s6_51, lo_b6, hbb6_51⟩ := t6
 have ne_b1_b6 : b1 ≠ b6 := fun e => Nat.lt_irrefl _ (Nat.lt_of_lt_of_le hbb1_50.lt (e ▸ lo_b6))
 have ne_b2_b6 : b2 ≠ b6 := fun e => Nat.lt_irrefl _ (Nat.lt_of_lt_of_le hbb2_50.lt (e ▸ lo_b6))
 have fr_b6 : w0.heap.size ≤ b6 := Nat.le_trans hE_50.size' lo_b6
 clear hE_50 hN_50 hD_50 s1_50 s2_50 s8_50 s18_50 s19_50 s20_50 hbb1_50 hbb2_50
 refine tail_none rfl rfl (does_storeD (o := 0) (n := 8) (cs' := [w32 (v14), w32 (v24), w32 (v34), w32 (v44), w32 (v17), w32 (v27), w32 (v37), w32 (v47)]) (V := Value.agg #[w32 (v14), w32 (v24), w32 (v34), w32 (v44), w32 (v17), w32 (v27), w32 (v37), w32 (v47)]) s6_51 s46_51 hbb6_51 (Nat.le_of_ble_eq_true rfl) rfl siz_83 rfl rfl (fun wd52 hX hz hbb6_52 => ?_))
 have hE_52 := hE_51.since hX (fun k e => e ▸ fr_b6)
 have hbb1_52 := hbb1_51.ext hX ne_b1_b6
 have hbb2_52 := hbb2_51.ext hX ne_b2_b6
 clear hX hz hE_51 hbb1_51 hbb2_51 hbb6_51
 refine tail_nil ?_
 refine wp_seq ?_
 refine region_lex [] [(47, Pr.ex (i64 ((0 : Nat) : Int)))] 1 hN_51 hD_51 (by kernel_rfl) (by kernel_rfl) ?_ ?_
 refine Asks.cons ?_ (Asks.zero _)
 exact Ask.plain rfl rfl fun aq wq hNq hO hR hT => does_move (V := i64 ((0 : Nat) : Int)) rfl ⟨Ext.refl _, rfl⟩
 intro a53 wd53 hN_53 hD_53 hO hR hA hU
 obtain ⟨t47, _⟩ := hA
 have hE_53 := hE_52.trans hR
 have s1_53 := (hO 1 rfl).trans s1_51
 have s2_53 := (hO 2 rfl).trans s2_51
 have s6_53 := (hO 6 rfl).trans s6_51
 have s8_53 := (hO 8 rfl).trans s8_51
 have hbb1_53 := hbb1_52.ext' hR
 have hbb2_53 := hbb2_52.ext' hR
 have hbb6_53 := hbb6_52.ext' hR
 have s47_53 : get a53 47 = i64 ((0 : Nat) : Int) := t47
 clear hE_52 hN_51 hD_51 s1_51 s2_51 s6_51 s8_51 s46_51 hbb1_52 hbb2_52 hbb6_52
 refine tail_nil ?_
 refine wp_block ?_
 refine loop_rounds 9 ?_
 refine round_step ?_
 refine wp_seq ?_
 refine region_lex [] [(48, Pr.ex (Value.bool (true)))] 1 hN_53 hD_53 (by kernel_rfl) (by kernel_rfl) ?_ ?_
 refine Asks.cons ?_ (Asks.zero _)
 exact Ask.plain rfl rfl fun aq wq hNq hO hR hT => does_lss (a := ((0 : Nat) : Int)) (b := ((8 : Nat) : Int)) ((hO 47 rfl).trans s47_53) rfl ⟨Ext.refl _, rfl⟩
 intro a54 wd54 hN_54 hD_54 hO hR hA hU
 obtain ⟨t48, _⟩ := hA
 have hE_54 := hE_53.trans hR
 have s1_54 := (hO 1 rfl).trans s1_53
 have s2_54 := (hO 2 rfl).trans s2_53
 have s6_54 := (hO 6 rfl).trans s6_53
 have s8_54 := (hO 8 rfl).trans s8_53
 have s47_54 := (hO 47 rfl).trans s47_53
 have hbb1_54 := hbb1_53.ext' hR
 have hbb2_54 := hbb2_53.ext' hR
 have hbb6_54 := hbb6_53.ext' hR
 have s48_54 : get a54 48 = Value.bool (true) := t48
 clear hE_53 hN_53 hD_53 s1_53 s2_53 s6_53 s8_53 s47_53 hbb1_53 hbb2_53 hbb6_53
 refine tail_nil ?_
 refine wp_seq ?_
 refine wp_ifT s48_54 ?_
 refine wp_skip ?_
 refine wp_seq ?_
 refine wp_block ?_
 refine wp_seq ?_
 refine region_lex [] [(49, Pr.ex (i64 ((0 : Nat) : Int))), (7, Pr.ex (i64 ((0 : Nat) : Int)))] 2 hN_54 hD_54 (by kernel_rfl) (by kernel_rfl) ?_ ?_
 refine Asks.cons ?_ (Asks.cons ?_ (Asks.zero _))
 exact Ask.plain rfl rfl fun aq wq hNq hO hR hT => does_move (V := i64 ((0 : Nat) : Int)) ((hO 47 rfl).trans s47_54) ⟨Ext.refl _, rfl⟩
 exact Ask.plain rfl rfl fun aq wq hNq hO hR hT => does_assign (V := i64 ((0 : Nat) : Int)) (hT 49 rfl rfl) ⟨Ext.refl _, rfl⟩
 intro a55 wd55 hN_55 hD_55 hO hR hA hU
 obtain ⟨_, t7, _⟩ := hA
 have hE_55 := hE_54.trans hR
 have s1_55 := (hO 1 rfl).trans s1_54
 have s2_55 := (hO 2 rfl).trans s2_54
 have s6_55 := (hO 6 rfl).trans s6_54
 have s8_55 := (hO 8 rfl).trans s8_54
 have s47_55 := (hO 47 rfl).trans s47_54
 have hbb1_55 := hbb1_54.ext' hR
 have hbb2_55 := hbb2_54.ext' hR
 have hbb6_55 := hbb6_54.ext' hR
 have s7_55 : get a55 7 = i64 ((0 : Nat) : Int) := t7
 clear hE_54 hN_54 hD_54 s1_54 s2_54 s6_54 s8_54 s47_54 s48_54 hbb1_54 hbb2_54 hbb6_54
 refine tail_nil ?_
 refine region_lex [] [(50, Pr.ex (i64 ((0 : Nat) : Int))), (51, Pr.ex (i64 ((0 : Nat) : Int))), (52, Pr.ex (i64 ((3 : Nat) : Int))), (53, Pr.ex (i64 ((3 : Nat) : Int))), (54, Pr.ex (Value.pointer (some ⟨b6, 3, none⟩))), (55, Pr.ex (w32 (v44))), (56, Pr.ex (Value.pointer (some ⟨b1, 0, none⟩)))] 7 hN_55 hD_55 (by kernel_rfl) (by kernel_rfl) ?_ ?_
 refine Asks.cons ?_ (Asks.cons ?_ (Asks.cons ?_ (Asks.cons ?_ (Asks.cons ?_ (Asks.cons ?_ (Asks.cons ?_ (Asks.zero _)))))))
 exact Ask.plain rfl rfl fun aq wq hNq hO hR hT => does_move (V := i64 ((0 : Nat) : Int)) ((hO 7 rfl).trans s7_55) ⟨Ext.refl _, rfl⟩
 exact Ask.plain rfl rfl fun aq wq hNq hO hR hT => does_move (V := i64 ((0 : Nat) : Int)) ((hO 7 rfl).trans s7_55) ⟨Ext.refl _, rfl⟩
 exact Ask.plain rfl rfl fun aq wq hNq hO hR hT => does_add (a := ((0 : Nat) : Int)) (b := ((3 : Nat) : Int)) (r := ((3 : Nat) : Int)) (hT 51 rfl rfl) rfl (by decide) (by decide) (by decide) ⟨Ext.refl _, rfl⟩
 exact Ask.plain rfl rfl fun aq wq hNq hO hR hT => does_rem (k := .i64) (a := ((3 : Nat) : Int)) (b := ((8 : Nat) : Int)) (r := ((3 : Nat) : Int)) (hT 52 rfl rfl) rfl (by decide) (by decide) (by decide) ⟨Ext.refl _, rfl⟩
 exact Ask.plain rfl rfl fun aq wq hNq hO hR hT => does_indexArr (k := .i64) (i := 3) (o' := 3) arr_83 ((hO 6 rfl).trans s6_55) (hT 53 rfl rfl) (by decide) (by decide) rfl ⟨Ext.refl _, rfl⟩
 exact Ask.plain rfl rfl fun aq wq hNq hO hR hT => does_loadD1 (o := 3) (V := w32 (v44)) (hT 54 rfl rfl) (hbb6_55.ext' hR) rfl one_22 ⟨Ext.refl _, rfl⟩
 exact Ask.plain rfl rfl fun aq wq hNq hO hR hT => does_indexArr (k := .i64) (i := 0) (o' := 0) arr_83 ((hO 1 rfl).trans s1_55) (hT 50 rfl rfl) (by decide) (by decide) rfl ⟨Ext.refl _, rfl⟩
 intro a56 wd56 hN_56 hD_56 hO hR hA hU
 obtain ⟨_, _, _, _, _, t55, t56, _⟩ := hA
 have hE_56 := hE_55.trans hR
 have s1_56 := (hO 1 rfl).trans s1_55
 have s2_56 := (hO 2 rfl).trans s2_55
 have s6_56 := (hO 6 rfl).trans s6_55
 have s8_56 := (hO 8 rfl).trans s8_55
 have s47_56 := (hO 47 rfl).trans s47_55
 have hbb1_56 := hbb1_55.ext' hR
 have hbb2_56 := hbb2_55.ext' hR
 have hbb6_56 := hbb6_55.ext' hR
 have s55_56 : get a56 55 = w32 (v44) := t55
 have s56_56 : get a56 56 = Value.pointer (some ⟨b1, 0, none⟩) := t56
 clear hE_55 hN_55 hD_55 s1_55 s2_55 s6_55 s7_55 s8_55 s47_55 hbb1_55 hbb2_55 hbb6_55
 refine tail_none rfl rfl (does_storeD (o := 0) (n := 1) (cs' := [w32 (v44), w32 (v24), w32 (v34), w32 (v44), w32 (v17), w32 (v27), w32 (v37), w32 (v47)]) (V := w32 (v44)) s56_56 s55_56 hbb1_56 (Nat.le_of_ble_eq_true rfl) rfl siz_22 rfl rfl (fun wd57 hX hz hbb1_57 => ?_))
 have hE_57 := hE_56.since hX (fun k e => e ▸ fr_b1)
 have hbb2_57 := hbb2_56.ext hX ne_b1_b2.symm
 have hbb6_57 := hbb6_56.ext hX ne_b1_b6.symm
 clear hX hz hE_56 hbb1_56 hbb2_56 hbb6_56
 refine tail_nil ?_
 refine region_lex [] [(57, Pr.ex (i64 ((1 : Nat) : Int)))] 1 hN_56 hD_56 (by kernel_rfl) (by kernel_rfl) ?_ ?_
 refine Asks.cons ?_ (Asks.zero _)
 exact Ask.plain rfl rfl fun aq wq hNq hO hR hT => does_add (a := ((0 : Nat) : Int)) (b := ((1 : Nat) : Int)) (r := ((1 : Nat) : Int)) ((hO 47 rfl).trans s47_56) rfl (by decide) (by decide) (by decide) ⟨Ext.refl _, rfl⟩
 intro a58 wd58 hN_58 hD_58 hO hR hA hU
 obtain ⟨t57, _⟩ := hA
 have hE_58 := hE_57.trans hR
 have s1_58 := (hO 1 rfl).trans s1_56
 have s2_58 := (hO 2 rfl).trans s2_56
 have s6_58 := (hO 6 rfl).trans s6_56
 have s8_58 := (hO 8 rfl).trans s8_56
 have s47_58 := (hO 47 rfl).trans s47_56
 have hbb1_58 := hbb1_57.ext' hR
 have hbb2_58 := hbb2_57.ext' hR
 have hbb6_58 := hbb6_57.ext' hR
 have s57_58 : get a58 57 = i64 ((1 : Nat) : Int) := t57
 clear hE_57 hN_56 hD_56 s1_56 s2_56 s6_56 s8_56 s47_56 s55_56 s56_56 hbb1_57 hbb2_57 hbb6_57
 refine tail_put rfl rfl hN_58 hD_58 (by decide) (does_move (V := i64 ((1 : Nat) : Int)) s57_58 (fun a59 hN_59 hD_59 hv hO => ?_))
 have s47_59 := hv
 have s1_59 := (hO 1 rfl).trans s1_58
 have s2_59 := (hO 2 rfl).trans s2_58
 have s6_59 := (hO 6 rfl).trans s6_58
 have s8_59 := (hO 8 rfl).trans s8_58
 clear hO hv hN_58 hD_58 s1_58 s2_58 s6_58 s8_58 s57_58 s47_58
 refine tail_nil ?_
 refine round_step ?_
 refine wp_seq ?_
 refine region_lex [] [(48, Pr.ex (Value.bool (true)))] 1 hN_59 hD_59 (by kernel_rfl) (by kernel_rfl) ?_ ?_
 refine Asks.cons ?_ (Asks.zero _)
 exact Ask.plain rfl rfl fun aq wq hNq hO hR hT => does_lss (a := ((1 : Nat) : Int)) (b := ((8 : Nat) : Int)) ((hO 47 rfl).trans s47_59) rfl ⟨Ext.refl _, rfl⟩
 intro a60 wd60 hN_60 hD_60 hO hR hA hU
 obtain ⟨t48, _⟩ := hA
 have hE_60 := hE_58.trans hR
 have s1_60 := (hO 1 rfl).trans s1_59
 have s2_60 := (hO 2 rfl).trans s2_59
 have s6_60 := (hO 6 rfl).trans s6_59
 have s8_60 := (hO 8 rfl).trans s8_59
 have s47_60 := (hO 47 rfl).trans s47_59
 have hbb1_60 := hbb1_58.ext' hR
 have hbb2_60 := hbb2_58.ext' hR
 have hbb6_60 := hbb6_58.ext' hR
 have s48_60 : get a60 48 = Value.bool (true) := t48
 clear hE_58 hN_59 hD_59 s1_59 s2_59 s6_59 s8_59 s47_59 hbb1_58 hbb2_58 hbb6_58
 refine tail_nil ?_
 refine wp_seq ?_
 refine wp_ifT s48_60 ?_
 refine wp_skip ?_
 refine wp_seq ?_
 refine wp_block ?_
 refine wp_seq ?_
 refine region_lex [] [(49, Pr.ex (i64 ((1 : Nat) : Int))), (7, Pr.ex (i64 ((1 : Nat) : Int)))] 2 hN_60 hD_60 (by kernel_rfl) (by kernel_rfl) ?_ ?_
 refine Asks.cons ?_ (Asks.cons ?_ (Asks.zero _))
 exact Ask.plain rfl rfl fun aq wq hNq hO hR hT => does_move (V := i64 ((1 : Nat) : Int)) ((hO 47 rfl).trans s47_60) ⟨Ext.refl _, rfl⟩
 exact Ask.plain rfl rfl fun aq wq hNq hO hR hT => does_assign (V := i64 ((1 : Nat) : Int)) (hT 49 rfl rfl) ⟨Ext.refl _, rfl⟩
 intro a61 wd61 hN_61 hD_61 hO hR hA hU
 obtain ⟨_, t7, _⟩ := hA
 have hE_61 := hE_60.trans hR
 have s1_61 := (hO 1 rfl).trans s1_60
 have s2_61 := (hO 2 rfl).trans s2_60
 have s6_61 := (hO 6 rfl).trans s6_60
 have s8_61 := (hO 8 rfl).trans s8_60
 have s47_61 := (hO 47 rfl).trans s47_60
 have hbb1_61 := hbb1_60.ext' hR
 have hbb2_61 := hbb2_60.ext' hR
 have hbb6_61 := hbb6_60.ext' hR
 have s7_61 : get a61 7 = i64 ((1 : Nat) : Int) := t7
 clear hE_60 hN_60 hD_60 s1_60 s2_60 s6_60 s8_60 s47_60 s48_60 hbb1_60 hbb2_60 hbb6_60
 refine tail_nil ?_
 refine region_lex [] [(50, Pr.ex (i64 ((1 : Nat) : Int))), (51, Pr.ex (i64 ((1 : Nat) : Int))), (52, Pr.ex (i64 ((4 : Nat) : Int))), (53, Pr.ex (i64 ((4 : Nat) : Int))), (54, Pr.ex (Value.pointer (some ⟨b6, 4, none⟩))), (55, Pr.ex (w32 (v17))), (56, Pr.ex (Value.pointer (some ⟨b1, 1, none⟩)))] 7 hN_61 hD_61 (by kernel_rfl) (by kernel_rfl) ?_ ?_
 refine Asks.cons ?_ (Asks.cons ?_ (Asks.cons ?_ (Asks.cons ?_ (Asks.cons ?_ (Asks.cons ?_ (Asks.cons ?_ (Asks.zero _)))))))
 exact Ask.plain rfl rfl fun aq wq hNq hO hR hT => does_move (V := i64 ((1 : Nat) : Int)) ((hO 7 rfl).trans s7_61) ⟨Ext.refl _, rfl⟩
 exact Ask.plain rfl rfl fun aq wq hNq hO hR hT => does_move (V := i64 ((1 : Nat) : Int)) ((hO 7 rfl).trans s7_61) ⟨Ext.refl _, rfl⟩
 exact Ask.plain rfl rfl fun aq wq hNq hO hR hT => does_add (a := ((1 : Nat) : Int)) (b := ((3 : Nat) : Int)) (r := ((4 : Nat) : Int)) (hT 51 rfl rfl) rfl (by decide) (by decide) (by decide) ⟨Ext.refl _, rfl⟩
 exact Ask.plain rfl rfl fun aq wq hNq hO hR hT => does_rem (k := .i64) (a := ((4 : Nat) : Int)) (b := ((8 : Nat) : Int)) (r := ((4 : Nat) : Int)) (hT 52 rfl rfl) rfl (by decide) (by decide) (by decide) ⟨Ext.refl _, rfl⟩
 exact Ask.plain rfl rfl fun aq wq hNq hO hR hT => does_indexArr (k := .i64) (i := 4) (o' := 4) arr_83 ((hO 6 rfl).trans s6_61) (hT 53 rfl rfl) (by decide) (by decide) rfl ⟨Ext.refl _, rfl⟩
 exact Ask.plain rfl rfl fun aq wq hNq hO hR hT => does_loadD1 (o := 4) (V := w32 (v17)) (hT 54 rfl rfl) (hbb6_61.ext' hR) rfl one_22 ⟨Ext.refl _, rfl⟩
 exact Ask.plain rfl rfl fun aq wq hNq hO hR hT => does_indexArr (k := .i64) (i := 1) (o' := 1) arr_83 ((hO 1 rfl).trans s1_61) (hT 50 rfl rfl) (by decide) (by decide) rfl ⟨Ext.refl _, rfl⟩
 intro a62 wd62 hN_62 hD_62 hO hR hA hU
 obtain ⟨_, _, _, _, _, t55, t56, _⟩ := hA
 have hE_62 := hE_61.trans hR
 have s1_62 := (hO 1 rfl).trans s1_61
 have s2_62 := (hO 2 rfl).trans s2_61
 have s6_62 := (hO 6 rfl).trans s6_61
 have s8_62 := (hO 8 rfl).trans s8_61
 have s47_62 := (hO 47 rfl).trans s47_61
 have hbb1_62 := hbb1_61.ext' hR
 have hbb2_62 := hbb2_61.ext' hR
 have hbb6_62 := hbb6_61.ext' hR
 have s55_62 : get a62 55 = w32 (v17) := t55
 have s56_62 : get a62 56 = Value.pointer (some ⟨b1, 1, none⟩) := t56
 clear hE_61 hN_61 hD_61 s1_61 s2_61 s6_61 s7_61 s8_61 s47_61 hbb1_61 hbb2_61 hbb6_61
 refine tail_none rfl rfl (does_storeD (o := 1) (n := 1) (cs' := [w32 (v44), w32 (v17), w32 (v34), w32 (v44), w32 (v17), w32 (v27), w32 (v37), w32 (v47)]) (V := w32 (v17)) s56_62 s55_62 hbb1_62 (Nat.le_of_ble_eq_true rfl) rfl siz_22 rfl rfl (fun wd63 hX hz hbb1_63 => ?_))
 have hE_63 := hE_62.since hX (fun k e => e ▸ fr_b1)
 have hbb2_63 := hbb2_62.ext hX ne_b1_b2.symm
 have hbb6_63 := hbb6_62.ext hX ne_b1_b6.symm
 clear hX hz hE_62 hbb1_62 hbb2_62 hbb6_62
 refine tail_nil ?_
 refine region_lex [] [(57, Pr.ex (i64 ((2 : Nat) : Int)))] 1 hN_62 hD_62 (by kernel_rfl) (by kernel_rfl) ?_ ?_
 refine Asks.cons ?_ (Asks.zero _)
 exact Ask.plain rfl rfl fun aq wq hNq hO hR hT => does_add (a := ((1 : Nat) : Int)) (b := ((1 : Nat) : Int)) (r := ((2 : Nat) : Int)) ((hO 47 rfl).trans s47_62) rfl (by decide) (by decide) (by decide) ⟨Ext.refl _, rfl⟩
 intro a64 wd64 hN_64 hD_64 hO hR hA hU
 obtain ⟨t57, _⟩ := hA
 have hE_64 := hE_63.trans hR
 have s1_64 := (hO 1 rfl).trans s1_62
 have s2_64 := (hO 2 rfl).trans s2_62
 have s6_64 := (hO 6 rfl).trans s6_62
 have s8_64 := (hO 8 rfl).trans s8_62
 have s47_64 := (hO 47 rfl).trans s47_62
 have hbb1_64 := hbb1_63.ext' hR
 have hbb2_64 := hbb2_63.ext' hR
 have hbb6_64 := hbb6_63.ext' hR
 have s57_64 : get a64 57 = i64 ((2 : Nat) : Int) := t57
 clear hE_63 hN_62 hD_62 s1_62 s2_62 s6_62 s8_62 s47_62 s55_62 s56_62 hbb1_63 hbb2_63 hbb6_63
 refine tail_put rfl rfl hN_64 hD_64 (by decide) (does_move (V := i64 ((2 : Nat) : Int)) s57_64 (fun a65 hN_65 hD_65 hv hO => ?_))
 have s47_65 := hv
 have s1_65 := (hO 1 rfl).trans s1_64
 have s2_65 := (hO 2 rfl).trans s2_64
 have s6_65 := (hO 6 rfl).trans s6_64
 have s8_65 := (hO 8 rfl).trans s8_64
 clear hO hv hN_64 hD_64 s1_64 s2_64 s6_64 s8_64 s57_64 s47_64
 refine tail_nil ?_
 refine round_step ?_
 refine wp_seq ?_
 refine region_lex [] [(48, Pr.ex (Value.bool (true)))] 1 hN_65 hD_65 (by kernel_rfl) (by kernel_rfl) ?_ ?_
 refine Asks.cons ?_ (Asks.zero _)
 exact Ask.plain rfl rfl fun aq wq hNq hO hR hT => does_lss (a := ((2 : Nat) : Int)) (b := ((8 : Nat) : Int)) ((hO 47 rfl).trans s47_65) rfl ⟨Ext.refl _, rfl⟩
 intro a66 wd66 hN_66 hD_66 hO hR hA hU
 obtain ⟨t48, _⟩ := hA
 have hE_66 := hE_64.trans hR
 have s1_66 := (hO 1 rfl).trans s1_65
 have s2_66 := (hO 2 rfl).trans s2_65
 have s6_66 := (hO 6 rfl).trans s6_65
 have s8_66 := (hO 8 rfl).trans s8_65
 have s47_66 := (hO 47 rfl).trans s47_65
 have hbb1_66 := hbb1_64.ext' hR
 have hbb2_66 := hbb2_64.ext' hR
 have hbb6_66 := hbb6_64.ext' hR
 have s48_66 : get a66 48 = Value.bool (true) := t48
 clear hE_64 hN_65 hD_65 s1_65 s2_65 s6_65 s8_65 s47_65 hbb1_64 hbb2_64 hbb6_64
 refine tail_nil ?_
 refine wp_seq ?_
 refine wp_ifT s48_66 ?_
 refine wp_skip ?_
 refine wp_seq ?_
 refine wp_block ?_
 refine wp_seq ?_
 refine region_lex [] [(49, Pr.ex (i64 ((2 : Nat) : Int))), (7, Pr.ex (i64 ((2 : Nat) : Int)))] 2 hN_66 hD_66 (by kernel_rfl) (by kernel_rfl) ?_ ?_
 refine Asks.cons ?_ (Asks.cons ?_ (Asks.zero _))
 exact Ask.plain rfl rfl fun aq wq hNq hO hR hT => does_move (V := i64 ((2 : Nat) : Int)) ((hO 47 rfl).trans s47_66) ⟨Ext.refl _, rfl⟩
 exact Ask.plain rfl rfl fun aq wq hNq hO hR hT => does_assign (V := i64 ((2 : Nat) : Int)) (hT 49 rfl rfl) ⟨Ext.refl _, rfl⟩
 intro a67 wd67 hN_67 hD_67 hO hR hA hU
 obtain ⟨_, t7, _⟩ := hA
 have hE_67 := hE_66.trans hR
 have s1_67 := (hO 1 rfl).trans s1_66
 have s2_67 := (hO 2 rfl).trans s2_66
 have s6_67 := (hO 6 rfl).trans s6_66
 have s8_67 := (hO 8 rfl).trans s8_66
 have s47_67 := (hO 47 rfl).trans s47_66
 have hbb1_67 := hbb1_66.ext' hR
 have hbb2_67 := hbb2_66.ext' hR
 have hbb6_67 := hbb6_66.ext' hR
 have s7_67 : get a67 7 = i64 ((2 : Nat) : Int) := t7
 clear hE_66 hN_66 hD_66 s1_66 s2_66 s6_66 s8_66 s47_66 s48_66 hbb1_66 hbb2_66 hbb6_66
 refine tail_nil ?_
 refine region_lex [] [(50, Pr.ex (i64 ((2 : Nat) : Int))), (51, Pr.ex (i64 ((2 : Nat) : Int))), (52, Pr.ex (i64 ((5 : Nat) : Int))), (53, Pr.ex (i64 ((5 : Nat) : Int))), (54, Pr.ex (Value.pointer (some ⟨b6, 5, none⟩))), (55, Pr.ex (w32 (v27))), (56, Pr.ex (Value.pointer (some ⟨b1, 2, none⟩)))] 7 hN_67 hD_67 (by kernel_rfl) (by kernel_rfl) ?_ ?_
 refine Asks.cons ?_ (Asks.cons ?_ (Asks.cons ?_ (Asks.cons ?_ (Asks.cons ?_ (Asks.cons ?_ (Asks.cons ?_ (Asks.zero _)))))))
 exact Ask.plain rfl rfl fun aq wq hNq hO hR hT => does_move (V := i64 ((2 : Nat) : Int)) ((hO 7 rfl).trans s7_67) ⟨Ext.refl _, rfl⟩
 exact Ask.plain rfl rfl fun aq wq hNq hO hR hT => does_move (V := i64 ((2 : Nat) : Int)) ((hO 7 rfl).trans s7_67) ⟨Ext.refl _, rfl⟩
 exact Ask.plain rfl rfl fun aq wq hNq hO hR hT => does_add (a := ((2 : Nat) : Int)) (b := ((3 : Nat) : Int)) (r := ((5 : Nat) : Int)) (hT 51 rfl rfl) rfl (by decide) (by decide) (by decide) ⟨Ext.refl _, rfl⟩
 exact Ask.plain rfl rfl fun aq wq hNq hO hR hT => does_rem (k := .i64) (a := ((5 : Nat) : Int)) (b := ((8 : Nat) : Int)) (r := ((5 : Nat) : Int)) (hT 52 rfl rfl) rfl (by decide) (by decide) (by decide) ⟨Ext.refl _, rfl⟩
 exact Ask.plain rfl rfl fun aq wq hNq hO hR hT => does_indexArr (k := .i64) (i := 5) (o' := 5) arr_83 ((hO 6 rfl).trans s6_67) (hT 53 rfl rfl) (by decide) (by decide) rfl ⟨Ext.refl _, rfl⟩
 exact Ask.plain rfl rfl fun aq wq hNq hO hR hT => does_loadD1 (o := 5) (V := w32 (v27)) (hT 54 rfl rfl) (hbb6_67.ext' hR) rfl one_22 ⟨Ext.refl _, rfl⟩
 exact Ask.plain rfl rfl fun aq wq hNq hO hR hT => does_indexArr (k := .i64) (i := 2) (o' := 2) arr_83 ((hO 1 rfl).trans s1_67) (hT 50 rfl rfl) (by decide) (by decide) rfl ⟨Ext.refl _, rfl⟩
 intro a68 wd68 hN_68 hD_68 hO hR hA hU
 obtain ⟨_, _, _, _, _, t55, t56, _⟩ := hA
 have hE_68 := hE_67.trans hR
 have s1_68 := (hO 1 rfl).trans s1_67
 have s2_68 := (hO 2 rfl).trans s2_67
 have s6_68 := (hO 6 rfl).trans s6_67
 have s8_68 := (hO 8 rfl).trans s8_67
 have s47_68 := (hO 47 rfl).trans s47_67
 have hbb1_68 := hbb1_67.ext' hR
 have hbb2_68 := hbb2_67.ext' hR
 have hbb6_68 := hbb6_67.ext' hR
 have s55_68 : get a68 55 = w32 (v27) := t55
 have s56_68 : get a68 56 = Value.pointer (some ⟨b1, 2, none⟩) := t56
 clear hE_67 hN_67 hD_67 s1_67 s2_67 s6_67 s7_67 s8_67 s47_67 hbb1_67 hbb2_67 hbb6_67
 refine tail_none rfl rfl (does_storeD (o := 2) (n := 1) (cs' := [w32 (v44), w32 (v17), w32 (v27), w32 (v44), w32 (v17), w32 (v27), w32 (v37), w32 (v47)]) (V := w32 (v27)) s56_68 s55_68 hbb1_68 (Nat.le_of_ble_eq_true rfl) rfl siz_22 rfl rfl (fun wd69 hX hz hbb1_69 => ?_))
 have hE_69 := hE_68.since hX (fun k e => e ▸ fr_b1)
 have hbb2_69 := hbb2_68.ext hX ne_b1_b2.symm
 have hbb6_69 := hbb6_68.ext hX ne_b1_b6.symm
 clear hX hz hE_68 hbb1_68 hbb2_68 hbb6_68
 refine tail_nil ?_
 refine region_lex [] [(57, Pr.ex (i64 ((3 : Nat) : Int)))] 1 hN_68 hD_68 (by kernel_rfl) (by kernel_rfl) ?_ ?_
 refine Asks.cons ?_ (Asks.zero _)
 exact Ask.plain rfl rfl fun aq wq hNq hO hR hT => does_add (a := ((2 : Nat) : Int)) (b := ((1 : Nat) : Int)) (r := ((3 : Nat) : Int)) ((hO 47 rfl).trans s47_68) rfl (by decide) (by decide) (by decide) ⟨Ext.refl _, rfl⟩
 intro a70 wd70 hN_70 hD_70 hO hR hA hU
 obtain ⟨t57, _⟩ := hA
 have hE_70 := hE_69.trans hR
 have s1_70 := (hO 1 rfl).trans s1_68
 have s2_70 := (hO 2 rfl).trans s2_68
 have s6_70 := (hO 6 rfl).trans s6_68
 have s8_70 := (hO 8 rfl).trans s8_68
 have s47_70 := (hO 47 rfl).trans s47_68
 have hbb1_70 := hbb1_69.ext' hR
 have hbb2_70 := hbb2_69.ext' hR
 have hbb6_70 := hbb6_69.ext' hR
 have s57_70 : get a70 57 = i64 ((3 : Nat) : Int) := t57
 clear hE_69 hN_68 hD_68 s1_68 s2_68 s6_68 s8_68 s47_68 s55_68 s56_68 hbb1_69 hbb2_69 hbb6_69
 refine tail_put rfl rfl hN_70 hD_70 (by decide) (does_move (V := i64 ((3 : Nat) : Int)) s57_70 (fun a71 hN_71 hD_71 hv hO => ?_))
 have s47_71 := hv
 have s1_71 := (hO 1 rfl).trans s1_70
 have s2_71 := (hO 2 rfl).trans s2_70
 have s6_71 := (hO 6 rfl).trans s6_70
 have s8_71 := (hO 8 rfl).trans s8_70
 clear hO hv hN_70 hD_70 s1_70 s2_70 s6_70 s8_70 s57_70 s47_70
 refine tail_nil ?_
 refine round_step ?_
 refine wp_seq ?_
 refine region_lex [] [(48, Pr.ex (Value.bool (true)))] 1 hN_71 hD_71 (by kernel_rfl) (by kernel_rfl) ?_ ?_
 refine Asks.cons ?_ (Asks.zero _)
 exact Ask.plain rfl rfl fun aq wq hNq hO hR hT => does_lss (a := ((3 : Nat) : Int)) (b := ((8 : Nat) : Int)) ((hO 47 rfl).trans s47_71) rfl ⟨Ext.refl _, rfl⟩
 intro a72 wd72 hN_72 hD_72 hO hR hA hU
 obtain ⟨t48, _⟩ := hA
 have hE_72 := hE_70.trans hR
 have s1_72 := (hO 1 rfl).trans s1_71
 have s2_72 := (hO 2 rfl).trans s2_71
 have s6_72 := (hO 6 rfl).trans s6_71
 have s8_72 := (hO 8 rfl).trans s8_71
 have s47_72 := (hO 47 rfl).trans s47_71
 have hbb1_72 := hbb1_70.ext' hR
 have hbb2_72 := hbb2_70.ext' hR
 have hbb6_72 := hbb6_70.ext' hR
 have s48_72 : get a72 48 = Value.bool (true) := t48
 clear hE_70 hN_71 hD_71 s1_71 s2_71 s6_71 s8_71 s47_71 hbb1_70 hbb2_70 hbb6_70
 refine tail_nil ?_
 refine wp_seq ?_
 refine wp_ifT s48_72 ?_
 refine wp_skip ?_
 refine wp_seq ?_
 refine wp_block ?_
 refine wp_seq ?_
 refine region_lex [] [(49, Pr.ex (i64 ((3 : Nat) : Int))), (7, Pr.ex (i64 ((3 : Nat) : Int)))] 2 hN_72 hD_72 (by kernel_rfl) (by kernel_rfl) ?_ ?_
 refine Asks.cons ?_ (Asks.cons ?_ (Asks.zero _))
 exact Ask.plain rfl rfl fun aq wq hNq hO hR hT => does_move (V := i64 ((3 : Nat) : Int)) ((hO 47 rfl).trans s47_72) ⟨Ext.refl _, rfl⟩
 exact Ask.plain rfl rfl fun aq wq hNq hO hR hT => does_assign (V := i64 ((3 : Nat) : Int)) (hT 49 rfl rfl) ⟨Ext.refl _, rfl⟩
 intro a73 wd73 hN_73 hD_73 hO hR hA hU
 obtain ⟨_, t7, _⟩ := hA
 have hE_73 := hE_72.trans hR
 have s1_73 := (hO 1 rfl).trans s1_72
 have s2_73 := (hO 2 rfl).trans s2_72
 have s6_73 := (hO 6 rfl).trans s6_72
 have s8_73 := (hO 8 rfl).trans s8_72
 have s47_73 := (hO 47 rfl).trans s47_72
 have hbb1_73 := hbb1_72.ext' hR
 have hbb2_73 := hbb2_72.ext' hR
 have hbb6_73 := hbb6_72.ext' hR
 have s7_73 : get a73 7 = i64 ((3 : Nat) : Int) := t7
 clear hE_72 hN_72 hD_72 s1_72 s2_72 s6_72 s8_72 s47_72 s48_72 hbb1_72 hbb2_72 hbb6_72
 refine tail_nil ?_
 refine region_lex [] [(50, Pr.ex (i64 ((3 : Nat) : Int))), (51, Pr.ex (i64 ((3 : Nat) : Int))), (52, Pr.ex (i64 ((6 : Nat) : Int))), (53, Pr.ex (i64 ((6 : Nat) : Int))), (54, Pr.ex (Value.pointer (some ⟨b6, 6, none⟩))), (55, Pr.ex (w32 (v37))), (56, Pr.ex (Value.pointer (some ⟨b1, 3, none⟩)))] 7 hN_73 hD_73 (by kernel_rfl) (by kernel_rfl) ?_ ?_
 refine Asks.cons ?_ (Asks.cons ?_ (Asks.cons ?_ (Asks.cons ?_ (Asks.cons ?_ (Asks.cons ?_ (Asks.cons ?_ (Asks.zero _)))))))
 exact Ask.plain rfl rfl fun aq wq hNq hO hR hT => does_move (V := i64 ((3 : Nat) : Int)) ((hO 7 rfl).trans s7_73) ⟨Ext.refl _, rfl⟩
 exact Ask.plain rfl rfl fun aq wq hNq hO hR hT => does_move (V := i64 ((3 : Nat) : Int)) ((hO 7 rfl).trans s7_73) ⟨Ext.refl _, rfl⟩
 exact Ask.plain rfl rfl fun aq wq hNq hO hR hT => does_add (a := ((3 : Nat) : Int)) (b := ((3 : Nat) : Int)) (r := ((6 : Nat) : Int)) (hT 51 rfl rfl) rfl (by decide) (by decide) (by decide) ⟨Ext.refl _, rfl⟩
 exact Ask.plain rfl rfl fun aq wq hNq hO hR hT => does_rem (k := .i64) (a := ((6 : Nat) : Int)) (b := ((8 : Nat) : Int)) (r := ((6 : Nat) : Int)) (hT 52 rfl rfl) rfl (by decide) (by decide) (by decide) ⟨Ext.refl _, rfl⟩
 exact Ask.plain rfl rfl fun aq wq hNq hO hR hT => does_indexArr (k := .i64) (i := 6) (o' := 6) arr_83 ((hO 6 rfl).trans s6_73) (hT 53 rfl rfl) (by decide) (by decide) rfl ⟨Ext.refl _, rfl⟩
 exact Ask.plain rfl rfl fun aq wq hNq hO hR hT => does_loadD1 (o := 6) (V := w32 (v37)) (hT 54 rfl rfl) (hbb6_73.ext' hR) rfl one_22 ⟨Ext.refl _, rfl⟩
 exact Ask.plain rfl rfl fun aq wq hNq hO hR hT => does_indexArr (k := .i64) (i := 3) (o' := 3) arr_83 ((hO 1 rfl).trans s1_73) (hT 50 rfl rfl) (by decide) (by decide) rfl ⟨Ext.refl _, rfl⟩
 intro a74 wd74 hN_74 hD_74 hO hR hA hU
 obtain ⟨_, _, _, _, _, t55, t56, _⟩ := hA
 have hE_74 := hE_73.trans hR
 have s1_74 := (hO 1 rfl).trans s1_73
 have s2_74 := (hO 2 rfl).trans s2_73
 have s6_74 := (hO 6 rfl).trans s6_73
 have s8_74 := (hO 8 rfl).trans s8_73
 have s47_74 := (hO 47 rfl).trans s47_73
 have hbb1_74 := hbb1_73.ext' hR
 have hbb2_74 := hbb2_73.ext' hR
 have hbb6_74 := hbb6_73.ext' hR
 have s55_74 : get a74 55 = w32 (v37) := t55
 have s56_74 : get a74 56 = Value.pointer (some ⟨b1, 3, none⟩) := t56
 clear hE_73 hN_73 hD_73 s1_73 s2_73 s6_73 s7_73 s8_73 s47_73 hbb1_73 hbb2_73 hbb6_73
 refine tail_none rfl rfl (does_storeD (o := 3) (n := 1) (cs' := [w32 (v44), w32 (v17), w32 (v27), w32 (v37), w32 (v17), w32 (v27), w32 (v37), w32 (v47)]) (V := w32 (v37)) s56_74 s55_74 hbb1_74 (Nat.le_of_ble_eq_true rfl) rfl siz_22 rfl rfl (fun wd75 hX hz hbb1_75 => ?_))
 have hE_75 := hE_74.since hX (fun k e => e ▸ fr_b1)
 have hbb2_75 := hbb2_74.ext hX ne_b1_b2.symm
 have hbb6_75 := hbb6_74.ext hX ne_b1_b6.symm
 clear hX hz hE_74 hbb1_74 hbb2_74 hbb6_74
 refine tail_nil ?_
 refine region_lex [] [(57, Pr.ex (i64 ((4 : Nat) : Int)))] 1 hN_74 hD_74 (by kernel_rfl) (by kernel_rfl) ?_ ?_
 refine Asks.cons ?_ (Asks.zero _)
 exact Ask.plain rfl rfl fun aq wq hNq hO hR hT => does_add (a := ((3 : Nat) : Int)) (b := ((1 : Nat) : Int)) (r := ((4 : Nat) : Int)) ((hO 47 rfl).trans s47_74) rfl (by decide) (by decide) (by decide) ⟨Ext.refl _, rfl⟩
 intro a76 wd76 hN_76 hD_76 hO hR hA hU
 obtain ⟨t57, _⟩ := hA
 have hE_76 := hE_75.trans hR
 have s1_76 := (hO 1 rfl).trans s1_74
 have s2_76 := (hO 2 rfl).trans s2_74
 have s6_76 := (hO 6 rfl).trans s6_74
 have s8_76 := (hO 8 rfl).trans s8_74
 have s47_76 := (hO 47 rfl).trans s47_74
 have hbb1_76 := hbb1_75.ext' hR
 have hbb2_76 := hbb2_75.ext' hR
 have hbb6_76 := hbb6_75.ext' hR
 have s57_76 : get a76 57 = i64 ((4 : Nat) : Int) := t57
 clear hE_75 hN_74 hD_74 s1_74 s2_74 s6_74 s8_74 s47_74 s55_74 s56_74 hbb1_75 hbb2_75 hbb6_75
 refine tail_put rfl rfl hN_76 hD_76 (by decide) (does_move (V := i64 ((4 : Nat) : Int)) s57_76 (fun a77 hN_77 hD_77 hv hO => ?_))
 have s47_77 := hv
 have s1_77 := (hO 1 rfl).trans s1_76
 have s2_77 := (hO 2 rfl).trans s2_76
 have s6_77 := (hO 6 rfl).trans s6_76
 have s8_77 := (hO 8 rfl).trans s8_76
 clear hO hv hN_76 hD_76 s1_76 s2_76 s6_76 s8_76 s57_76 s47_76
 refine tail_nil ?_
 refine round_step ?_
 refine wp_seq ?_
 refine region_lex [] [(48, Pr.ex (Value.bool (true)))] 1 hN_77 hD_77 (by kernel_rfl) (by kernel_rfl) ?_ ?_
 refine Asks.cons ?_ (Asks.zero _)
 exact Ask.plain rfl rfl fun aq wq hNq hO hR hT => does_lss (a := ((4 : Nat) : Int)) (b := ((8 : Nat) : Int)) ((hO 47 rfl).trans s47_77) rfl ⟨Ext.refl _, rfl⟩
 intro a78 wd78 hN_78 hD_78 hO hR hA hU
 obtain ⟨t48, _⟩ := hA
 have hE_78 := hE_76.trans hR
 have s1_78 := (hO 1 rfl).trans s1_77
 have s2_78 := (hO 2 rfl).trans s2_77
 have s6_78 := (hO 6 rfl).trans s6_77
 have s8_78 := (hO 8 rfl).trans s8_77
 have s47_78 := (hO 47 rfl).trans s47_77
 have hbb1_78 := hbb1_76.ext' hR
 have hbb2_78 := hbb2_76.ext' hR
 have hbb6_78 := hbb6_76.ext' hR
 have s48_78 : get a78 48 = Value.bool (true) := t48
 clear hE_76 hN_77 hD_77 s1_77 s2_77 s6_77 s8_77 s47_77 hbb1_76 hbb2_76 hbb6_76
 refine tail_nil ?_
 refine wp_seq ?_
 refine wp_ifT s48_78 ?_
 refine wp_skip ?_
 refine wp_seq ?_
 refine wp_block ?_
 refine wp_seq ?_
 refine region_lex [] [(49, Pr.ex (i64 ((4 : Nat) : Int))), (7, Pr.ex (i64 ((4 : Nat) : Int)))] 2 hN_78 hD_78 (by kernel_rfl) (by kernel_rfl) ?_ ?_
 refine Asks.cons ?_ (Asks.cons ?_ (Asks.zero _))
 exact Ask.plain rfl rfl fun aq wq hNq hO hR hT => does_move (V := i64 ((4 : Nat) : Int)) ((hO 47 rfl).trans s47_78) ⟨Ext.refl _, rfl⟩
 exact Ask.plain rfl rfl fun aq wq hNq hO hR hT => does_assign (V := i64 ((4 : Nat) : Int)) (hT 49 rfl rfl) ⟨Ext.refl _, rfl⟩
 intro a79 wd79 hN_79 hD_79 hO hR hA hU
 obtain ⟨_, t7, _⟩ := hA
 have hE_79 := hE_78.trans hR
 have s1_79 := (hO 1 rfl).trans s1_78
 have s2_79 := (hO 2 rfl).trans s2_78
 have s6_79 := (hO 6 rfl).trans s6_78
 have s8_79 := (hO 8 rfl).trans s8_78
 have s47_79 := (hO 47 rfl).trans s47_78
 have hbb1_79 := hbb1_78.ext' hR
 have hbb2_79 := hbb2_78.ext' hR
 have hbb6_79 := hbb6_78.ext' hR
 have s7_79 : get a79 7 = i64 ((4 : Nat) : Int) := t7
 clear hE_78 hN_78 hD_78 s1_78 s2_78 s6_78 s8_78 s47_78 s48_78 hbb1_78 hbb2_78 hbb6_78
 refine tail_nil ?_
 refine region_lex [] [(50, Pr.ex (i64 ((4 : Nat) : Int))), (51, Pr.ex (i64 ((4 : Nat) : Int))), (52, Pr.ex (i64 ((7 : Nat) : Int))), (53, Pr.ex (i64 ((7 : Nat) : Int))), (54, Pr.ex (Value.pointer (some ⟨b6, 7, none⟩))), (55, Pr.ex (w32 (v47))), (56, Pr.ex (Value.pointer (some ⟨b1, 4, none⟩)))] 7 hN_79 hD_79 (by kernel_rfl) (by kernel_rfl) ?_ ?_
 refine Asks.cons ?_ (Asks.cons ?_ (Asks.cons ?_ (Asks.cons ?_ (Asks.cons ?_ (Asks.cons ?_ (Asks.cons ?_ (Asks.zero _)))))))
 exact Ask.plain rfl rfl fun aq wq hNq hO hR hT => does_move (V := i64 ((4 : Nat) : Int)) ((hO 7 rfl).trans s7_79) ⟨Ext.refl _, rfl⟩
 exact Ask.plain rfl rfl fun aq wq hNq hO hR hT => does_move (V := i64 ((4 : Nat) : Int)) ((hO 7 rfl).trans s7_79) ⟨Ext.refl _, rfl⟩
 exact Ask.plain rfl rfl fun aq wq hNq hO hR hT => does_add (a := ((4 : Nat) : Int)) (b := ((3 : Nat) : Int)) (r := ((7 : Nat) : Int)) (hT 51 rfl rfl) rfl (by decide) (by decide) (by decide) ⟨Ext.refl _, rfl⟩
 exact Ask.plain rfl rfl fun aq wq hNq hO hR hT => does_rem (k := .i64) (a := ((7 : Nat) : Int)) (b := ((8 : Nat) : Int)) (r := ((7 : Nat) : Int)) (hT 52 rfl rfl) rfl (by decide) (by decide) (by decide) ⟨Ext.refl _, rfl⟩
 exact Ask.plain rfl rfl fun aq wq hNq hO hR hT => does_indexArr (k := .i64) (i := 7) (o' := 7) arr_83 ((hO 6 rfl).trans s6_79) (hT 53 rfl rfl) (by decide) (by decide) rfl ⟨Ext.refl _, rfl⟩
 exact Ask.plain rfl rfl fun aq wq hNq hO hR hT => does_loadD1 (o := 7) (V := w32 (v47)) (hT 54 rfl rfl) (hbb6_79.ext' hR) rfl one_22 ⟨Ext.refl _, rfl⟩
 exact Ask.plain rfl rfl fun aq wq hNq hO hR hT => does_indexArr (k := .i64) (i := 4) (o' := 4) arr_83 ((hO 1 rfl).trans s1_79) (hT 50 rfl rfl) (by decide) (by decide) rfl ⟨Ext.refl _, rfl⟩
 intro a80 wd80 hN_80 hD_80 hO hR hA hU
 obtain ⟨_, _, _, _, _, t55, t56, _⟩ := hA
 have hE_80 := hE_79.trans hR
 have s1_80 := (hO 1 rfl).trans s1_79
 have s2_80 := (hO 2 rfl).trans s2_79
 have s6_80 := (hO 6 rfl).trans s6_79
 have s8_80 := (hO 8 rfl).trans s8_79
 have s47_80 := (hO 47 rfl).trans s47_79
 have hbb1_80 := hbb1_79.ext' hR
 have hbb2_80 := hbb2_79.ext' hR
 have hbb6_80 := hbb6_79.ext' hR
 have s55_80 : get a80 55 = w32 (v47) := t55
 have s56_80 : get a80 56 = Value.pointer (some ⟨b1, 4, none⟩) := t56
 clear hE_79 hN_79 hD_79 s1_79 s2_79 s6_79 s7_79 s8_79 s47_79 hbb1_79 hbb2_79 hbb6_79
 refine tail_none rfl rfl (does_storeD (o := 4) (n := 1) (cs' := [w32 (v44), w32 (v17), w32 (v27), w32 (v37), w32 (v47), w32 (v27), w32 (v37), w32 (v47)]) (V := w32 (v47)) s56_80 s55_80 hbb1_80 (Nat.le_of_ble_eq_true rfl) rfl siz_22 rfl rfl (fun wd81 hX hz hbb1_81 => ?_))
 have hE_81 := hE_80.since hX (fun k e => e ▸ fr_b1)
 have hbb2_81 := hbb2_80.ext hX ne_b1_b2.symm
 have hbb6_81 := hbb6_80.ext hX ne_b1_b6.symm
 clear hX hz hE_80 hbb1_80 hbb2_80 hbb6_80
 refine tail_nil ?_
 refine region_lex [] [(57, Pr.ex (i64 ((5 : Nat) : Int)))] 1 hN_80 hD_80 (by kernel_rfl) (by kernel_rfl) ?_ ?_
 refine Asks.cons ?_ (Asks.zero _)
 exact Ask.plain rfl rfl fun aq wq hNq hO hR hT => does_add (a := ((4 : Nat) : Int)) (b := ((1 : Nat) : Int)) (r := ((5 : Nat) : Int)) ((hO 47 rfl).trans s47_80) rfl (by decide) (by decide) (by decide) ⟨Ext.refl _, rfl⟩
 intro a82 wd82 hN_82 hD_82 hO hR hA hU
 obtain ⟨t57, _⟩ := hA
 have hE_82 := hE_81.trans hR
 have s1_82 := (hO 1 rfl).trans s1_80
 have s2_82 := (hO 2 rfl).trans s2_80
 have s6_82 := (hO 6 rfl).trans s6_80
 have s8_82 := (hO 8 rfl).trans s8_80
 have s47_82 := (hO 47 rfl).trans s47_80
 have hbb1_82 := hbb1_81.ext' hR
 have hbb2_82 := hbb2_81.ext' hR
 have hbb6_82 := hbb6_81.ext' hR
 have s57_82 : get a82 57 = i64 ((5 : Nat) : Int) := t57
 clear hE_81 hN_80 hD_80 s1_80 s2_80 s6_80 s8_80 s47_80 s55_80 s56_80 hbb1_81 hbb2_81 hbb6_81
 refine tail_put rfl rfl hN_82 hD_82 (by decide) (does_move (V := i64 ((5 : Nat) : Int)) s57_82 (fun a83 hN_83 hD_83 hv hO => ?_))
 have s47_83 := hv
 have s1_83 := (hO 1 rfl).trans s1_82
 have s2_83 := (hO 2 rfl).trans s2_82
 have s6_83 := (hO 6 rfl).trans s6_82
 have s8_83 := (hO 8 rfl).trans s8_82
 clear hO hv hN_82 hD_82 s1_82 s2_82 s6_82 s8_82 s57_82 s47_82
 refine tail_nil ?_
 refine round_step ?_
 refine wp_seq ?_
 refine region_lex [] [(48, Pr.ex (Value.bool (true)))] 1 hN_83 hD_83 (by kernel_rfl) (by kernel_rfl) ?_ ?_
 refine Asks.cons ?_ (Asks.zero _)
 exact Ask.plain rfl rfl fun aq wq hNq hO hR hT => does_lss (a := ((5 : Nat) : Int)) (b := ((8 : Nat) : Int)) ((hO 47 rfl).trans s47_83) rfl ⟨Ext.refl _, rfl⟩
 intro a84 wd84 hN_84 hD_84 hO hR hA hU
 obtain ⟨t48, _⟩ := hA
 have hE_84 := hE_82.trans hR
 have s1_84 := (hO 1 rfl).trans s1_83
 have s2_84 := (hO 2 rfl).trans s2_83
 have s6_84 := (hO 6 rfl).trans s6_83
 have s8_84 := (hO 8 rfl).trans s8_83
 have s47_84 := (hO 47 rfl).trans s47_83
 have hbb1_84 := hbb1_82.ext' hR
 have hbb2_84 := hbb2_82.ext' hR
 have hbb6_84 := hbb6_82.ext' hR
 have s48_84 : get a84 48 = Value.bool (true) := t48
 clear hE_82 hN_83 hD_83 s1_83 s2_83 s6_83 s8_83 s47_83 hbb1_82 hbb2_82 hbb6_82
 refine tail_nil ?_
 refine wp_seq ?_
 refine wp_ifT s48_84 ?_
 refine wp_skip ?_
 refine wp_seq ?_
 refine wp_block ?_
 refine wp_seq ?_
 refine region_lex [] [(49, Pr.ex (i64 ((5 : Nat) : Int))), (7, Pr.ex (i64 ((5 : Nat) : Int)))] 2 hN_84 hD_84 (by kernel_rfl) (by kernel_rfl) ?_ ?_
 refine Asks.cons ?_ (Asks.cons ?_ (Asks.zero _))
 exact Ask.plain rfl rfl fun aq wq hNq hO hR hT => does_move (V := i64 ((5 : Nat) : Int)) ((hO 47 rfl).trans s47_84) ⟨Ext.refl _, rfl⟩
 exact Ask.plain rfl rfl fun aq wq hNq hO hR hT => does_assign (V := i64 ((5 : Nat) : Int)) (hT 49 rfl rfl) ⟨Ext.refl _, rfl⟩
 intro a85 wd85 hN_85 hD_85 hO hR hA hU
 obtain ⟨_, t7, _⟩ := hA
 have hE_85 := hE_84.trans hR
 have s1_85 := (hO 1 rfl).trans s1_84
 have s2_85 := (hO 2 rfl).trans s2_84
 have s6_85 := (hO 6 rfl).trans s6_84
 have s8_85 := (hO 8 rfl).trans s8_84
 have s47_85 := (hO 47 rfl).trans s47_84
 have hbb1_85 := hbb1_84.ext' hR
 have hbb2_85 := hbb2_84.ext' hR
 have hbb6_85 := hbb6_84.ext' hR
 have s7_85 : get a85 7 = i64 ((5 : Nat) : Int) := t7
 clear hE_84 hN_84 hD_84 s1_84 s2_84 s6_84 s8_84 s47_84 s48_84 hbb1_84 hbb2_84 hbb6_84
 refine tail_nil ?_
 refine region_lex [] [(50, Pr.ex (i64 ((5 : Nat) : Int))), (51, Pr.ex (i64 ((5 : Nat) : Int))), (52, Pr.ex (i64 ((8 : Nat) : Int))), (53, Pr.ex (i64 ((0 : Nat) : Int))), (54, Pr.ex (Value.pointer (some ⟨b6, 0, none⟩))), (55, Pr.ex (w32 (v14))), (56, Pr.ex (Value.pointer (some ⟨b1, 5, none⟩)))] 7 hN_85 hD_85 (by kernel_rfl) (by kernel_rfl) ?_ ?_
 refine Asks.cons ?_ (Asks.cons ?_ (Asks.cons ?_ (Asks.cons ?_ (Asks.cons ?_ (Asks.cons ?_ (Asks.cons ?_ (Asks.zero _)))))))
 exact Ask.plain rfl rfl fun aq wq hNq hO hR hT => does_move (V := i64 ((5 : Nat) : Int)) ((hO 7 rfl).trans s7_85) ⟨Ext.refl _, rfl⟩
 exact Ask.plain rfl rfl fun aq wq hNq hO hR hT => does_move (V := i64 ((5 : Nat) : Int)) ((hO 7 rfl).trans s7_85) ⟨Ext.refl _, rfl⟩
 exact Ask.plain rfl rfl fun aq wq hNq hO hR hT => does_add (a := ((5 : Nat) : Int)) (b := ((3 : Nat) : Int)) (r := ((8 : Nat) : Int)) (hT 51 rfl rfl) rfl (by decide) (by decide) (by decide) ⟨Ext.refl _, rfl⟩
 exact Ask.plain rfl rfl fun aq wq hNq hO hR hT => does_rem (k := .i64) (a := ((8 : Nat) : Int)) (b := ((8 : Nat) : Int)) (r := ((0 : Nat) : Int)) (hT 52 rfl rfl) rfl (by decide) (by decide) (by decide) ⟨Ext.refl _, rfl⟩
 exact Ask.plain rfl rfl fun aq wq hNq hO hR hT => does_indexArr (k := .i64) (i := 0) (o' := 0) arr_83 ((hO 6 rfl).trans s6_85) (hT 53 rfl rfl) (by decide) (by decide) rfl ⟨Ext.refl _, rfl⟩
 exact Ask.plain rfl rfl fun aq wq hNq hO hR hT => does_loadD1 (o := 0) (V := w32 (v14)) (hT 54 rfl rfl) (hbb6_85.ext' hR) rfl one_22 ⟨Ext.refl _, rfl⟩
 exact Ask.plain rfl rfl fun aq wq hNq hO hR hT => does_indexArr (k := .i64) (i := 5) (o' := 5) arr_83 ((hO 1 rfl).trans s1_85) (hT 50 rfl rfl) (by decide) (by decide) rfl ⟨Ext.refl _, rfl⟩
 intro a86 wd86 hN_86 hD_86 hO hR hA hU
 obtain ⟨_, _, _, _, _, t55, t56, _⟩ := hA
 have hE_86 := hE_85.trans hR
 have s1_86 := (hO 1 rfl).trans s1_85
 have s2_86 := (hO 2 rfl).trans s2_85
 have s6_86 := (hO 6 rfl).trans s6_85
 have s8_86 := (hO 8 rfl).trans s8_85
 have s47_86 := (hO 47 rfl).trans s47_85
 have hbb1_86 := hbb1_85.ext' hR
 have hbb2_86 := hbb2_85.ext' hR
 have hbb6_86 := hbb6_85.ext' hR
 have s55_86 : get a86 55 = w32 (v14) := t55
 have s56_86 : get a86 56 = Value.pointer (some ⟨b1, 5, none⟩) := t56
 clear hE_85 hN_85 hD_85 s1_85 s2_85 s6_85 s7_85 s8_85 s47_85 hbb1_85 hbb2_85 hbb6_85
 refine tail_none rfl rfl (does_storeD (o := 5) (n := 1) (cs' := [w32 (v44), w32 (v17), w32 (v27), w32 (v37), w32 (v47), w32 (v14), w32 (v37), w32 (v47)]) (V := w32 (v14)) s56_86 s55_86 hbb1_86 (Nat.le_of_ble_eq_true rfl) rfl siz_22 rfl rfl (fun wd87 hX hz hbb1_87 => ?_))
 have hE_87 := hE_86.since hX (fun k e => e ▸ fr_b1)
 have hbb2_87 := hbb2_86.ext hX ne_b1_b2.symm
 have hbb6_87 := hbb6_86.ext hX ne_b1_b6.symm
 clear hX hz hE_86 hbb1_86 hbb2_86 hbb6_86
 refine tail_nil ?_
 refine region_lex [] [(57, Pr.ex (i64 ((6 : Nat) : Int)))] 1 hN_86 hD_86 (by kernel_rfl) (by kernel_rfl) ?_ ?_
 refine Asks.cons ?_ (Asks.zero _)
 exact Ask.plain rfl rfl fun aq wq hNq hO hR hT => does_add (a := ((5 : Nat) : Int)) (b := ((1 : Nat) : Int)) (r := ((6 : Nat) : Int)) ((hO 47 rfl).trans s47_86) rfl (by decide) (by decide) (by decide) ⟨Ext.refl _, rfl⟩
 intro a88 wd88 hN_88 hD_88 hO hR hA hU
 obtain ⟨t57, _⟩ := hA
 have hE_88 := hE_87.trans hR
 have s1_88 := (hO 1 rfl).trans s1_86
 have s2_88 := (hO 2 rfl).trans s2_86
 have s6_88 := (hO 6 rfl).trans s6_86
 have s8_88 := (hO 8 rfl).trans s8_86
 have s47_88 := (hO 47 rfl).trans s47_86
 have hbb1_88 := hbb1_87.ext' hR
 have hbb2_88 := hbb2_87.ext' hR
 have hbb6_88 := hbb6_87.ext' hR
 have s57_88 : get a88 57 = i64 ((6 : Nat) : Int) := t57
 clear hE_87 hN_86 hD_86 s1_86 s2_86 s6_86 s8_86 s47_86 s55_86 s56_86 hbb1_87 hbb2_87 hbb6_87
 refine tail_put rfl rfl hN_88 hD_88 (by decide) (does_move (V := i64 ((6 : Nat) : Int)) s57_88 (fun a89 hN_89 hD_89 hv hO => ?_))
 have s47_89 := hv
 have s1_89 := (hO 1 rfl).trans s1_88
 have s2_89 := (hO 2 rfl).trans s2_88
 have s6_89 := (hO 6 rfl).trans s6_88
 have s8_89 := (hO 8 rfl).trans s8_88
 clear hO hv hN_88 hD_88 s1_88 s2_88 s6_88 s8_88 s57_88 s47_88
 refine tail_nil ?_
 refine round_step ?_
 refine wp_seq ?_
 refine region_lex [] [(48, Pr.ex (Value.bool (true)))] 1 hN_89 hD_89 (by kernel_rfl) (by kernel_rfl) ?_ ?_
 refine Asks.cons ?_ (Asks.zero _)
 exact Ask.plain rfl rfl fun aq wq hNq hO hR hT => does_lss (a := ((6 : Nat) : Int)) (b := ((8 : Nat) : Int)) ((hO 47 rfl).trans s47_89) rfl ⟨Ext.refl _, rfl⟩
 intro a90 wd90 hN_90 hD_90 hO hR hA hU
 obtain ⟨t48, _⟩ := hA
 have hE_90 := hE_88.trans hR
 have s1_90 := (hO 1 rfl).trans s1_89
 have s2_90 := (hO 2 rfl).trans s2_89
 have s6_90 := (hO 6 rfl).trans s6_89
 have s8_90 := (hO 8 rfl).trans s8_89
 have s47_90 := (hO 47 rfl).trans s47_89
 have hbb1_90 := hbb1_88.ext' hR
 have hbb2_90 := hbb2_88.ext' hR
 have hbb6_90 := hbb6_88.ext' hR
 have s48_90 : get a90 48 = Value.bool (true) := t48
 clear hE_88 hN_89 hD_89 s1_89 s2_89 s6_89 s8_89 s47_89 hbb1_88 hbb2_88 hbb6_88
 refine tail_nil ?_
 refine wp_seq ?_
 refine wp_ifT s48_90 ?_
 refine wp_skip ?_
 refine wp_seq ?_
 refine wp_block ?_
 refine wp_seq ?_
 refine region_lex [] [(49, Pr.ex (i64 ((6 : Nat) : Int))), (7, Pr.ex (i64 ((6 : Nat) : Int)))] 2 hN_90 hD_90 (by kernel_rfl) (by kernel_rfl) ?_ ?_
 refine Asks.cons ?_ (Asks.cons ?_ (Asks.zero _))
 exact Ask.plain rfl rfl fun aq wq hNq hO hR hT => does_move (V := i64 ((6 : Nat) : Int)) ((hO 47 rfl).trans s47_90) ⟨Ext.refl _, rfl⟩
 exact Ask.plain rfl rfl fun aq wq hNq hO hR hT => does_assign (V := i64 ((6 : Nat) : Int)) (hT 49 rfl rfl) ⟨Ext.refl _, rfl⟩
 intro a91 wd91 hN_91 hD_91 hO hR hA hU
 obtain ⟨_, t7, _⟩ := hA
 have hE_91 := hE_90.trans hR
 have s1_91 := (hO 1 rfl).trans s1_90
 have s2_91 := (hO 2 rfl).trans s2_90
 have s6_91 := (hO 6 rfl).trans s6_90
 have s8_91 := (hO 8 rfl).trans s8_90
 have s47_91 := (hO 47 rfl).trans s47_90
 have hbb1_91 := hbb1_90.ext' hR
 have hbb2_91 := hbb2_90.ext' hR
 have hbb6_91 := hbb6_90.ext' hR
 have s7_91 : get a91 7 = i64 ((6 : Nat) : Int) := t7
 clear hE_90 hN_90 hD_90 s1_90 s2_90 s6_90 s8_90 s47_90 s48_90 hbb1_90 hbb2_90 hbb6_90
 refine tail_nil ?_
 refine region_lex [] [(50, Pr.ex (i64 ((6 : Nat) : Int))), (51, Pr.ex (i64 ((6 : Nat) : Int))), (52, Pr.ex (i64 ((9 : Nat) : Int))), (53, Pr.ex (i64 ((1 : Nat) : Int))), (54, Pr.ex (Value.pointer (some ⟨b6, 1, none⟩))), (55, Pr.ex (w32 (v24))), (56, Pr.ex (Value.pointer (some ⟨b1, 6, none⟩)))] 7 hN_91 hD_91 (by kernel_rfl) (by kernel_rfl) ?_ ?_
 refine Asks.cons ?_ (Asks.cons ?_ (Asks.cons ?_ (Asks.cons ?_ (Asks.cons ?_ (Asks.cons ?_ (Asks.cons ?_ (Asks.zero _)))))))
 exact Ask.plain rfl rfl fun aq wq hNq hO hR hT => does_move (V := i64 ((6 : Nat) : Int)) ((hO 7 rfl).trans s7_91) ⟨Ext.refl _, rfl⟩
 exact Ask.plain rfl rfl fun aq wq hNq hO hR hT => does_move (V := i64 ((6 : Nat) : Int)) ((hO 7 rfl).trans s7_91) ⟨Ext.refl _, rfl⟩
 exact Ask.plain rfl rfl fun aq wq hNq hO hR hT => does_add (a := ((6 : Nat) : Int)) (b := ((3 : Nat) : Int)) (r := ((9 : Nat) : Int)) (hT 51 rfl rfl) rfl (by decide) (by decide) (by decide) ⟨Ext.refl _, rfl⟩
 exact Ask.plain rfl rfl fun aq wq hNq hO hR hT => does_rem (k := .i64) (a := ((9 : Nat) : Int)) (b := ((8 : Nat) : Int)) (r := ((1 : Nat) : Int)) (hT 52 rfl rfl) rfl (by decide) (by decide) (by decide) ⟨Ext.refl _, rfl⟩
 exact Ask.plain rfl rfl fun aq wq hNq hO hR hT => does_indexArr (k := .i64) (i := 1) (o' := 1) arr_83 ((hO 6 rfl).trans s6_91) (hT 53 rfl rfl) (by decide) (by decide) rfl ⟨Ext.refl _, rfl⟩
 exact Ask.plain rfl rfl fun aq wq hNq hO hR hT => does_loadD1 (o := 1) (V := w32 (v24)) (hT 54 rfl rfl) (hbb6_91.ext' hR) rfl one_22 ⟨Ext.refl _, rfl⟩
 exact Ask.plain rfl rfl fun aq wq hNq hO hR hT => does_indexArr (k := .i64) (i := 6) (o' := 6) arr_83 ((hO 1 rfl).trans s1_91) (hT 50 rfl rfl) (by decide) (by decide) rfl ⟨Ext.refl _, rfl⟩
 intro a92 wd92 hN_92 hD_92 hO hR hA hU
 obtain ⟨_, _, _, _, _, t55, t56, _⟩ := hA
 have hE_92 := hE_91.trans hR
 have s1_92 := (hO 1 rfl).trans s1_91
 have s2_92 := (hO 2 rfl).trans s2_91
 have s6_92 := (hO 6 rfl).trans s6_91
 have s8_92 := (hO 8 rfl).trans s8_91
 have s47_92 := (hO 47 rfl).trans s47_91
 have hbb1_92 := hbb1_91.ext' hR
 have hbb2_92 := hbb2_91.ext' hR
 have hbb6_92 := hbb6_91.ext' hR
 have s55_92 : get a92 55 = w32 (v24) := t55
 have s56_92 : get a92 56 = Value.pointer (some ⟨b1, 6, none⟩) := t56
 clear hE_91 hN_91 hD_91 s1_91 s2_91 s6_91 s7_91 s8_91 s47_91 hbb1_91 hbb2_91 hbb6_91
 refine tail_none rfl rfl (does_storeD (o := 6) (n := 1) (cs' := [w32 (v44), w32 (v17), w32 (v27), w32 (v37), w32 (v47), w32 (v14), w32 (v24), w32 (v47)]) (V := w32 (v24)) s56_92 s55_92 hbb1_92 (Nat.le_of_ble_eq_true rfl) rfl siz_22 rfl rfl (fun wd93 hX hz hbb1_93 => ?_))
 have hE_93 := hE_92.since hX (fun k e => e ▸ fr_b1)
 have hbb2_93 := hbb2_92.ext hX ne_b1_b2.symm
 have hbb6_93 := hbb6_92.ext hX ne_b1_b6.symm
 clear hX hz hE_92 hbb1_92 hbb2_92 hbb6_92
 refine tail_nil ?_
 refine region_lex [] [(57, Pr.ex (i64 ((7 : Nat) : Int)))] 1 hN_92 hD_92 (by kernel_rfl) (by kernel_rfl) ?_ ?_
 refine Asks.cons ?_ (Asks.zero _)
 exact Ask.plain rfl rfl fun aq wq hNq hO hR hT => does_add (a := ((6 : Nat) : Int)) (b := ((1 : Nat) : Int)) (r := ((7 : Nat) : Int)) ((hO 47 rfl).trans s47_92) rfl (by decide) (by decide) (by decide) ⟨Ext.refl _, rfl⟩
 intro a94 wd94 hN_94 hD_94 hO hR hA hU
 obtain ⟨t57, _⟩ := hA
 have hE_94 := hE_93.trans hR
 have s1_94 := (hO 1 rfl).trans s1_92
 have s2_94 := (hO 2 rfl).trans s2_92
 have s6_94 := (hO 6 rfl).trans s6_92
 have s8_94 := (hO 8 rfl).trans s8_92
 have s47_94 := (hO 47 rfl).trans s47_92
 have hbb1_94 := hbb1_93.ext' hR
 have hbb2_94 := hbb2_93.ext' hR
 have hbb6_94 := hbb6_93.ext' hR
 have s57_94 : get a94 57 = i64 ((7 : Nat) : Int) := t57
 clear hE_93 hN_92 hD_92 s1_92 s2_92 s6_92 s8_92 s47_92 s55_92 s56_92 hbb1_93 hbb2_93 hbb6_93
 refine tail_put rfl rfl hN_94 hD_94 (by decide) (does_move (V := i64 ((7 : Nat) : Int)) s57_94 (fun a95 hN_95 hD_95 hv hO => ?_))
 have s47_95 := hv
 have s1_95 := (hO 1 rfl).trans s1_94
 have s2_95 := (hO 2 rfl).trans s2_94
 have s6_95 := (hO 6 rfl).trans s6_94
 have s8_95 := (hO 8 rfl).trans s8_94
 clear hO hv hN_94 hD_94 s1_94 s2_94 s6_94 s8_94 s57_94 s47_94
 refine tail_nil ?_
 refine round_step ?_
 refine wp_seq ?_
 refine region_lex [] [(48, Pr.ex (Value.bool (true)))] 1 hN_95 hD_95 (by kernel_rfl) (by kernel_rfl) ?_ ?_
 refine Asks.cons ?_ (Asks.zero _)
 exact Ask.plain rfl rfl fun aq wq hNq hO hR hT => does_lss (a := ((7 : Nat) : Int)) (b := ((8 : Nat) : Int)) ((hO 47 rfl).trans s47_95) rfl ⟨Ext.refl _, rfl⟩
 intro a96 wd96 hN_96 hD_96 hO hR hA hU
 obtain ⟨t48, _⟩ := hA
 have hE_96 := hE_94.trans hR
 have s1_96 := (hO 1 rfl).trans s1_95
 have s2_96 := (hO 2 rfl).trans s2_95
 have s6_96 := (hO 6 rfl).trans s6_95
 have s8_96 := (hO 8 rfl).trans s8_95
 have s47_96 := (hO 47 rfl).trans s47_95
 have hbb1_96 := hbb1_94.ext' hR
 have hbb2_96 := hbb2_94.ext' hR
 have hbb6_96 := hbb6_94.ext' hR
 have s48_96 : get a96 48 = Value.bool (true) := t48
 clear hE_94 hN_95 hD_95 s1_95 s2_95 s6_95 s8_95 s47_95 hbb1_94 hbb2_94 hbb6_94
 refine tail_nil ?_
 refine wp_seq ?_
 refine wp_ifT s48_96 ?_
 refine wp_skip ?_
 refine wp_seq ?_
 refine wp_block ?_
 refine wp_seq ?_
 refine region_lex [] [(49, Pr.ex (i64 ((7 : Nat) : Int))), (7, Pr.ex (i64 ((7 : Nat) : Int)))] 2 hN_96 hD_96 (by kernel_rfl) (by kernel_rfl) ?_ ?_
 refine Asks.cons ?_ (Asks.cons ?_ (Asks.zero _))
 exact Ask.plain rfl rfl fun aq wq hNq hO hR hT => does_move (V := i64 ((7 : Nat) : Int)) ((hO 47 rfl).trans s47_96) ⟨Ext.refl _, rfl⟩
 exact Ask.plain rfl rfl fun aq wq hNq hO hR hT => does_assign (V := i64 ((7 : Nat) : Int)) (hT 49 rfl rfl) ⟨Ext.refl _, rfl⟩
 intro a97 wd97 hN_97 hD_97 hO hR hA hU
 obtain ⟨_, t7, _⟩ := hA
 have hE_97 := hE_96.trans hR
 have s1_97 := (hO 1 rfl).trans s1_96
 have s2_97 := (hO 2 rfl).trans s2_96
 have s6_97 := (hO 6 rfl).trans s6_96
 have s8_97 := (hO 8 rfl).trans s8_96
 have s47_97 := (hO 47 rfl).trans s47_96
 have hbb1_97 := hbb1_96.ext' hR
 have hbb2_97 := hbb2_96.ext' hR
 have hbb6_97 := hbb6_96.ext' hR
 have s7_97 : get a97 7 = i64 ((7 : Nat) : Int) := t7
 clear hE_96 hN_96 hD_96 s1_96 s2_96 s6_96 s8_96 s47_96 s48_96 hbb1_96 hbb2_96 hbb6_96
 refine tail_nil ?_
 refine region_lex [] [(50, Pr.ex (i64 ((7 : Nat) : Int))), (51, Pr.ex (i64 ((7 : Nat) : Int))), (52, Pr.ex (i64 ((10 : Nat) : Int))), (53, Pr.ex (i64 ((2 : Nat) : Int))), (54, Pr.ex (Value.pointer (some ⟨b6, 2, none⟩))), (55, Pr.ex (w32 (v34))), (56, Pr.ex (Value.pointer (some ⟨b1, 7, none⟩)))] 7 hN_97 hD_97 (by kernel_rfl) (by kernel_rfl) ?_ ?_
 refine Asks.cons ?_ (Asks.cons ?_ (Asks.cons ?_ (Asks.cons ?_ (Asks.cons ?_ (Asks.cons ?_ (Asks.cons ?_ (Asks.zero _)))))))
 exact Ask.plain rfl rfl fun aq wq hNq hO hR hT => does_move (V := i64 ((7 : Nat) : Int)) ((hO 7 rfl).trans s7_97) ⟨Ext.refl _, rfl⟩
 exact Ask.plain rfl rfl fun aq wq hNq hO hR hT => does_move (V := i64 ((7 : Nat) : Int)) ((hO 7 rfl).trans s7_97) ⟨Ext.refl _, rfl⟩
 exact Ask.plain rfl rfl fun aq wq hNq hO hR hT => does_add (a := ((7 : Nat) : Int)) (b := ((3 : Nat) : Int)) (r := ((10 : Nat) : Int)) (hT 51 rfl rfl) rfl (by decide) (by decide) (by decide) ⟨Ext.refl _, rfl⟩
 exact Ask.plain rfl rfl fun aq wq hNq hO hR hT => does_rem (k := .i64) (a := ((10 : Nat) : Int)) (b := ((8 : Nat) : Int)) (r := ((2 : Nat) : Int)) (hT 52 rfl rfl) rfl (by decide) (by decide) (by decide) ⟨Ext.refl _, rfl⟩
 exact Ask.plain rfl rfl fun aq wq hNq hO hR hT => does_indexArr (k := .i64) (i := 2) (o' := 2) arr_83 ((hO 6 rfl).trans s6_97) (hT 53 rfl rfl) (by decide) (by decide) rfl ⟨Ext.refl _, rfl⟩
 exact Ask.plain rfl rfl fun aq wq hNq hO hR hT => does_loadD1 (o := 2) (V := w32 (v34)) (hT 54 rfl rfl) (hbb6_97.ext' hR) rfl one_22 ⟨Ext.refl _, rfl⟩
 exact Ask.plain rfl rfl fun aq wq hNq hO hR hT => does_indexArr (k := .i64) (i := 7) (o' := 7) arr_83 ((hO 1 rfl).trans s1_97) (hT 50 rfl rfl) (by decide) (by decide) rfl ⟨Ext.refl _, rfl⟩
 intro a98 wd98 hN_98 hD_98 hO hR hA hU
 obtain ⟨_, _, _, _, _, t55, t56, _⟩ := hA
 have hE_98 := hE_97.trans hR
 have s1_98 := (hO 1 rfl).trans s1_97
 have s2_98 := (hO 2 rfl).trans s2_97
 have s6_98 := (hO 6 rfl).trans s6_97
 have s8_98 := (hO 8 rfl).trans s8_97
 have s47_98 := (hO 47 rfl).trans s47_97
 have hbb1_98 := hbb1_97.ext' hR
 have hbb2_98 := hbb2_97.ext' hR
 have hbb6_98 := hbb6_97.ext' hR
 have s55_98 : get a98 55 = w32 (v34) := t55
 have s56_98 : get a98 56 = Value.pointer (some ⟨b1, 7, none⟩) := t56
 clear hE_97 hN_97 hD_97 s1_97 s2_97 s6_97 s7_97 s8_97 s47_97 hbb1_97 hbb2_97 hbb6_97
 refine tail_none rfl rfl (does_storeD (o := 7) (n := 1) (cs' := [w32 (v44), w32 (v17), w32 (v27), w32 (v37), w32 (v47), w32 (v14), w32 (v24), w32 (v34)]) (V := w32 (v34)) s56_98 s55_98 hbb1_98 (Nat.le_of_ble_eq_true rfl) rfl siz_22 rfl rfl (fun wd99 hX hz hbb1_99 => ?_))
 have hE_99 := hE_98.since hX (fun k e => e ▸ fr_b1)
 have hbb2_99 := hbb2_98.ext hX ne_b1_b2.symm
 have hbb6_99 := hbb6_98.ext hX ne_b1_b6.symm
 clear hX hz hE_98 hbb1_98 hbb2_98 hbb6_98
 refine tail_nil ?_
 refine region_lex [] [(57, Pr.ex (i64 ((8 : Nat) : Int)))] 1 hN_98 hD_98 (by kernel_rfl) (by kernel_rfl) ?_ ?_
 refine Asks.cons ?_ (Asks.zero _)
 exact Ask.plain rfl rfl fun aq wq hNq hO hR hT => does_add (a := ((7 : Nat) : Int)) (b := ((1 : Nat) : Int)) (r := ((8 : Nat) : Int)) ((hO 47 rfl).trans s47_98) rfl (by decide) (by decide) (by decide) ⟨Ext.refl _, rfl⟩
 intro a100 wd100 hN_100 hD_100 hO hR hA hU
 obtain ⟨t57, _⟩ := hA
 have hE_100 := hE_99.trans hR
 have s1_100 := (hO 1 rfl).trans s1_98
 have s2_100 := (hO 2 rfl).trans s2_98
 have s6_100 := (hO 6 rfl).trans s6_98
 have s8_100 := (hO 8 rfl).trans s8_98
 have s47_100 := (hO 47 rfl).trans s47_98
 have hbb1_100 := hbb1_99.ext' hR
 have hbb2_100 := hbb2_99.ext' hR
 have hbb6_100 := hbb6_99.ext' hR
 have s57_100 : get a100 57 = i64 ((8 : Nat) : Int) := t57
 clear hE_99 hN_98 hD_98 s1_98 s2_98 s6_98 s8_98 s47_98 s55_98 s56_98 hbb1_99 hbb2_99 hbb6_99
 refine tail_put rfl rfl hN_100 hD_100 (by decide) (does_move (V := i64 ((8 : Nat) : Int)) s57_100 (fun a101 hN_101 hD_101 hv hO => ?_))
 have s47_101 := hv
 have s1_101 := (hO 1 rfl).trans s1_100
 have s2_101 := (hO 2 rfl).trans s2_100
 have s6_101 := (hO 6 rfl).trans s6_100
 have s8_101 := (hO 8 rfl).trans s8_100
 clear hO hv hN_100 hD_100 s1_100 s2_100 s6_100 s8_100 s57_100 s47_100
 refine tail_nil ?_
 refine round_step ?_
 refine wp_seq ?_
 refine region_lex [] [(48, Pr.ex (Value.bool (false)))] 1 hN_101 hD_101 (by kernel_rfl) (by kernel_rfl) ?_ ?_
 refine Asks.cons ?_ (Asks.zero _)
 exact Ask.plain rfl rfl fun aq wq hNq hO hR hT => does_lss (a := ((8 : Nat) : Int)) (b := ((8 : Nat) : Int)) ((hO 47 rfl).trans s47_101) rfl ⟨Ext.refl _, rfl⟩
 intro a102 wd102 hN_102 hD_102 hO hR hA hU
 obtain ⟨t48, _⟩ := hA
 have hE_102 := hE_100.trans hR
 have s1_102 := (hO 1 rfl).trans s1_101
 have s2_102 := (hO 2 rfl).trans s2_101
 have s6_102 := (hO 6 rfl).trans s6_101
 have s8_102 := (hO 8 rfl).trans s8_101
 have s47_102 := (hO 47 rfl).trans s47_101
 have hbb1_102 := hbb1_100.ext' hR
 have hbb2_102 := hbb2_100.ext' hR
 have hbb6_102 := hbb6_100.ext' hR
 have s48_102 : get a102 48 = Value.bool (false) := t48
 clear hE_100 hN_101 hD_101 s1_101 s2_101 s6_101 s8_101 s47_101 hbb1_100 hbb2_100 hbb6_100
 refine tail_nil ?_
 refine wp_seq ?_
 refine wp_ifF s48_102 ?_
 refine wp_exit ?_
 refine region_lex [] [(58, Pr.ex (w32 ((UInt32.ofNat k : UInt32) + (1 : UInt32))))] 1 hN_102 hD_102 (by kernel_rfl) (by kernel_rfl) ?_ ?_
 refine Asks.cons ?_ (Asks.zero _)
 exact Ask.plain rfl rfl fun aq wq hNq hO hR hT => does_add32 (a := (UInt32.ofNat k : UInt32)) (b := (1 : UInt32)) ((hO 8 rfl).trans s8_102) rfl ⟨Ext.refl _, rfl⟩
 intro a103 wd103 hN_103 hD_103 hO hR hA hU
 obtain ⟨t58, _⟩ := hA
 have hE_103 := hE_102.trans hR
 have s1_103 := (hO 1 rfl).trans s1_102
 have s2_103 := (hO 2 rfl).trans s2_102
 have s8_103 := (hO 8 rfl).trans s8_102
 have hbb1_103 := hbb1_102.ext' hR
 have hbb2_103 := hbb2_102.ext' hR
 have hbb6_103 := hbb6_102.ext' hR
 have s58_103 : get a103 58 = w32 ((UInt32.ofNat k : UInt32) + (1 : UInt32)) := t58
 clear hE_102 hN_102 hD_102 s1_102 s2_102 s6_102 s8_102 s47_102 s48_102 hbb1_102 hbb2_102 hbb6_102
 refine tail_put rfl rfl hN_103 hD_103 (by decide) (does_move (V := w32 ((UInt32.ofNat k : UInt32) + (1 : UInt32))) s58_103 (fun a104 hN_104 hD_104 hv hO => ?_))
 have s8_104 := hv
 have s1_104 := (hO 1 rfl).trans s1_103
 have s2_104 := (hO 2 rfl).trans s2_103
 clear hO hv hN_103 hD_103 s1_103 s2_103 s58_103 s8_103
 refine tail_nil ?_
 subst hv47
 subst hv44
 subst hv37
 subst hv34
 subst hv27
 subst hv24
 subst hv17
 subst hv14
 subst hv8
 exact ⟨_, by omega, k + 1, rfl, hN_104, hD_104, s1_104, s2_104, (by rw [s8_104, u32_succ]), hE_103, (by have h := hbb1_103; rw [u32_succ] at h; exact h), hbb2_103, by omega⟩
 have hc0 := of_decide_eq_false hc0
 have hk8 : k = 8 := by have := mt (u32_lt8 hk).2 hc0; omega
 refine wp_exit ?_
 refine wp_seq ?_
 refine region_lex [] [(59, Pr.ex (Value.agg #[w32 ((s.rounds k).a), w32 ((s.rounds k).b), w32 ((s.rounds k).c), w32 ((s.rounds k).d), w32 ((s.rounds k).e), w32 ((s.rounds k).f), w32 ((s.rounds k).g), w32 ((s.rounds k).h)]))] 1 hN_4 hD_4 (by kernel_rfl) (by kernel_rfl) ?_ ?_
 refine Asks.cons ?_ (Asks.zero _)
 exact Ask.plain rfl rfl fun aq wq hNq hO hR hT => does_loadD (o := 0) (n := 8) (mid := [w32 ((s.rounds k).a), w32 ((s.rounds k).b), w32 ((s.rounds k).c), w32 ((s.rounds k).d), w32 ((s.rounds k).e), w32 ((s.rounds k).f), w32 ((s.rounds k).g), w32 ((s.rounds k).h)]) ((hO 1 rfl).trans s1_4) (hbb1_4.ext' hR) rfl rfl (Nat.le_of_ble_eq_true rfl) row_83 rfl ⟨Ext.refl _, rfl⟩
 intro a105 wd105 hN_105 hD_105 hO hR hA hU
 obtain ⟨t59, _⟩ := hA
 have hE_105 := hE_4.trans hR
 have s2_105 := (hO 2 rfl).trans s2_4
 have hbb1_105 := hbb1_4.ext' hR
 have hbb2_105 := hbb2_4.ext' hR
 have s59_105 : get a105 59 = Value.agg #[w32 ((s.rounds k).a), w32 ((s.rounds k).b), w32 ((s.rounds k).c), w32 ((s.rounds k).d), w32 ((s.rounds k).e), w32 ((s.rounds k).f), w32 ((s.rounds k).g), w32 ((s.rounds k).h)] := t59
 clear hE_4 hN_4 hD_4 s1_4 s2_4 s8_4 s9_4 hbb1_4 hbb2_4
 refine tail_none rfl rfl (does_storeD (o := 0) (n := 8) (cs' := [w32 ((s.rounds k).a), w32 ((s.rounds k).b), w32 ((s.rounds k).c), w32 ((s.rounds k).d), w32 ((s.rounds k).e), w32 ((s.rounds k).f), w32 ((s.rounds k).g), w32 ((s.rounds k).h)]) (V := Value.agg #[w32 ((s.rounds k).a), w32 ((s.rounds k).b), w32 ((s.rounds k).c), w32 ((s.rounds k).d), w32 ((s.rounds k).e), w32 ((s.rounds k).f), w32 ((s.rounds k).g), w32 ((s.rounds k).h)]) s2_105 s59_105 hbb2_105 (Nat.le_of_ble_eq_true rfl) rfl siz_83 rfl rfl (fun wd106 hX hz hbb2_106 => ?_))
 have hE_106 := hE_105.since hX (fun k e => e ▸ fr_b2)
 have hbb1_106 := hbb1_105.ext hX ne_b1_b2
 clear hX hz hE_105 hbb1_105 hbb2_105
 refine tail_nil ?_
 refine wp_ret ?_
 refine res_one (V := Value.agg #[w32 ((s.rounds k).a), w32 ((s.rounds k).b), w32 ((s.rounds k).c), w32 ((s.rounds k).d), w32 ((s.rounds k).e), w32 ((s.rounds k).f), w32 ((s.rounds k).g), w32 ((s.rounds k).h)]) rfl hD_105 (ResIs.cell s2_105 hbb2_106 row_83 rfl rfl) ?_
 subst hk8
 exact ⟨rfl, hE_106⟩

end Go.Proofs.YtaeohnkfmachfabDoor
