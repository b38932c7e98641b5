/- The walks of functions of the program: printed. -/
import Derived.Test.YtaeohnkfmachfabDoorK
import Derived.Test.YtaeohnkfmachfabDoorG94
import Derived.Test.YtaeohnkfmachfabDoorG95
import Derived.Test.YtaeohnkfmachfabDoorF0
set_option maxRecDepth 100000
namespace Go.Proofs.YtaeohnkfmachfabDoor
open Go Go.RowKit Sk Sd
theorem keyUse_ (seed : Dg) (h i : Int) (msg : Dg) (w0 : World) (hL : Laid w0) :
    Gives Tryd.prog 11 #[Value.agg #[w32 (seed).a, w32 (seed).b, w32 (seed).c, w32 (seed).d, i64 (h), i64 (i)], Dg.val (msg)] w0 (Pr.t3 (Pr.ex (Value.agg #[w32 ((keyUse seed h i msg).1).a, w32 ((keyUse seed h i msg).1).b, w32 ((keyUse seed h i msg).1).c, w32 ((keyUse seed h i msg).1).d, i64 ((keyUse seed h i msg).2.1), i64 ((keyUse seed h i msg).2.2.1)])) (Pr.ag2 (fun x y => Value.agg #[i64 (keyUse seed h i msg).2.2.2.1, x, y]) (Pr.own' DG w0.heap.size 24 ((keyUse seed h i msg).2.2.2.2.1)) (Pr.own' DG w0.heap.size 24 ((keyUse seed h i msg).2.2.2.2.2.1))) (Pr.ex (i64 (((keyUse seed h i msg).2.2.2.2.2.2 : Nat) : Int)))) := by
 refine enter (N := 47) Tryd.func11 rfl rfl ?_
 intro a0 hN_0 hD_0 hA
 have s0_0 : get a0 0 = Value.agg #[w32 (seed).a, w32 (seed).b, w32 (seed).c, w32 (seed).d, i64 (h), i64 (i)] := hA 0 _ rfl
 have s1_0 : get a0 1 = Dg.val (msg) := hA 1 _ rfl
 clear hA
 have hE_0 : Ext w0 w0 := Ext.refl w0
 refine wp_seq ?_
 refine region_lex [2, 3, 4, 5] [(2, Pr.box' w0.heap.size 30 [w32 (seed).a, w32 (seed).b, w32 (seed).c, w32 (seed).d, i64 (h), i64 (i)]), (3, Pr.box' w0.heap.size 24 [w32 (msg).a, w32 (msg).b, w32 (msg).c, w32 (msg).d]), (4, Pr.box' w0.heap.size 30 [w32 (Dg.zero).a, w32 (Dg.zero).b, w32 (Dg.zero).c, w32 (Dg.zero).d, i64 ((0 : Nat) : Int), i64 ((0 : Nat) : Int)]), (5, Pr.box' w0.heap.size 37 [i64 ((0 : Nat) : Int), Value.slice none 0 0, Value.slice none 0 0]), (6, Pr.ex (i64 ((0 : Nat) : Int)))] 5 hN_0 hD_0 (by kernel_rfl) (by kernel_rfl) ?_ ?_
 refine Asks.cons ?_ (Asks.cons ?_ (Asks.cons ?_ (Asks.cons ?_ (Asks.cons ?_ (Asks.zero _)))))
 refine Ask.fresh rfl rfl ?_
 intro aq wq hNq hO hR hT
 exact does_box (V := Value.agg #[w32 (seed).a, w32 (seed).b, w32 (seed).c, w32 (seed).d, i64 (h), i64 (i)]) ((hO 0 rfl).trans s0_0) (fun b w2 he hlo hb => ⟨he, ⟨b, rfl, Nat.le_trans hR.size' hlo, hb⟩, ⟨b, rfl, hlo, hb.lt⟩⟩)
 refine Ask.fresh rfl rfl ?_
 intro aq wq hNq hO hR hT
 exact does_box (V := Dg.val (msg)) ((hO 1 rfl).trans s1_0) (fun b w2 he hlo hb => ⟨he, ⟨b, rfl, Nat.le_trans hR.size' hlo, hb⟩, ⟨b, rfl, hlo, hb.lt⟩⟩)
 refine Ask.fresh rfl rfl ?_
 intro aq wq hNq hO hR hT
 exact does_alloc zero_30 (fun b w2 he hlo hb => ⟨he, ⟨b, rfl, Nat.le_trans hR.size' hlo, hb⟩, ⟨b, rfl, hlo, hb.lt⟩⟩)
 refine Ask.fresh rfl rfl ?_
 intro aq wq hNq hO hR hT
 exact does_alloc zero_37 (fun b w2 he hlo hb => ⟨he, ⟨b, rfl, Nat.le_trans hR.size' hlo, hb⟩, ⟨b, rfl, hlo, hb.lt⟩⟩)
 exact Ask.plain rfl rfl fun aq wq hNq hO hR hT => does_assign (V := i64 ((0 : Nat) : Int)) rfl ⟨Ext.refl _, rfl⟩
 intro a1 wd1 hN_1 hD_1 hO hR hA hU
 obtain ⟨t2, t3, t4, t5, _, _⟩ := hA
 have hE_1 := hE_0.trans hR
 obtain ⟨b2, s2_1, lo_b2, hbb2_1⟩ := t2
 have fr_b2 : w0.heap.size ≤ b2 := Nat.le_trans hE_0.size' lo_b2
 obtain ⟨b3, s3_1, lo_b3, hbb3_1⟩ := t3
 have fr_b3 : w0.heap.size ≤ b3 := Nat.le_trans hE_0.size' lo_b3
 obtain ⟨b4, s4_1, lo_b4, hbb4_1⟩ := t4
 have fr_b4 : w0.heap.size ≤ b4 := Nat.le_trans hE_0.size' lo_b4
 obtain ⟨b5, s5_1, lo_b5, hbb5_1⟩ := t5
 have fr_b5 : w0.heap.size ≤ b5 := Nat.le_trans hE_0.size' lo_b5
 obtain ⟨u0, ⟨u1, ⟨u2, ⟨u3, _⟩⟩⟩⟩ := hU
 have ne_b2_b3 : b2 ≠ b3 := fun e => u0 3 (by decide) (by rw [s2_1, s3_1, e])
 have ne_b2_b4 : b2 ≠ b4 := fun e => u0 4 (by decide) (by rw [s2_1, s4_1, e])
 have ne_b2_b5 : b2 ≠ b5 := fun e => u0 5 (by decide) (by rw [s2_1, s5_1, e])
 have ne_b3_b4 : b3 ≠ b4 := fun e => u1 4 (by decide) (by rw [s3_1, s4_1, e])
 have ne_b3_b5 : b3 ≠ b5 := fun e => u1 5 (by decide) (by rw [s3_1, s5_1, e])
 have ne_b4_b5 : b4 ≠ b5 := fun e => u2 5 (by decide) (by rw [s4_1, s5_1, e])
 clear hE_0 hN_0 hD_0 s0_0 s1_0
 refine tail_nil ?_
 refine wp_seq ?_
 refine wp_block ?_
 refine wp_seq ?_
 refine region_lex [] [(10, Pr.ex (Value.pointer (some ⟨b2, 4, none⟩))), (11, Pr.ex (i64 (h))), (12, Pr.ex (Value.bool (highB h))), (13, Pr.ex (Value.bool (!(highB h)))), (9, Pr.ex (Value.bool (!(highB h))))] 5 hN_1 hD_1 (by kernel_rfl) (by kernel_rfl) ?_ ?_
 refine Asks.cons ?_ (Asks.cons ?_ (Asks.cons ?_ (Asks.cons ?_ (Asks.cons ?_ (Asks.zero _)))))
 exact Ask.plain rfl rfl fun aq wq hNq hO hR hT => does_field (o' := 4) fld_30_1 ((hO 2 rfl).trans s2_1) rfl ⟨Ext.refl _, rfl⟩
 exact Ask.plain rfl rfl fun aq wq hNq hO hR hT => does_loadD1 (o := 4) (V := i64 (h)) (hT 10 rfl rfl) (hbb2_1.ext' hR) rfl one_3 ⟨Ext.refl _, rfl⟩
 exact Ask.plain rfl rfl fun aq wq hNq hO hR hT => does_ret (vs := #[i64 (h)]) call_22 (args1 (hT 11 rfl rfl)) rfl ((high_ h wq).mono fun v w2 h => ⟨h.2, h.1⟩)
 exact Ask.plain rfl rfl fun aq wq hNq hO hR hT => does_not (B := highB h) (hT 12 rfl rfl) ⟨Ext.refl _, rfl⟩
 exact Ask.plain rfl rfl fun aq wq hNq hO hR hT => does_assign (V := Value.bool (!(highB h))) (hT 13 rfl rfl) ⟨Ext.refl _, rfl⟩
 intro a2 wd2 hN_2 hD_2 hO hR hA hU
 obtain ⟨_, _, _, _, t9, _⟩ := hA
 have hE_2 := hE_1.trans hR
 have s2_2 := (hO 2 rfl).trans s2_1
 have s3_2 := (hO 3 rfl).trans s3_1
 have s4_2 := (hO 4 rfl).trans s4_1
 have s5_2 := (hO 5 rfl).trans s5_1
 have hbb2_2 := hbb2_1.ext' hR
 have hbb3_2 := hbb3_1.ext' hR
 have hbb4_2 := hbb4_1.ext' hR
 have hbb5_2 := hbb5_1.ext' hR
 have s9_2 : get a2 9 = Value.bool (!(highB h)) := t9
 clear hE_1 hN_1 hD_1 s2_1 s3_1 s4_1 s5_1 hbb2_1 hbb3_1 hbb4_1 hbb5_1
 refine tail_nil ?_
 refine wp_if (B := !(highB h)) s9_2 (fun hc0 => ?_) (fun hc0 => ?_)
 have hb : ¬ (0 ≤ h ∧ h ≤ 4) := by simp [highB] at hc0; omega
 refine wp_seq ?_
 refine region_lex [] [(14, Pr.ex (Value.agg #[w32 (Dg.zero).a, w32 (Dg.zero).b, w32 (Dg.zero).c, w32 (Dg.zero).d, i64 ((0 : Nat) : Int), i64 ((0 : Nat) : Int)])), (15, Pr.ex (Value.agg #[i64 ((0 : Nat) : Int), Value.slice none 0 0, Value.slice none 0 0]))] 2 hN_2 hD_2 (by kernel_rfl) (by kernel_rfl) ?_ ?_
 refine Asks.cons ?_ (Asks.cons ?_ (Asks.zero _))
 exact Ask.plain rfl rfl fun aq wq hNq hO hR hT => does_build (vs := #[]) (V := Value.agg #[w32 (Dg.zero).a, w32 (Dg.zero).b, w32 (Dg.zero).c, w32 (Dg.zero).d, i64 ((0 : Nat) : Int), i64 ((0 : Nat) : Int)]) parts0 (by kernel_rfl) ⟨Ext.refl _, rfl⟩
 exact Ask.plain rfl rfl fun aq wq hNq hO hR hT => does_build (vs := #[]) (V := Value.agg #[i64 ((0 : Nat) : Int), Value.slice none 0 0, Value.slice none 0 0]) parts0 (by kernel_rfl) ⟨Ext.refl _, rfl⟩
 intro a3 wd3 hN_3 hD_3 hO hR hA hU
 obtain ⟨t14, t15, _⟩ := hA
 have hE_3 := hE_2.trans hR
 have s4_3 := (hO 4 rfl).trans s4_2
 have s5_3 := (hO 5 rfl).trans s5_2
 have hbb2_3 := hbb2_2.ext' hR
 have hbb3_3 := hbb3_2.ext' hR
 have hbb4_3 := hbb4_2.ext' hR
 have hbb5_3 := hbb5_2.ext' hR
 have s14_3 : get a3 14 = Value.agg #[w32 (Dg.zero).a, w32 (Dg.zero).b, w32 (Dg.zero).c, w32 (Dg.zero).d, i64 ((0 : Nat) : Int), i64 ((0 : Nat) : Int)] := t14
 have s15_3 : get a3 15 = Value.agg #[i64 ((0 : Nat) : Int), Value.slice none 0 0, Value.slice none 0 0] := t15
 clear hE_2 hN_2 hD_2 s2_2 s3_2 s4_2 s5_2 s9_2 hbb2_2 hbb3_2 hbb4_2 hbb5_2
 refine tail_none rfl rfl (does_storeD (o := 0) (n := 6) (cs' := [w32 (Dg.zero).a, w32 (Dg.zero).b, w32 (Dg.zero).c, w32 (Dg.zero).d, i64 ((0 : Nat) : Int), i64 ((0 : Nat) : Int)]) (V := Value.agg #[w32 (Dg.zero).a, w32 (Dg.zero).b, w32 (Dg.zero).c, w32 (Dg.zero).d, i64 ((0 : Nat) : Int), i64 ((0 : Nat) : Int)]) s4_3 s14_3 hbb4_3 (Nat.le_of_ble_eq_true rfl) rfl siz_30 rfl rfl (fun wd4 hX hz hbb4_4 => ?_))
 have hE_4 := hE_3.since hX (fun k e => e ▸ fr_b4)
 have hbb2_4 := hbb2_3.ext hX ne_b2_b4
 have hbb3_4 := hbb3_3.ext hX ne_b3_b4
 have hbb5_4 := hbb5_3.ext hX ne_b4_b5.symm
 clear hX hz hE_3 hbb2_3 hbb3_3 hbb4_3 hbb5_3
 refine tail_none rfl rfl (does_storeD (o := 0) (n := 3) (cs' := [i64 ((0 : Nat) : Int), Value.slice none 0 0, Value.slice none 0 0]) (V := Value.agg #[i64 ((0 : Nat) : Int), Value.slice none 0 0, Value.slice none 0 0]) s5_3 s15_3 hbb5_4 (Nat.le_of_ble_eq_true rfl) rfl siz_37 rfl rfl (fun wd5 hX hz hbb5_5 => ?_))
 have hE_5 := hE_4.since hX (fun k e => e ▸ fr_b5)
 have hbb2_5 := hbb2_4.ext hX ne_b2_b5
 have hbb3_5 := hbb3_4.ext hX ne_b3_b5
 have hbb4_5 := hbb4_4.ext hX ne_b4_b5
 clear hX hz hE_4 hbb2_4 hbb3_4 hbb4_4 hbb5_4
 refine tail_put rfl rfl hN_3 hD_3 (by decide) (does_assign (V := i64 ((2 : Nat) : Int)) rfl (fun a6 hN_6 hD_6 hv hO => ?_))
 have s6_6 := hv
 have s4_6 := (hO 4 rfl).trans s4_3
 have s5_6 := (hO 5 rfl).trans s5_3
 clear hO hv hN_3 hD_3 s4_3 s5_3 s14_3 s15_3
 refine tail_nil ?_
 refine wp_ret ?_
 refine res_three (V1 := Value.agg #[w32 (Dg.zero).a, w32 (Dg.zero).b, w32 (Dg.zero).c, w32 (Dg.zero).d, i64 ((0 : Nat) : Int), i64 ((0 : Nat) : Int)]) (V2 := Value.agg #[i64 ((0 : Nat) : Int), Value.slice none 0 0, Value.slice none 0 0]) (V3 := i64 ((2 : Nat) : Int)) rfl hD_6 (ResIs.cell s4_6 hbb4_5 row_30 rfl rfl) (ResIs.cell s5_6 hbb5_5 row_37 rfl rfl) s6_6 ?_
 rw [keyUse_no hb]
 exact ⟨⟨_, _, _, rfl, rfl, ⟨_, _, rfl, OwnT.nil DG _ 24 _, OwnT.nil DG _ 24 _⟩, rfl⟩, hE_5⟩
 have hb : 0 ≤ h ∧ h ≤ 4 := by simpa [highB] using hc0
 refine wp_seq ?_
 obtain ⟨n, rfl⟩ : ∃ n : Nat, h = (n : Int) := ⟨(h).toNat, by omega⟩
 have hn4 : n ≤ 4 := by omega
 have hp16 := pw_small hn4
 refine region_any [] [(17, Pr.ex (Value.pointer (some ⟨b2, 5, none⟩))), (18, Pr.ex (i64 (i))), (19, Pr.ex (Value.bool (decide (i < ((0 : Nat) : Int))))), (20, Pr.ex (Value.bool (decide (i < ((0 : Nat) : Int))))), (21, Pr.ifb (!(decide (i < ((0 : Nat) : Int)))) (Pr.ex (Value.pointer (some ⟨b2, 5, none⟩)))), (22, Pr.ifb (!(decide (i < ((0 : Nat) : Int)))) (Pr.ex (i64 (i)))), (23, Pr.ifb (!(decide (i < ((0 : Nat) : Int)))) (Pr.ex (Value.pointer (some ⟨b2, 4, none⟩)))), (24, Pr.ifb (!(decide (i < ((0 : Nat) : Int)))) (Pr.ex (i64 ((n : Nat) : Int)))), (25, Pr.ifb (!(decide (i < ((0 : Nat) : Int)))) (Pr.ex (i64 ((pw n : Nat) : Int)))), (26, Pr.ifb (!(decide (i < ((0 : Nat) : Int)))) (Pr.ex (Value.bool (decide (((pw n : Nat) : Int) ≤ i))))), (27, Pr.ex (Value.bool ((decide (i < ((0 : Nat) : Int))) || (decide (((pw n : Nat) : Int) ≤ i))))), (16, Pr.ex (Value.bool ((decide (i < ((0 : Nat) : Int))) || (decide (((pw n : Nat) : Int) ≤ i)))))] 12 mixed hN_2 hD_2 (by kernel_rfl) (by kernel_rfl) (by kernel_rfl) ?_ ?_
 refine Asks.cons ?_ (Asks.cons ?_ (Asks.cons ?_ (Asks.cons ?_ (Asks.cons ?_ (Asks.cons ?_ (Asks.cons ?_ (Asks.cons ?_ (Asks.cons ?_ (Asks.cons ?_ (Asks.cons ?_ (Asks.cons ?_ (Asks.zero _))))))))))))
 exact Ask.plainD rfl rfl fun aq wq hNq hO hR hT => does_field (o' := 5) fld_30_2 ((hO 2 rfl).trans s2_2) rfl ⟨Ext.refl _, rfl⟩
 exact Ask.plainD rfl rfl fun aq wq hNq hO hR hT => does_loadD1 (o := 5) (V := i64 (i)) (hT 17 rfl rfl) (hbb2_2.ext' hR) rfl one_3 ⟨Ext.refl _, rfl⟩
 exact Ask.plainD rfl rfl fun aq wq hNq hO hR hT => does_lss (a := i) (b := ((0 : Nat) : Int)) (hT 18 rfl rfl) rfl ⟨Ext.refl _, rfl⟩
 exact Ask.plainD rfl rfl fun aq wq hNq hO hR hT => does_move (V := Value.bool (decide (i < ((0 : Nat) : Int)))) (hT 19 rfl rfl) ⟨Ext.refl _, rfl⟩
 refine Ask.guarded (B := decide (i < ((0 : Nat) : Int))) (want := false) (t := 20) rfl rfl rfl rfl (by decide) (fun aq wq hO hR hT => hT 20 rfl rfl) (fun hG aq wq hNq hO hR hT => ?_) (fun hno _ => fun hc => absurd (bn hc) hno)
 replace hG := nb hG
 replace hR := (Ext.drew _).trans hR
 exact does_field (o' := 5) fld_30_2 ((hO 2 rfl).trans s2_2) rfl ⟨Ext.refl _, fun _ => rfl⟩
 refine Ask.guarded (B := decide (i < ((0 : Nat) : Int))) (want := false) (t := 20) rfl rfl rfl rfl (by decide) (fun aq wq hO hR hT => hT 20 rfl rfl) (fun hG aq wq hNq hO hR hT => ?_) (fun hno _ => fun hc => absurd (bn hc) hno)
 replace hG := nb hG
 replace hR := (Ext.drew _).trans hR
 exact does_loadD1 (o := 5) (V := i64 (i)) (hT 21 rfl rfl hG) (hbb2_2.ext' hR) rfl one_3 ⟨Ext.refl _, fun _ => rfl⟩
 refine Ask.guarded (B := decide (i < ((0 : Nat) : Int))) (want := false) (t := 20) rfl rfl rfl rfl (by decide) (fun aq wq hO hR hT => hT 20 rfl rfl) (fun hG aq wq hNq hO hR hT => ?_) (fun hno _ => fun hc => absurd (bn hc) hno)
 replace hG := nb hG
 replace hR := (Ext.drew _).trans hR
 exact does_field (o' := 4) fld_30_1 ((hO 2 rfl).trans s2_2) rfl ⟨Ext.refl _, fun _ => rfl⟩
 refine Ask.guarded (B := decide (i < ((0 : Nat) : Int))) (want := false) (t := 20) rfl rfl rfl rfl (by decide) (fun aq wq hO hR hT => hT 20 rfl rfl) (fun hG aq wq hNq hO hR hT => ?_) (fun hno _ => fun hc => absurd (bn hc) hno)
 replace hG := nb hG
 replace hR := (Ext.drew _).trans hR
 exact does_loadD1 (o := 4) (V := i64 ((n : Nat) : Int)) (hT 23 rfl rfl hG) (hbb2_2.ext' hR) rfl one_3 ⟨Ext.refl _, fun _ => rfl⟩
 refine Ask.guarded (B := decide (i < ((0 : Nat) : Int))) (want := false) (t := 20) rfl rfl rfl rfl (by decide) (fun aq wq hO hR hT => hT 20 rfl rfl) (fun hG aq wq hNq hO hR hT => ?_) (fun hno _ => fun hc => absurd (bn hc) hno)
 replace hG := nb hG
 replace hR := (Ext.drew _).trans hR
 exact does_shl (k := .i64) (k' := .i64) (a := 1) (b := ((n : Nat) : Int)) (r := ((pw n : Nat) : Int)) rfl (hT 24 rfl rfl hG) (by omega) (by simp only [IntKind.bits]; omega) (shl_one hn4) ⟨Ext.refl _, fun _ => rfl⟩
 refine Ask.guarded (B := decide (i < ((0 : Nat) : Int))) (want := false) (t := 20) rfl rfl rfl rfl (by decide) (fun aq wq hO hR hT => hT 20 rfl rfl) (fun hG aq wq hNq hO hR hT => ?_) (fun hno _ => fun hc => absurd (bn hc) hno)
 replace hG := nb hG
 replace hR := (Ext.drew _).trans hR
 exact does_geq (a := i) (b := ((pw n : Nat) : Int)) (hT 22 rfl rfl hG) (hT 25 rfl rfl hG) ⟨Ext.refl _, fun _ => rfl⟩
 exact Ask.plainD rfl rfl fun aq wq hNq hO hR hT => does_or (B := decide (i < ((0 : Nat) : Int))) (X := decide (((pw n : Nat) : Int) ≤ i)) (hT 20 rfl rfl) rfl (fun hB => (hT 26 rfl rfl (nb hB))) ⟨Ext.refl _, rfl⟩
 exact Ask.plainD rfl rfl fun aq wq hNq hO hR hT => does_assign (V := Value.bool ((decide (i < ((0 : Nat) : Int))) || (decide (((pw n : Nat) : Int) ≤ i)))) (hT 27 rfl rfl) ⟨Ext.refl _, rfl⟩
 intro a7 wd7 hN_7 hD_7 hO hR hA hU
 obtain ⟨_, _, _, _, _, _, _, _, _, _, _, t16, _⟩ := hA
 have hE_7 := hE_2.trans hR
 have s2_7 := (hO 2 rfl).trans s2_2
 have s3_7 := (hO 3 rfl).trans s3_2
 have s4_7 := (hO 4 rfl).trans s4_2
 have s5_7 := (hO 5 rfl).trans s5_2
 have hbb2_7 := hbb2_2.ext' hR
 have hbb3_7 := hbb3_2.ext' hR
 have hbb4_7 := hbb4_2.ext' hR
 have hbb5_7 := hbb5_2.ext' hR
 have s16_7 : get a7 16 = Value.bool ((decide (i < ((0 : Nat) : Int))) || (decide (((pw n : Nat) : Int) ≤ i))) := t16
 clear hE_2 hN_2 hD_2 s2_2 s3_2 s4_2 s5_2 s9_2 hbb2_2 hbb3_2 hbb4_2 hbb5_2
 refine tail_nil ?_
 refine wp_if (B := (decide (i < ((0 : Nat) : Int))) || (decide (((pw n : Nat) : Int) ≤ i))) s16_7 (fun hc1 => ?_) (fun hc1 => ?_)
 have hbi : ¬ (0 ≤ i ∧ i < ((pw n : Nat) : Int)) := by rintro ⟨h1, h2⟩; have e1 : decide (i < ((0 : Nat) : Int)) = false := decide_eq_false (by omega); have e2 : decide (((pw n : Nat) : Int) ≤ i) = false := decide_eq_false (by omega); rw [e1, e2] at hc1; cases hc1
 refine wp_seq ?_
 refine region_lex [] [(28, Pr.ex (Value.agg #[w32 (Dg.zero).a, w32 (Dg.zero).b, w32 (Dg.zero).c, w32 (Dg.zero).d, i64 ((0 : Nat) : Int), i64 ((0 : Nat) : Int)])), (29, Pr.ex (Value.agg #[i64 ((0 : Nat) : Int), Value.slice none 0 0, Value.slice none 0 0]))] 2 hN_7 hD_7 (by kernel_rfl) (by kernel_rfl) ?_ ?_
 refine Asks.cons ?_ (Asks.cons ?_ (Asks.zero _))
 exact Ask.plain rfl rfl fun aq wq hNq hO hR hT => does_build (vs := #[]) (V := Value.agg #[w32 (Dg.zero).a, w32 (Dg.zero).b, w32 (Dg.zero).c, w32 (Dg.zero).d, i64 ((0 : Nat) : Int), i64 ((0 : Nat) : Int)]) parts0 (by kernel_rfl) ⟨Ext.refl _, rfl⟩
 exact Ask.plain rfl rfl fun aq wq hNq hO hR hT => does_build (vs := #[]) (V := Value.agg #[i64 ((0 : Nat) : Int), Value.slice none 0 0, Value.slice none 0 0]) parts0 (by kernel_rfl) ⟨Ext.refl _, rfl⟩
 intro a8 wd8 hN_8 hD_8 hO hR hA hU
 obtain ⟨t28, t29, _⟩ := hA
 have hE_8 := hE_7.trans hR
 have s4_8 := (hO 4 rfl).trans s4_7
 have s5_8 := (hO 5 rfl).trans s5_7
 have hbb2_8 := hbb2_7.ext' hR
 have hbb3_8 := hbb3_7.ext' hR
 have hbb4_8 := hbb4_7.ext' hR
 have hbb5_8 := hbb5_7.ext' hR
 have s28_8 : get a8 28 = Value.agg #[w32 (Dg.zero).a, w32 (Dg.zero).b, w32 (Dg.zero).c, w32 (Dg.zero).d, i64 ((0 : Nat) : Int), i64 ((0 : Nat) : Int)] := t28
 have s29_8 : get a8 29 = Value.agg #[i64 ((0 : Nat) : Int), Value.slice none 0 0, Value.slice none 0 0] := t29
 clear hE_7 hN_7 hD_7 s2_7 s3_7 s4_7 s5_7 s16_7 hbb2_7 hbb3_7 hbb4_7 hbb5_7
 refine tail_none rfl rfl (does_storeD (o := 0) (n := 6) (cs' := [w32 (Dg.zero).a, w32 (Dg.zero).b, w32 (Dg.zero).c, w32 (Dg.zero).d, i64 ((0 : Nat) : Int), i64 ((0 : Nat) : Int)]) (V := Value.agg #[w32 (Dg.zero).a, w32 (Dg.zero).b, w32 (Dg.zero).c, w32 (Dg.zero).d, i64 ((0 : Nat) : Int), i64 ((0 : Nat) : Int)]) s4_8 s28_8 hbb4_8 (Nat.le_of_ble_eq_true rfl) rfl siz_30 rfl rfl (fun wd9 hX hz hbb4_9 => ?_))
 have hE_9 := hE_8.since hX (fun k e => e ▸ fr_b4)
 have hbb2_9 := hbb2_8.ext hX ne_b2_b4
 have hbb3_9 := hbb3_8.ext hX ne_b3_b4
 have hbb5_9 := hbb5_8.ext hX ne_b4_b5.symm
 clear hX hz hE_8 hbb2_8 hbb3_8 hbb4_8 hbb5_8
 refine tail_none rfl rfl (does_storeD (o := 0) (n := 3) (cs' := [i64 ((0 : Nat) : Int), Value.slice none 0 0, Value.slice none 0 0]) (V := Value.agg #[i64 ((0 : Nat) : Int), Value.slice none 0 0, Value.slice none 0 0]) s5_8 s29_8 hbb5_9 (Nat.le_of_ble_eq_true rfl) rfl siz_37 rfl rfl (fun wd10 hX hz hbb5_10 => ?_))
 have hE_10 := hE_9.since hX (fun k e => e ▸ fr_b5)
 have hbb2_10 := hbb2_9.ext hX ne_b2_b5
 have hbb3_10 := hbb3_9.ext hX ne_b3_b5
 have hbb4_10 := hbb4_9.ext hX ne_b4_b5
 clear hX hz hE_9 hbb2_9 hbb3_9 hbb4_9 hbb5_9
 refine tail_put rfl rfl hN_8 hD_8 (by decide) (does_assign (V := i64 ((9 : Nat) : Int)) rfl (fun a11 hN_11 hD_11 hv hO => ?_))
 have s6_11 := hv
 have s4_11 := (hO 4 rfl).trans s4_8
 have s5_11 := (hO 5 rfl).trans s5_8
 clear hO hv hN_8 hD_8 s4_8 s5_8 s28_8 s29_8
 refine tail_nil ?_
 refine wp_ret ?_
 refine res_three (V1 := Value.agg #[w32 (Dg.zero).a, w32 (Dg.zero).b, w32 (Dg.zero).c, w32 (Dg.zero).d, i64 ((0 : Nat) : Int), i64 ((0 : Nat) : Int)]) (V2 := Value.agg #[i64 ((0 : Nat) : Int), Value.slice none 0 0, Value.slice none 0 0]) (V3 := i64 ((9 : Nat) : Int)) rfl hD_11 (ResIs.cell s4_11 hbb4_10 row_30 rfl rfl) (ResIs.cell s5_11 hbb5_10 row_37 rfl rfl) s6_11 ?_
 rw [keyUse_arg hn4 hbi]
 exact ⟨⟨_, _, _, rfl, rfl, ⟨_, _, rfl, OwnT.nil DG _ 24 _, OwnT.nil DG _ 24 _⟩, rfl⟩, hE_10⟩
 have hbi : 0 ≤ i ∧ i < ((pw n : Nat) : Int) := by simpa using hc1
 refine wp_skip ?_
 refine wp_seq ?_
 obtain ⟨j, rfl⟩ : ∃ n : Nat, i = (n : Int) := ⟨(i).toNat, by omega⟩
 have hj : j < pw n := by omega
 refine region_lex [] [(31, Pr.ex (Value.pointer (some ⟨b2, 0, none⟩))), (32, Pr.ex (Dg.val (seed))), (33, Pr.ex (Value.pointer (some ⟨b2, 4, none⟩))), (34, Pr.ex (i64 ((n : Nat) : Int))), (35, Pr.ex (Value.pointer (some ⟨b2, 5, none⟩))), (36, Pr.ex (i64 ((j : Nat) : Int))), (37, Pr.ex (Dg.val (msg))), (38, Pr.t2 (Pr.ag2 (fun x y => Value.agg #[i64 ((j : Nat) : Int), x, y]) (Pr.own' DG wd7.heap.size 24 (signed (seedAt seed j) msg)) (Pr.own' DG wd7.heap.size 24 (way (publics seed (pw n)) j))) (Pr.ex (i64 ((0 : Nat) : Int)))), (30, Pr.t2 (Pr.ag2 (fun x y => Value.agg #[i64 ((j : Nat) : Int), x, y]) (Pr.own' DG wd7.heap.size 24 (signed (seedAt seed j) msg)) (Pr.own' DG wd7.heap.size 24 (way (publics seed (pw n)) j))) (Pr.ex (i64 ((0 : Nat) : Int)))), (39, Pr.ag2 (fun x y => Value.agg #[i64 ((j : Nat) : Int), x, y]) (Pr.own' DG wd7.heap.size 24 (signed (seedAt seed j) msg)) (Pr.own' DG wd7.heap.size 24 (way (publics seed (pw n)) j))), (40, Pr.ex (i64 ((0 : Nat) : Int)))] 11 hN_7 hD_7 (by kernel_rfl) (by kernel_rfl) ?_ ?_
 refine Asks.cons ?_ (Asks.cons ?_ (Asks.cons ?_ (Asks.cons ?_ (Asks.cons ?_ (Asks.cons ?_ (Asks.cons ?_ (Asks.cons ?_ (Asks.cons ?_ (Asks.cons ?_ (Asks.cons ?_ (Asks.zero _)))))))))))
 exact Ask.plain rfl rfl fun aq wq hNq hO hR hT => does_field (o' := 0) fld_30_0 ((hO 2 rfl).trans s2_7) rfl ⟨Ext.refl _, rfl⟩
 exact Ask.plain rfl rfl fun aq wq hNq hO hR hT => does_loadD (o := 0) (n := 4) (mid := [w32 (seed).a, w32 (seed).b, w32 (seed).c, w32 (seed).d]) (hT 31 rfl rfl) (hbb2_7.ext' hR) rfl rfl (Nat.le_of_ble_eq_true rfl) row_24 rfl ⟨Ext.refl _, rfl⟩
 exact Ask.plain rfl rfl fun aq wq hNq hO hR hT => does_field (o' := 4) fld_30_1 ((hO 2 rfl).trans s2_7) rfl ⟨Ext.refl _, rfl⟩
 exact Ask.plain rfl rfl fun aq wq hNq hO hR hT => does_loadD1 (o := 4) (V := i64 ((n : Nat) : Int)) (hT 33 rfl rfl) (hbb2_7.ext' hR) rfl one_3 ⟨Ext.refl _, rfl⟩
 exact Ask.plain rfl rfl fun aq wq hNq hO hR hT => does_field (o' := 5) fld_30_2 ((hO 2 rfl).trans s2_7) rfl ⟨Ext.refl _, rfl⟩
 exact Ask.plain rfl rfl fun aq wq hNq hO hR hT => does_loadD1 (o := 5) (V := i64 ((j : Nat) : Int)) (hT 35 rfl rfl) (hbb2_7.ext' hR) rfl one_3 ⟨Ext.refl _, rfl⟩
 exact Ask.plain rfl rfl fun aq wq hNq hO hR hT => does_loadD (o := 0) (n := 4) (mid := [w32 (msg).a, w32 (msg).b, w32 (msg).c, w32 (msg).d]) ((hO 3 rfl).trans s3_7) (hbb3_7.ext' hR) rfl rfl (Nat.le_of_ble_eq_true rfl) row_24 rfl ⟨Ext.refl _, rfl⟩
 exact Ask.plain rfl rfl fun aq wq hNq hO hR hT => does_ret (vs := #[Dg.val (seed), i64 ((n : Nat) : Int), i64 ((j : Nat) : Int), Dg.val (msg)]) call_19 (args4 (hT 32 rfl rfl) (hT 34 rfl rfl) (hT 36 rfl rfl) (hT 37 rfl rfl)) rfl ((keySign_k seed n j msg wq (hL.ext (hE_7.trans hR)) hn4 hj).mono fun v w2 h => ⟨h.2, by obtain ⟨x0, x1, hv, k0, k1⟩ := h.1; exact ⟨x0, x1, hv, (by obtain ⟨z0, z1, hz, kz0, kz1⟩ := k0; exact ⟨z0, z1, hz, OwnT.base kz0 hR.size', OwnT.base kz1 hR.size'⟩), k1⟩⟩)
 exact Ask.plain rfl rfl fun aq wq hNq hO hR hT => does_move rfl ⟨Ext.refl _, (hT 38 rfl rfl)⟩
 exact Ask.plain rfl rfl fun aq wq hNq hO hR hT => by
  obtain ⟨x0, x1, hv, k0, k1⟩ := (hT 30 rfl rfl)
  exact does_extract hv rfl ⟨Ext.refl _, k0⟩
 exact Ask.plain rfl rfl fun aq wq hNq hO hR hT => by
  obtain ⟨x0, x1, hv, k0, k1⟩ := (hT 30 rfl rfl)
  exact does_extract (V := i64 ((0 : Nat) : Int)) hv (by rw [show x1 = i64 ((0 : Nat) : Int) from k1]; rfl) ⟨Ext.refl _, rfl⟩
 intro a12 wd12 hN_12 hD_12 hO hR hA hU
 obtain ⟨_, _, _, _, _, _, _, _, _, t39, t40, _⟩ := hA
 have hE_12 := hE_7.trans hR
 have s2_12 := (hO 2 rfl).trans s2_7
 have s4_12 := (hO 4 rfl).trans s4_7
 have s5_12 := (hO 5 rfl).trans s5_7
 have hbb2_12 := hbb2_7.ext' hR
 have hbb3_12 := hbb3_7.ext' hR
 have hbb4_12 := hbb4_7.ext' hR
 have hbb5_12 := hbb5_7.ext' hR
 obtain ⟨x39_0_12, x39_1_12, s39_12, ky39_0_12, ky39_1_12⟩ := t39
 replace ky39_0_12 : OwnT DG wd7.heap.size 24 (signed (seedAt seed j) msg) x39_0_12 wd12 := ky39_0_12
 have nbo_x39_0_12_b2 : x39_0_12.ownBlock ≠ some b2 := fun e => Nat.lt_irrefl _ (Nat.lt_of_lt_of_le hbb2_7.lt (OwnT.block_lt ky39_0_12 e).1)
 have nbo_x39_0_12_b3 : x39_0_12.ownBlock ≠ some b3 := fun e => Nat.lt_irrefl _ (Nat.lt_of_lt_of_le hbb3_7.lt (OwnT.block_lt ky39_0_12 e).1)
 have nbo_x39_0_12_b4 : x39_0_12.ownBlock ≠ some b4 := fun e => Nat.lt_irrefl _ (Nat.lt_of_lt_of_le hbb4_7.lt (OwnT.block_lt ky39_0_12 e).1)
 have nbo_x39_0_12_b5 : x39_0_12.ownBlock ≠ some b5 := fun e => Nat.lt_irrefl _ (Nat.lt_of_lt_of_le hbb5_7.lt (OwnT.block_lt ky39_0_12 e).1)
 have hsx39_0_12_12 := ky39_0_12.sl.wide (Nat.zero_le _) (.inl rfl)
 have hox39_0_12_12 := OwnT.base ky39_0_12 hE_7.size'
 replace ky39_1_12 : OwnT DG wd7.heap.size 24 (way (publics seed (pw n)) j) x39_1_12 wd12 := ky39_1_12
 have nbo_x39_1_12_b2 : x39_1_12.ownBlock ≠ some b2 := fun e => Nat.lt_irrefl _ (Nat.lt_of_lt_of_le hbb2_7.lt (OwnT.block_lt ky39_1_12 e).1)
 have nbo_x39_1_12_b3 : x39_1_12.ownBlock ≠ some b3 := fun e => Nat.lt_irrefl _ (Nat.lt_of_lt_of_le hbb3_7.lt (OwnT.block_lt ky39_1_12 e).1)
 have nbo_x39_1_12_b4 : x39_1_12.ownBlock ≠ some b4 := fun e => Nat.lt_irrefl _ (Nat.lt_of_lt_of_le hbb4_7.lt (OwnT.block_lt ky39_1_12 e).1)
 have nbo_x39_1_12_b5 : x39_1_12.ownBlock ≠ some b5 := fun e => Nat.lt_irrefl _ (Nat.lt_of_lt_of_le hbb5_7.lt (OwnT.block_lt ky39_1_12 e).1)
 have hsx39_1_12_12 := ky39_1_12.sl.wide (Nat.zero_le _) (.inl rfl)
 have hox39_1_12_12 := OwnT.base ky39_1_12 hE_7.size'
 have s40_12 : get a12 40 = i64 ((0 : Nat) : Int) := t40
 clear hE_7 hN_7 hD_7 s2_7 s3_7 s4_7 s5_7 s16_7 hbb2_7 hbb3_7 hbb4_7 hbb5_7
 refine tail_put rfl rfl hN_12 hD_12 (by decide) (does_alloc zero_37 (fun b7 wd13 he lo_b7 hbb7_13 => fun a13 hN_13 hD_13 hv hO => ?_))
 have s7_13 := hv
 have hE_13 := hE_12.trans he
 have hbb2_13 := hbb2_12.ext' he
 have hbb3_13 := hbb3_12.ext' he
 have hbb4_13 := hbb4_12.ext' he
 have hbb5_13 := hbb5_12.ext' he
 have hsx39_0_12_13 := hsx39_0_12_12.ext' he
 have hsx39_1_12_13 := hsx39_1_12_12.ext' he
 have hox39_0_12_13 := hox39_0_12_12.ext' he
 have hox39_1_12_13 := hox39_1_12_12.ext' he
 have fr_b7 : w0.heap.size ≤ b7 := Nat.le_trans hE_12.size' lo_b7
 have ne_b2_b7 : b2 ≠ b7 := fun e => Nat.lt_irrefl _ (Nat.lt_of_lt_of_le hbb2_12.lt (e ▸ lo_b7))
 have ne_b3_b7 : b3 ≠ b7 := fun e => Nat.lt_irrefl _ (Nat.lt_of_lt_of_le hbb3_12.lt (e ▸ lo_b7))
 have ne_b4_b7 : b4 ≠ b7 := fun e => Nat.lt_irrefl _ (Nat.lt_of_lt_of_le hbb4_12.lt (e ▸ lo_b7))
 have ne_b5_b7 : b5 ≠ b7 := fun e => Nat.lt_irrefl _ (Nat.lt_of_lt_of_le hbb5_12.lt (e ▸ lo_b7))
 have nb_x39_0_12_b7 := SlT.old hsx39_0_12_12 lo_b7
 have nb_x39_1_12_b7 := SlT.old hsx39_1_12_12 lo_b7
 have nbo_x39_0_12_b7 : x39_0_12.ownBlock ≠ some b7 := fun e => Nat.lt_irrefl _ (Nat.lt_of_lt_of_le (OwnT.block_lt hox39_0_12_12 e).2 lo_b7)
 have nbo_x39_1_12_b7 : x39_1_12.ownBlock ≠ some b7 := fun e => Nat.lt_irrefl _ (Nat.lt_of_lt_of_le (OwnT.block_lt hox39_1_12_12 e).2 lo_b7)
 have s2_13 := (hO 2 rfl).trans s2_12
 have s4_13 := (hO 4 rfl).trans s4_12
 have s5_13 := (hO 5 rfl).trans s5_12
 have s39_13 := (hO 39 rfl).trans s39_12
 have s40_13 := (hO 40 rfl).trans s40_12
 clear hO hv hN_12 hD_12 hE_12 hbb2_12 hbb3_12 hbb4_12 hbb5_12 hsx39_0_12_12 hsx39_1_12_12 hox39_0_12_12 hox39_1_12_12 s2_12 s4_12 s5_12 s39_12 s40_12
 refine tail_none rfl rfl (does_storeD (o := 0) (n := 3) (cs' := [i64 ((j : Nat) : Int), x39_0_12, x39_1_12]) (V := Value.agg #[i64 ((j : Nat) : Int), x39_0_12, x39_1_12]) s7_13 s39_13 hbb7_13 (Nat.le_of_ble_eq_true rfl) rfl siz_37 (one_cons rfl (one_cons (SlT.one hsx39_0_12_13) (one_cons (SlT.one hsx39_1_12_13) one_nil))) rfl (fun wd14 hX hz hbb7_14 => ?_))
 have hE_14 := hE_13.since hX (fun k e => e ▸ fr_b7)
 have hbb2_14 := hbb2_13.ext hX ne_b2_b7
 have hbb3_14 := hbb3_13.ext hX ne_b3_b7
 have hbb4_14 := hbb4_13.ext hX ne_b4_b7
 have hbb5_14 := hbb5_13.ext hX ne_b5_b7
 have hsx39_0_12_14 := SlT.over hsx39_0_12_13 hX nb_x39_0_12_b7
 have hsx39_1_12_14 := SlT.over hsx39_1_12_13 hX nb_x39_1_12_b7
 have hox39_0_12_14 := OwnT.ext hox39_0_12_13 hX (fun k hk e => nbo_x39_0_12_b7 (e ▸ hk))
 have hox39_1_12_14 := OwnT.ext hox39_1_12_13 hX (fun k hk e => nbo_x39_1_12_b7 (e ▸ hk))
 clear hX hz hE_13 hbb2_13 hbb3_13 hbb4_13 hbb5_13 hbb7_13 hsx39_0_12_13 hsx39_1_12_13 hox39_0_12_13 hox39_1_12_13
 refine tail_put rfl rfl hN_13 hD_13 (by decide) (does_assign (V := i64 ((0 : Nat) : Int)) s40_13 (fun a15 hN_15 hD_15 hv hO => ?_))
 have s8_15 := hv
 have s2_15 := (hO 2 rfl).trans s2_13
 have s4_15 := (hO 4 rfl).trans s4_13
 have s5_15 := (hO 5 rfl).trans s5_13
 have s7_15 := (hO 7 rfl).trans s7_13
 clear hO hv hN_13 hD_13 s2_13 s4_13 s5_13 s7_13 s39_13 s40_13
 refine tail_nil ?_
 refine wp_seq ?_
 refine region_lex [] [(41, Pr.ex (Value.pointer (some ⟨b2, 5, none⟩))), (42, Pr.ex (i64 ((j : Nat) : Int))), (43, Pr.ex (i64 ((j + 1 : Nat) : Int))), (44, Pr.ex (Value.pointer (some ⟨b2, 5, none⟩)))] 4 hN_15 hD_15 (by kernel_rfl) (by kernel_rfl) ?_ ?_
 refine Asks.cons ?_ (Asks.cons ?_ (Asks.cons ?_ (Asks.cons ?_ (Asks.zero _))))
 exact Ask.plain rfl rfl fun aq wq hNq hO hR hT => does_field (o' := 5) fld_30_2 ((hO 2 rfl).trans s2_15) rfl ⟨Ext.refl _, rfl⟩
 exact Ask.plain rfl rfl fun aq wq hNq hO hR hT => does_loadD1 (o := 5) (V := i64 ((j : Nat) : Int)) (hT 41 rfl rfl) (hbb2_14.ext' hR) rfl one_3 ⟨Ext.refl _, rfl⟩
 exact Ask.plain rfl rfl fun aq wq hNq hO hR hT => does_add (a := ((j : Nat) : Int)) (b := ((1 : Nat) : Int)) (r := ((j + 1 : Nat) : Int)) (hT 42 rfl rfl) rfl (by omega) (by omega) (by omega) ⟨Ext.refl _, rfl⟩
 exact Ask.plain rfl rfl fun aq wq hNq hO hR hT => does_field (o' := 5) fld_30_2 ((hO 2 rfl).trans s2_15) rfl ⟨Ext.refl _, rfl⟩
 intro a16 wd16 hN_16 hD_16 hO hR hA hU
 obtain ⟨_, _, t43, t44, _⟩ := hA
 have hE_16 := hE_14.trans hR
 have s2_16 := (hO 2 rfl).trans s2_15
 have s4_16 := (hO 4 rfl).trans s4_15
 have s5_16 := (hO 5 rfl).trans s5_15
 have s7_16 := (hO 7 rfl).trans s7_15
 have hbb2_16 := hbb2_14.ext' hR
 have hbb3_16 := hbb3_14.ext' hR
 have hbb4_16 := hbb4_14.ext' hR
 have hbb5_16 := hbb5_14.ext' hR
 have hbb7_16 := hbb7_14.ext' hR
 have hsx39_0_12_16 := hsx39_0_12_14.ext' hR
 have hsx39_1_12_16 := hsx39_1_12_14.ext' hR
 have hox39_0_12_16 := hox39_0_12_14.ext' hR
 have hox39_1_12_16 := hox39_1_12_14.ext' hR
 have s43_16 : get a16 43 = i64 ((j + 1 : Nat) : Int) := t43
 have s44_16 : get a16 44 = Value.pointer (some ⟨b2, 5, none⟩) := t44
 clear hE_14 hN_15 hD_15 s2_15 s4_15 s5_15 s7_15 s8_15 hbb2_14 hbb3_14 hbb4_14 hbb5_14 hbb7_14 hsx39_0_12_14 hsx39_1_12_14 hox39_0_12_14 hox39_1_12_14
 refine tail_none rfl rfl (does_storeD (o := 5) (n := 1) (cs' := [w32 (seed).a, w32 (seed).b, w32 (seed).c, w32 (seed).d, i64 ((n : Nat) : Int), i64 ((j + 1 : Nat) : Int)]) (V := i64 ((j + 1 : Nat) : Int)) s44_16 s43_16 hbb2_16 (Nat.le_of_ble_eq_true rfl) rfl siz_3 rfl rfl (fun wd17 hX hz hbb2_17 => ?_))
 have hE_17 := hE_16.since hX (fun k e => e ▸ fr_b2)
 have hbb3_17 := hbb3_16.ext hX ne_b2_b3.symm
 have hbb4_17 := hbb4_16.ext hX ne_b2_b4.symm
 have hbb5_17 := hbb5_16.ext hX ne_b2_b5.symm
 have hbb7_17 := hbb7_16.ext hX ne_b2_b7.symm
 have hsx39_0_12_17 := SlT.over hsx39_0_12_16 hX (fun _ => nbo_x39_0_12_b2)
 have hsx39_1_12_17 := SlT.over hsx39_1_12_16 hX (fun _ => nbo_x39_1_12_b2)
 have hox39_0_12_17 := OwnT.ext hox39_0_12_16 hX (fun k hk e => nbo_x39_0_12_b2 (e ▸ hk))
 have hox39_1_12_17 := OwnT.ext hox39_1_12_16 hX (fun k hk e => nbo_x39_1_12_b2 (e ▸ hk))
 clear hX hz hE_16 hbb2_16 hbb3_16 hbb4_16 hbb5_16 hbb7_16 hsx39_0_12_16 hsx39_1_12_16 hox39_0_12_16 hox39_1_12_16
 refine tail_nil ?_
 refine wp_seq ?_
 refine region_late [] [(45, Pr.ex (Value.agg #[w32 (seed).a, w32 (seed).b, w32 (seed).c, w32 (seed).d, i64 ((n : Nat) : Int), i64 ((j + 1 : Nat) : Int)])), (46, Pr.ex (Value.agg #[i64 ((j : Nat) : Int), x39_0_12, x39_1_12]))] 2 [1] (fun k => k = b4 ∨ k = b5) mixed hN_16 hD_16 (by kernel_rfl) (by kernel_rfl) (by kernel_rfl) (by kernel_rfl) (fun d v c a w h => by cases d <;> exact h) ?_ ?_ ?_
 refine Asks.cons ?_ (Asks.cons ?_ (Asks.zero _))
 exact Ask.plainD rfl rfl fun aq wq hNq hO hR hT => does_loadD (o := 0) (n := 6) (mid := [w32 (seed).a, w32 (seed).b, w32 (seed).c, w32 (seed).d, i64 ((n : Nat) : Int), i64 ((j + 1 : Nat) : Int)]) ((hO 2 rfl).trans s2_16) (hbb2_17.ext' hR) rfl rfl (Nat.le_of_ble_eq_true rfl) row_30 rfl ⟨Ext.refl _, rfl⟩
 exact Ask.plainD rfl rfl fun aq wq hNq hO hR hT => does_loadD (o := 0) (n := 3) (mid := [i64 ((j : Nat) : Int), x39_0_12, x39_1_12]) ((hO 7 rfl).trans s7_16) (hbb7_17.ext' hR) rfl rfl (Nat.le_of_ble_eq_true rfl) row_37 rfl ⟨Ext.refl _, rfl⟩
 refine LateAsks.cons rfl rfl rfl ?_ LateAsks.nil
 intro aq wq hO hR hT
 have hR0 := hR
 replace hR := (Ext.drew _).trans hR
 exact ⟨_, yl_loadD (o := 0) (n := 3) (mid := [i64 ((j : Nat) : Int), x39_0_12, x39_1_12]) ((hO 7 rfl).trans s7_16) hbb7_17 (fun e => e.elim ne_b4_b7.symm ne_b5_b7.symm) rfl rfl (Nat.le_of_ble_eq_true rfl) row_37 rfl, rfl⟩
 intro wl hwl hwh a18 wd18 hN_18 hD_18 hO hR hA hU
 have hS_18 : ExtE (fun k => k = b4 ∨ k = b5) wl wd18 := hR.toE
 replace hR := hwl.trans hR
 obtain ⟨t45, t46, _⟩ := hA
 have hE_18 := hE_17.trans hR
 have s4_18 := (hO 4 rfl).trans s4_16
 have s5_18 := (hO 5 rfl).trans s5_16
 have hbb2_18 := hbb2_17.ext' hR
 have hbb3_18 := hbb3_17.ext' hR
 have hbb4_18 := hbb4_17.ext' hR
 have hbb5_18 := hbb5_17.ext' hR
 have hbb7_18 := hbb7_17.ext' hR
 have hsx39_0_12_18 := hsx39_0_12_17.ext' hR
 have hsx39_1_12_18 := hsx39_1_12_17.ext' hR
 have hox39_0_12_18 := hox39_0_12_17.ext' hR
 have hox39_1_12_18 := hox39_1_12_17.ext' hR
 have s45_18 : get a18 45 = Value.agg #[w32 (seed).a, w32 (seed).b, w32 (seed).c, w32 (seed).d, i64 ((n : Nat) : Int), i64 ((j + 1 : Nat) : Int)] := t45
 have s46_18 : get a18 46 = Value.agg #[i64 ((j : Nat) : Int), x39_0_12, x39_1_12] := t46
 clear hE_17 hN_16 hD_16 s2_16 s4_16 s5_16 s7_16 s43_16 s44_16 hbb2_17 hbb3_17 hbb4_17 hbb5_17 hbb7_17 hsx39_0_12_17 hsx39_1_12_17 hox39_0_12_17 hox39_1_12_17
 refine tailS_none rfl rfl (does_storeD (o := 0) (n := 6) (cs' := [w32 (seed).a, w32 (seed).b, w32 (seed).c, w32 (seed).d, i64 ((n : Nat) : Int), i64 ((j + 1 : Nat) : Int)]) (V := Value.agg #[w32 (seed).a, w32 (seed).b, w32 (seed).c, w32 (seed).d, i64 ((n : Nat) : Int), i64 ((j + 1 : Nat) : Int)]) s4_18 s45_18 hbb4_18 (Nat.le_of_ble_eq_true rfl) rfl siz_30 rfl rfl (fun wd19 hX hz hbb4_19 => ⟨hS_18.trans (hX.mono fun k _ e => .inl e), ?_⟩))
 have hS_19 := hS_18.trans (hX.mono (E' := (fun k => k = b4 ∨ k = b5)) fun k _ e => .inl e)
 have hE_19 := hE_18.since hX (fun k e => e ▸ fr_b4)
 have hbb2_19 := hbb2_18.ext hX ne_b2_b4
 have hbb3_19 := hbb3_18.ext hX ne_b3_b4
 have hbb5_19 := hbb5_18.ext hX ne_b4_b5.symm
 have hbb7_19 := hbb7_18.ext hX ne_b4_b7.symm
 have hsx39_0_12_19 := SlT.over hsx39_0_12_18 hX (fun _ => nbo_x39_0_12_b4)
 have hsx39_1_12_19 := SlT.over hsx39_1_12_18 hX (fun _ => nbo_x39_1_12_b4)
 have hox39_0_12_19 := OwnT.ext hox39_0_12_18 hX (fun k hk e => nbo_x39_0_12_b4 (e ▸ hk))
 have hox39_1_12_19 := OwnT.ext hox39_1_12_18 hX (fun k hk e => nbo_x39_1_12_b4 (e ▸ hk))
 clear hX hz hE_18 hbb2_18 hbb3_18 hbb4_18 hbb5_18 hbb7_18 hsx39_0_12_18 hsx39_1_12_18 hox39_0_12_18 hox39_1_12_18
 refine tailS_none rfl rfl (does_storeD (o := 0) (n := 3) (cs' := [i64 ((j : Nat) : Int), x39_0_12, x39_1_12]) (V := Value.agg #[i64 ((j : Nat) : Int), x39_0_12, x39_1_12]) s5_18 s46_18 hbb5_19 (Nat.le_of_ble_eq_true rfl) rfl siz_37 (one_cons rfl (one_cons (SlT.one hsx39_0_12_19) (one_cons (SlT.one hsx39_1_12_19) one_nil))) rfl (fun wd20 hX hz hbb5_20 => ⟨hS_19.trans (hX.mono fun k _ e => .inr e), ?_⟩))
 have hS_20 := hS_19.trans (hX.mono (E' := (fun k => k = b4 ∨ k = b5)) fun k _ e => .inr e)
 have hE_20 := hE_19.since hX (fun k e => e ▸ fr_b5)
 have hbb2_20 := hbb2_19.ext hX ne_b2_b5
 have hbb3_20 := hbb3_19.ext hX ne_b3_b5
 have hbb4_20 := hbb4_19.ext hX ne_b4_b5
 have hbb7_20 := hbb7_19.ext hX ne_b5_b7.symm
 have hsx39_0_12_20 := SlT.over hsx39_0_12_19 hX (fun _ => nbo_x39_0_12_b5)
 have hsx39_1_12_20 := SlT.over hsx39_1_12_19 hX (fun _ => nbo_x39_1_12_b5)
 have hox39_0_12_20 := OwnT.ext hox39_0_12_19 hX (fun k hk e => nbo_x39_0_12_b5 (e ▸ hk))
 have hox39_1_12_20 := OwnT.ext hox39_1_12_19 hX (fun k hk e => nbo_x39_1_12_b5 (e ▸ hk))
 clear hX hz hE_19 hbb2_19 hbb3_19 hbb4_19 hbb5_19 hbb7_19 hsx39_0_12_19 hsx39_1_12_19 hox39_0_12_19 hox39_1_12_19
 refine tailS_put rfl rfl hN_18 hD_18 (by decide) (does_assign (V := i64 ((0 : Nat) : Int)) rfl (⟨hS_20, fun a21 hN_21 hD_21 hv hO => ?_⟩))
 have s6_21 := hv
 have s4_21 := (hO 4 rfl).trans s4_18
 have s5_21 := (hO 5 rfl).trans s5_18
 clear hO hv hN_18 hD_18 s4_18 s5_18 s45_18 s46_18
 refine tailS_nil ?_
 refine wp_ret ?_
 refine res_three (V1 := Value.agg #[w32 (seed).a, w32 (seed).b, w32 (seed).c, w32 (seed).d, i64 ((n : Nat) : Int), i64 ((j + 1 : Nat) : Int)]) (V2 := Value.agg #[i64 ((j : Nat) : Int), x39_0_12, x39_1_12]) (V3 := i64 ((0 : Nat) : Int)) rfl hD_21 (ResIs.cell s4_21 hbb4_20 row_30 rfl rfl) (ResIs.cell s5_21 hbb5_20 row_37 rfl rfl) s6_21 ?_
 rw [keyUse_ok hn4 hj]
 exact ⟨⟨_, _, _, rfl, rfl, ⟨_, _, rfl, hox39_0_12_20, hox39_1_12_20⟩, rfl⟩, hE_20⟩

theorem keyUse_k (seed : Dg) (n j : Nat) (msg : Dg) (w0 : World) (hL : Laid w0) (hn : n ≤ 4) (hj : j < pw n) : Gives Tryd.prog 11 #[Value.agg #[w32 (seed).a, w32 (seed).b, w32 (seed).c, w32 (seed).d, i64 ((n : Nat) : Int), i64 ((j : Nat) : Int)], Dg.val msg] w0 (Pr.t3 (Pr.ex (Value.agg #[w32 (seed).a, w32 (seed).b, w32 (seed).c, w32 (seed).d, i64 ((n : Nat) : Int), i64 ((j + 1 : Nat) : Int)])) (Pr.ag2 (fun x y => Value.agg #[i64 ((j : Nat) : Int), x, y]) (Pr.own' DG w0.heap.size 24 (signed (seedAt seed j) msg)) (Pr.own' DG w0.heap.size 24 (way (publics seed (pw n)) j))) (Pr.ex (i64 ((0 : Nat) : Int)))) := by
  have h := keyUse_ seed n j msg w0 hL
  rw [keyUse_ok hn hj] at h
  exact h

end Go.Proofs.YtaeohnkfmachfabDoor
