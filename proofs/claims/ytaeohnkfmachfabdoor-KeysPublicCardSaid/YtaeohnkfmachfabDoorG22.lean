/- The walks of functions of the program: printed. -/
import Derived.Test.YtaeohnkfmachfabDoorG3
import Derived.Test.YtaeohnkfmachfabDoorG7
import Derived.Test.YtaeohnkfmachfabDoorG21
import Derived.Test.YtaeohnkfmachfabDoorF0
set_option maxRecDepth 100000
namespace Go.Proofs.YtaeohnkfmachfabDoor
open Go Go.RowKit Sk Sd
theorem up__r : ∀ (N : Nat) (n i : Nat) (leaf : Dg) (l : List Dg) (ok : Bool) (b p : Nat) (w0 : World) (hL : Laid w0) (hb0 : ¬ (0 = b)) (hS : StkAt 75 b p l ok w0) (hpb : p ≠ b) (hpl : p < w0.heap.size) (h1 : 1 ≤ n) (hi : i < n) (hnn : n ≤ 100000) (hn : l.length ≤ 100000) (hN : n = N),
    GivesW Tryd.prog 52 #[Value.pointer (some ⟨b, 0, none⟩), i64 ((n : Nat) : Int), i64 ((i : Nat) : Int), Dg.val (leaf)] w0 b (Dg.val (upS n i leaf l ok).1) (StkAt 75 b p (upS n i leaf l ok).2.1 (upS n i leaf l ok).2.2) := by
 intro N
 induction N using Nat.strongRecOn with
 | _ N ih =>
  intro n i leaf l ok b p w0 hL hb0 hS hpb hpl h1 hi hnn hn hN
  refine enter (N := 39) Tryd.func52 rfl rfl ?_
  intro a0 hN_0 hD_0 hA
  have s0_0 : get a0 0 = Value.pointer (some ⟨b, 0, none⟩) := hA 0 _ rfl
  have s1_0 : get a0 1 = i64 ((n : Nat) : Int) := hA 1 _ rfl
  have s2_0 : get a0 2 = i64 ((i : Nat) : Int) := hA 2 _ rfl
  have s3_0 : get a0 3 = Dg.val (leaf) := hA 3 _ rfl
  clear hA
  have hE_0 : ExtE (fun k => k = b) w0 w0 := ExtE.refl _ _
  obtain ⟨x1, hb, hx1⟩ := hS
  have hsx1_0 := hx1
  refine wp_seq ?_
  refine region_lex [7, 8] [(7, Pr.box' w0.heap.size 24 [w32 (leaf).a, w32 (leaf).b, w32 (leaf).c, w32 (leaf).d]), (8, Pr.box' w0.heap.size 24 [w32 (Dg.zero).a, w32 (Dg.zero).b, w32 (Dg.zero).c, w32 (Dg.zero).d])] 2 hN_0 hD_0 (by kernel_rfl) (by kernel_rfl) ?_ ?_
  refine Asks.cons ?_ (Asks.cons ?_ (Asks.zero _))
  refine Ask.fresh rfl rfl ?_
  intro aq wq hNq hO hR hT
  exact does_box (V := Dg.val (leaf)) ((hO 3 rfl).trans s3_0) (fun b w2 he hlo hb => ⟨he, ⟨b, rfl, Nat.le_trans hR.size' hlo, hb⟩, ⟨b, rfl, hlo, hb.lt⟩⟩)
  refine Ask.fresh rfl rfl ?_
  intro aq wq hNq hO hR hT
  exact does_alloc zero_24 (fun b w2 he hlo hb => ⟨he, ⟨b, rfl, Nat.le_trans hR.size' hlo, hb⟩, ⟨b, rfl, hlo, hb.lt⟩⟩)
  intro a1 wd1 hN_1 hD_1 hO hR hA hU
  obtain ⟨t7, t8, _⟩ := hA
  have hE_1 := hE_0.trans hR.toE
  have s0_1 := (hO 0 rfl).trans s0_0
  have s1_1 := (hO 1 rfl).trans s1_0
  have s2_1 := (hO 2 rfl).trans s2_0
  have hbb_1 := hb.ext' hR
  have hsx1_1 := hsx1_0.ext' hR
  obtain ⟨b7, s7_1, lo_b7, hbb7_1⟩ := t7
  have ne_b_b7 : b ≠ b7 := fun e => Nat.lt_irrefl _ (Nat.lt_of_lt_of_le hb.lt (e ▸ lo_b7))
  have nb_x1_b7 := SlT.old hsx1_0 lo_b7
  have fr_b7 : w0.heap.size ≤ b7 := Nat.le_trans hE_0.size' lo_b7
  obtain ⟨b8, s8_1, lo_b8, hbb8_1⟩ := t8
  have ne_b_b8 : b ≠ b8 := fun e => Nat.lt_irrefl _ (Nat.lt_of_lt_of_le hb.lt (e ▸ lo_b8))
  have nb_x1_b8 := SlT.old hsx1_0 lo_b8
  have fr_b8 : w0.heap.size ≤ b8 := Nat.le_trans hE_0.size' lo_b8
  obtain ⟨u0, ⟨u1, _⟩⟩ := hU
  have ne_b7_b8 : b7 ≠ b8 := fun e => u0 8 (by decide) (by rw [s7_1, s8_1, e])
  clear hE_0 hN_0 hD_0 s0_0 s1_0 s2_0 s3_0 hb hsx1_0
  refine tail_nil ?_
  refine wp_seq ?_
  refine wp_seq ?_
  refine region_lex [] [(11, Pr.ex (i64 ((n : Nat) : Int))), (12, Pr.ex (Value.bool (decide (((n : Nat) : Int) = ((1 : Nat) : Int)))))] 2 hN_1 hD_1 (by kernel_rfl) (by kernel_rfl) ?_ ?_
  refine Asks.cons ?_ (Asks.cons ?_ (Asks.zero _))
  exact Ask.plain rfl rfl fun aq wq hNq hO hR hT => does_move (V := i64 ((n : Nat) : Int)) ((hO 1 rfl).trans s1_1) ⟨Ext.refl _, rfl⟩
  exact Ask.plain rfl rfl fun aq wq hNq hO hR hT => does_eql (a := ((n : Nat) : Int)) (b := ((1 : Nat) : Int)) (hT 11 rfl rfl) rfl ⟨Ext.refl _, rfl⟩
  intro a2 wd2 hN_2 hD_2 hO hR hA hU
  obtain ⟨_, t12, _⟩ := hA
  have hE_2 := hE_1.trans hR.toE
  have s0_2 := (hO 0 rfl).trans s0_1
  have s1_2 := (hO 1 rfl).trans s1_1
  have s2_2 := (hO 2 rfl).trans s2_1
  have s7_2 := (hO 7 rfl).trans s7_1
  have s8_2 := (hO 8 rfl).trans s8_1
  have hbb_2 := hbb_1.ext' hR
  have hbb7_2 := hbb7_1.ext' hR
  have hbb8_2 := hbb8_1.ext' hR
  have hsx1_2 := hsx1_1.ext' hR
  have s12_2 : get a2 12 = Value.bool (decide (((n : Nat) : Int) = ((1 : Nat) : Int))) := t12
  clear hE_1 hN_1 hD_1 s0_1 s1_1 s2_1 s7_1 s8_1 hbb_1 hbb7_1 hbb8_1 hsx1_1
  refine tail_nil ?_
  refine wp_if (B := decide (((n : Nat) : Int) = ((1 : Nat) : Int))) s12_2 (fun hc0 => ?_) (fun hc0 => ?_)
  have hc0 := of_decide_eq_true hc0
  refine wp_seq ?_
  refine region_lex [] [(13, Pr.ex (Dg.val (leaf)))] 1 hN_2 hD_2 (by kernel_rfl) (by kernel_rfl) ?_ ?_
  refine Asks.cons ?_ (Asks.zero _)
  exact Ask.plain rfl rfl fun aq wq hNq hO hR hT => does_loadD (o := 0) (n := 4) (mid := [w32 (leaf).a, w32 (leaf).b, w32 (leaf).c, w32 (leaf).d]) ((hO 7 rfl).trans s7_2) (hbb7_2.ext' hR) rfl rfl (Nat.le_of_ble_eq_true rfl) row_24 rfl ⟨Ext.refl _, rfl⟩
  intro a3 wd3 hN_3 hD_3 hO hR hA hU
  obtain ⟨t13, _⟩ := hA
  have hE_3 := hE_2.trans hR.toE
  have s8_3 := (hO 8 rfl).trans s8_2
  have hbb_3 := hbb_2.ext' hR
  have hbb7_3 := hbb7_2.ext' hR
  have hbb8_3 := hbb8_2.ext' hR
  have hsx1_3 := hsx1_2.ext' hR
  have s13_3 : get a3 13 = Dg.val (leaf) := t13
  clear hE_2 hN_2 hD_2 s0_2 s1_2 s2_2 s7_2 s8_2 s12_2 hbb_2 hbb7_2 hbb8_2 hsx1_2
  refine tail_none rfl rfl (does_storeD (o := 0) (n := 4) (cs' := [w32 (leaf).a, w32 (leaf).b, w32 (leaf).c, w32 (leaf).d]) (V := Dg.val (leaf)) s8_3 s13_3 hbb8_3 (Nat.le_of_ble_eq_true rfl) rfl siz_24 rfl rfl (fun wd4 hX hz hbb8_4 => ?_))
  have hE_4 := hE_3.since hX (fun k e => e ▸ fr_b8)
  have hbb_4 := hbb_3.ext hX ne_b_b8
  have hbb7_4 := hbb7_3.ext hX ne_b7_b8
  have hsx1_4 := SlT.over hsx1_3 hX nb_x1_b8
  clear hX hz hE_3 hbb_3 hbb7_3 hbb8_3 hsx1_3
  refine tail_nil ?_
  refine wp_ret ?_
  refine res_one (V := Dg.val (leaf)) rfl hD_3 (ResIs.cell s8_3 hbb8_4 row_24 rfl rfl) ?_
  refine ⟨by rw [upS_end1 (by omega)], hE_4, ?_⟩
  have hS' : StkAt 75 b p (l) (ok) wd4 := ⟨_, hbb_4, hsx1_4⟩
  rw [upS_end2 (by omega)]
  exact hS'
  have hc0 := of_decide_eq_false hc0
  have h2 : 2 ≤ n := by omega
  have hh := half_lt h2
  have hp := half_pos n
  refine wp_skip ?_
  refine wp_seq ?_
  refine region_lex [] [(14, Pr.ex (i64 ((n : Nat) : Int))), (15, Pr.ex (i64 ((half n : Nat) : Int))), (16, Pr.ex (Value.pointer (some ⟨b, 0, none⟩)))] 3 hN_2 hD_2 (by kernel_rfl) (by kernel_rfl) ?_ ?_
  refine Asks.cons ?_ (Asks.cons ?_ (Asks.cons ?_ (Asks.zero _)))
  exact Ask.plain rfl rfl fun aq wq hNq hO hR hT => does_move (V := i64 ((n : Nat) : Int)) ((hO 1 rfl).trans s1_2) ⟨Ext.refl _, rfl⟩
  exact Ask.plain rfl rfl fun aq wq hNq hO hR hT => does_ret (vs := #[i64 ((n : Nat) : Int)]) call_45 (args1 (hT 14 rfl rfl)) rfl ((half_ (n) wq (by omega) (by omega)).mono fun v w2 h => ⟨h.2, h.1⟩)
  exact Ask.plain rfl rfl fun aq wq hNq hO hR hT => does_move (V := Value.pointer (some ⟨b, 0, none⟩)) ((hO 0 rfl).trans s0_2) ⟨Ext.refl _, rfl⟩
  intro a5 wd5 hN_5 hD_5 hO hR hA hU
  obtain ⟨_, t15, t16, _⟩ := hA
  have hE_5 := hE_2.trans hR.toE
  have s0_5 := (hO 0 rfl).trans s0_2
  have s1_5 := (hO 1 rfl).trans s1_2
  have s2_5 := (hO 2 rfl).trans s2_2
  have s7_5 := (hO 7 rfl).trans s7_2
  have s8_5 := (hO 8 rfl).trans s8_2
  have hbb_5 := hbb_2.ext' hR
  have hbb7_5 := hbb7_2.ext' hR
  have hbb8_5 := hbb8_2.ext' hR
  have hsx1_5 := hsx1_2.ext' hR
  have s15_5 : get a5 15 = i64 ((half n : Nat) : Int) := t15
  have s16_5 : get a5 16 = Value.pointer (some ⟨b, 0, none⟩) := t16
  clear hE_2 hN_2 hD_2 s0_2 s1_2 s2_2 s7_2 s8_2 s12_2 hbb_2 hbb7_2 hbb8_2 hsx1_2
  refine tail_put rfl rfl hN_5 hD_5 (by decide) (does_ret (vs := #[Value.pointer (some ⟨b, 0, none⟩)]) call_64 (args1 s16_5) rfl ((pop_ l ok b p wd5 ⟨_, hbb_5, hsx1_5⟩ hpb (Nat.lt_of_lt_of_le hpl hE_5.size') hn).mono fun v wd6 h => fun a6 hN_6 hD_6 hv hO => ?_))
  obtain ⟨hp, hX, hS⟩ := h
  have hE_6 := hE_5.trans hX
  have hbb7_6 := hbb7_5.ext hX ne_b_b7.symm
  have hbb8_6 := hbb8_5.ext hX ne_b_b8.symm
  have hsx1_6 := SlT.over hsx1_5 hX (SlT.pinned hsx1_5 hpb)
  obtain ⟨xs6, hbb_6, hsxs6_6⟩ := hS
  have s17_6 := hv.trans hp
  have s0_6 := (hO 0 rfl).trans s0_5
  have s1_6 := (hO 1 rfl).trans s1_5
  have s2_6 := (hO 2 rfl).trans s2_5
  have s7_6 := (hO 7 rfl).trans s7_5
  have s8_6 := (hO 8 rfl).trans s8_5
  have s15_6 := (hO 15 rfl).trans s15_5
  clear hO hv hp hX hN_5 hD_5 hE_5 hbb_5 hbb7_5 hbb8_5 hsx1_5 s0_5 s1_5 s2_5 s7_5 s8_5 s15_5 s16_5
  refine tail_put rfl rfl hN_6 hD_6 (by decide) (does_alloc zero_24 (fun b10 wd7 he lo_b10 hbb10_7 => fun a7 hN_7 hD_7 hv hO => ?_))
  have s10_7 := hv
  have hE_7 := hE_6.trans he.toE
  have hbb_7 := hbb_6.ext' he
  have hbb7_7 := hbb7_6.ext' he
  have hbb8_7 := hbb8_6.ext' he
  have hsx1_7 := hsx1_6.ext' he
  have hsxs6_7 := hsxs6_6.ext' he
  have fr_b10 : w0.heap.size ≤ b10 := Nat.le_trans hE_6.size' lo_b10
  have ne_b_b10 : b ≠ b10 := fun e => Nat.lt_irrefl _ (Nat.lt_of_lt_of_le hbb_6.lt (e ▸ lo_b10))
  have ne_b7_b10 : b7 ≠ b10 := fun e => Nat.lt_irrefl _ (Nat.lt_of_lt_of_le hbb7_6.lt (e ▸ lo_b10))
  have ne_b8_b10 : b8 ≠ b10 := fun e => Nat.lt_irrefl _ (Nat.lt_of_lt_of_le hbb8_6.lt (e ▸ lo_b10))
  have nb_x1_b10 := SlT.old hsx1_6 lo_b10
  have nb_xs6_b10 := SlT.old hsxs6_6 lo_b10
  have s0_7 := (hO 0 rfl).trans s0_6
  have s1_7 := (hO 1 rfl).trans s1_6
  have s2_7 := (hO 2 rfl).trans s2_6
  have s7_7 := (hO 7 rfl).trans s7_6
  have s8_7 := (hO 8 rfl).trans s8_6
  have s15_7 := (hO 15 rfl).trans s15_6
  have s17_7 := (hO 17 rfl).trans s17_6
  clear hO hv hN_6 hD_6 hE_6 hbb_6 hbb7_6 hbb8_6 hsx1_6 hsxs6_6 s0_6 s1_6 s2_6 s7_6 s8_6 s15_6 s17_6
  refine tail_put rfl rfl hN_7 hD_7 (by decide) (does_assign (V := i64 ((half n : Nat) : Int)) s15_7 (fun a8 hN_8 hD_8 hv hO => ?_))
  have s9_8 := hv
  have s0_8 := (hO 0 rfl).trans s0_7
  have s1_8 := (hO 1 rfl).trans s1_7
  have s2_8 := (hO 2 rfl).trans s2_7
  have s7_8 := (hO 7 rfl).trans s7_7
  have s8_8 := (hO 8 rfl).trans s8_7
  have s10_8 := (hO 10 rfl).trans s10_7
  have s17_8 := (hO 17 rfl).trans s17_7
  clear hO hv hN_7 hD_7 s0_7 s1_7 s2_7 s7_7 s8_7 s10_7 s15_7 s17_7
  refine tail_none rfl rfl (does_storeD (o := 0) (n := 4) (cs' := [w32 (l.getLastD Dg.zero).a, w32 (l.getLastD Dg.zero).b, w32 (l.getLastD Dg.zero).c, w32 (l.getLastD Dg.zero).d]) (V := Dg.val (l.getLastD Dg.zero)) s10_8 s17_8 hbb10_7 (Nat.le_of_ble_eq_true rfl) rfl siz_24 rfl rfl (fun wd9 hX hz hbb10_9 => ?_))
  have hE_9 := hE_7.since hX (fun k e => e ▸ fr_b10)
  have hbb_9 := hbb_7.ext hX ne_b_b10
  have hbb7_9 := hbb7_7.ext hX ne_b7_b10
  have hbb8_9 := hbb8_7.ext hX ne_b8_b10
  have hsx1_9 := SlT.over hsx1_7 hX nb_x1_b10
  have hsxs6_9 := SlT.over hsxs6_7 hX nb_xs6_b10
  clear hX hz hE_7 hbb_7 hbb7_7 hbb8_7 hbb10_7 hsx1_7 hsxs6_7
  refine tail_nil ?_
  refine wp_seq ?_
  refine wp_seq ?_
  refine region_lex [] [(18, Pr.ex (i64 ((i : Nat) : Int))), (19, Pr.ex (i64 ((half n : Nat) : Int))), (20, Pr.ex (Value.bool (decide (((i : Nat) : Int) < ((half n : Nat) : Int)))))] 3 hN_8 hD_8 (by kernel_rfl) (by kernel_rfl) ?_ ?_
  refine Asks.cons ?_ (Asks.cons ?_ (Asks.cons ?_ (Asks.zero _)))
  exact Ask.plain rfl rfl fun aq wq hNq hO hR hT => does_move (V := i64 ((i : Nat) : Int)) ((hO 2 rfl).trans s2_8) ⟨Ext.refl _, rfl⟩
  exact Ask.plain rfl rfl fun aq wq hNq hO hR hT => does_move (V := i64 ((half n : Nat) : Int)) ((hO 9 rfl).trans s9_8) ⟨Ext.refl _, rfl⟩
  exact Ask.plain rfl rfl fun aq wq hNq hO hR hT => does_lss (a := ((i : Nat) : Int)) (b := ((half n : Nat) : Int)) (hT 18 rfl rfl) (hT 19 rfl rfl) ⟨Ext.refl _, rfl⟩
  intro a10 wd10 hN_10 hD_10 hO hR hA hU
  obtain ⟨_, _, t20, _⟩ := hA
  have hE_10 := hE_9.trans hR.toE
  have s0_10 := (hO 0 rfl).trans s0_8
  have s1_10 := (hO 1 rfl).trans s1_8
  have s2_10 := (hO 2 rfl).trans s2_8
  have s7_10 := (hO 7 rfl).trans s7_8
  have s8_10 := (hO 8 rfl).trans s8_8
  have s9_10 := (hO 9 rfl).trans s9_8
  have s10_10 := (hO 10 rfl).trans s10_8
  have hbb_10 := hbb_9.ext' hR
  have hbb7_10 := hbb7_9.ext' hR
  have hbb8_10 := hbb8_9.ext' hR
  have hbb10_10 := hbb10_9.ext' hR
  have hsx1_10 := hsx1_9.ext' hR
  have hsxs6_10 := hsxs6_9.ext' hR
  have s20_10 : get a10 20 = Value.bool (decide (((i : Nat) : Int) < ((half n : Nat) : Int))) := t20
  clear hE_9 hN_8 hD_8 s0_8 s1_8 s2_8 s7_8 s8_8 s9_8 s10_8 s17_8 hbb_9 hbb7_9 hbb8_9 hbb10_9 hsx1_9 hsxs6_9
  refine tail_nil ?_
  refine wp_if (B := decide (((i : Nat) : Int) < ((half n : Nat) : Int))) s20_10 (fun hc1 => ?_) (fun hc1 => ?_)
  have hc1 := of_decide_eq_true hc1
  have hlt : i < half n := by omega
  refine wp_seq ?_
  refine region_anyW (fun k => k = b) (StkAt 75 b p (upS (half n) i leaf l.dropLast (ok && !l.isEmpty)).2.1 (upS (half n) i leaf l.dropLast (ok && !l.isEmpty)).2.2) [(21, Pr.ex (Value.pointer (some ⟨b, 0, none⟩))), (22, Pr.ex (i64 ((half n : Nat) : Int))), (23, Pr.ex (i64 ((i : Nat) : Int))), (24, Pr.ex (Dg.val (leaf))), (25, Pr.exW (Dg.val ((upS (half n) i leaf l.dropLast (ok && !l.isEmpty)).1))), (26, Pr.ex (Dg.val (l.getLastD Dg.zero))), (27, Pr.ex (Dg.val (pair ((upS (half n) i leaf l.dropLast (ok && !l.isEmpty)).1) (l.getLastD Dg.zero))))] 4 7 mixed StkAt.holds hN_10 hD_10 (by kernel_rfl) (by kernel_rfl) ?_ ?_
  refine AsksW.cons ?_ (AsksW.cons ?_ (AsksW.cons ?_ (AsksW.cons ?_ (AsksW.cons ?_ (AsksW.cons ?_ (AsksW.cons ?_ (AsksW.zero _)))))))
  refine AskW.plain rfl rfl rfl ?_
  intro aq wq hNq hO hR hT
  replace hR := (WrP.of StkAt.holds (Ext.drew _)).trans hR
  exact does_move (V := Value.pointer (some ⟨b, 0, none⟩)) ((hO 0 rfl).trans s0_10) ⟨Ext.refl _, rfl⟩
  refine AskW.plain rfl rfl rfl ?_
  intro aq wq hNq hO hR hT
  replace hR := (WrP.of StkAt.holds (Ext.drew _)).trans hR
  exact does_move (V := i64 ((half n : Nat) : Int)) ((hO 9 rfl).trans s9_10) ⟨Ext.refl _, rfl⟩
  refine AskW.plain rfl rfl rfl ?_
  intro aq wq hNq hO hR hT
  replace hR := (WrP.of StkAt.holds (Ext.drew _)).trans hR
  exact does_move (V := i64 ((i : Nat) : Int)) ((hO 2 rfl).trans s2_10) ⟨Ext.refl _, rfl⟩
  refine AskW.plain rfl rfl rfl ?_
  intro aq wq hNq hO hR hT
  replace hR := (WrP.of StkAt.holds (Ext.drew _)).trans hR
  exact does_loadD (o := 0) (n := 4) (mid := [w32 (leaf).a, w32 (leaf).b, w32 (leaf).c, w32 (leaf).d]) ((hO 7 rfl).trans s7_10) (hbb7_10.ext hR.ext ne_b_b7.symm) rfl rfl (Nat.le_of_ble_eq_true rfl) row_24 rfl ⟨Ext.refl _, rfl⟩
  refine AskW.write rfl rfl rfl ?_
  intro aq wq hNq hO hR hT
  replace hR := (Ext.drew _).trans hR
  exact does_ret (vs := #[Value.pointer (some ⟨b, 0, none⟩), i64 ((half n : Nat) : Int), i64 ((i : Nat) : Int), Dg.val (leaf)]) call_52 (args4 (hT 21 rfl rfl) (hT 22 rfl rfl) (hT 23 rfl rfl) (hT 24 rfl rfl)) rfl ((ih _ (by omega) (half n) i leaf l.dropLast (ok && !l.isEmpty) b p wq (Laid.extE hL (hE_10.trans hR.toE) hb0) hb0 ⟨_, (hbb_10.ext' hR), (hsxs6_10.ext' hR)⟩ hpb (Nat.lt_of_lt_of_le hpl (hE_10.trans hR.toE).size') (by omega) (by omega) (by omega) (by simp only [List.length_dropLast]; omega) rfl).write fun w2 hW hS => ⟨hW, rfl, hS⟩)
  refine AskW.plain rfl rfl rfl ?_
  intro aq wq hNq hO hR hT
  replace hR := (WrP.of StkAt.holds (Ext.drew _)).trans hR
  exact does_loadD (o := 0) (n := 4) (mid := [w32 (l.getLastD Dg.zero).a, w32 (l.getLastD Dg.zero).b, w32 (l.getLastD Dg.zero).c, w32 (l.getLastD Dg.zero).d]) ((hO 10 rfl).trans s10_10) (hbb10_10.ext hR.ext ne_b_b10.symm) rfl rfl (Nat.le_of_ble_eq_true rfl) row_24 rfl ⟨Ext.refl _, rfl⟩
  refine AskW.plain rfl rfl rfl ?_
  intro aq wq hNq hO hR hT
  replace hR := (WrP.of StkAt.holds (Ext.drew _)).trans hR
  exact does_ret (vs := #[Dg.val ((upS (half n) i leaf l.dropLast (ok && !l.isEmpty)).1), Dg.val (l.getLastD Dg.zero)]) call_46 (args2 (And.left (hT 25 rfl rfl)) (hT 26 rfl rfl)) rfl ((pair_ ((upS (half n) i leaf l.dropLast (ok && !l.isEmpty)).1) (l.getLastD Dg.zero) wq (Laid.extE hL (hE_10.trans hR.ext) hb0)).mono fun v w2 h => ⟨h.2, h.1⟩)
  intro a11 wd11 hN_11 hD_11 hO hR hA
  obtain ⟨_, _, _, _, t25, _, t27, _⟩ := hA
  obtain ⟨t25, hS⟩ := t25
  have hX := hR.ext
  have hE_11 := hE_10.trans hX
  have hbb7_11 := hbb7_10.ext hX ne_b_b7.symm
  have hbb8_11 := hbb8_10.ext hX ne_b_b8.symm
  have hbb10_11 := hbb10_10.ext hX ne_b_b10.symm
  have hsx1_11 := SlT.over hsx1_10 hX (SlT.pinned hsx1_10 hpb)
  have hsxs6_11 := SlT.over hsxs6_10 hX (SlT.pinned hsxs6_10 hpb)
  obtain ⟨xs11, hbb_11, hsxs11_11⟩ := hS
  have s8_11 := (hO 8 rfl).trans s8_10
  have s27_11 : get a11 27 = Dg.val (pair ((upS (half n) i leaf l.dropLast (ok && !l.isEmpty)).1) (l.getLastD Dg.zero)) := t27
  clear hO hX hR hN_10 hD_10 hE_10 hbb_10 hbb7_10 hbb8_10 hbb10_10 hsx1_10 hsxs6_10 s0_10 s1_10 s2_10 s7_10 s8_10 s9_10 s10_10 s20_10
  refine tail_none rfl rfl (does_storeD (o := 0) (n := 4) (cs' := [w32 (pair ((upS (half n) i leaf l.dropLast (ok && !l.isEmpty)).1) (l.getLastD Dg.zero)).a, w32 (pair ((upS (half n) i leaf l.dropLast (ok && !l.isEmpty)).1) (l.getLastD Dg.zero)).b, w32 (pair ((upS (half n) i leaf l.dropLast (ok && !l.isEmpty)).1) (l.getLastD Dg.zero)).c, w32 (pair ((upS (half n) i leaf l.dropLast (ok && !l.isEmpty)).1) (l.getLastD Dg.zero)).d]) (V := Dg.val (pair ((upS (half n) i leaf l.dropLast (ok && !l.isEmpty)).1) (l.getLastD Dg.zero))) s8_11 s27_11 hbb8_11 (Nat.le_of_ble_eq_true rfl) rfl siz_24 rfl rfl (fun wd12 hX hz hbb8_12 => ?_))
  have hE_12 := hE_11.since hX (fun k e => e ▸ fr_b8)
  have hbb_12 := hbb_11.ext hX ne_b_b8
  have hbb7_12 := hbb7_11.ext hX ne_b7_b8
  have hbb10_12 := hbb10_11.ext hX ne_b8_b10.symm
  have hsx1_12 := SlT.over hsx1_11 hX nb_x1_b8
  have hsxs6_12 := SlT.over hsxs6_11 hX (SlT.pinned hsxs6_11 (Nat.ne_of_lt (Nat.lt_of_lt_of_le hpl fr_b8)))
  have hsxs11_12 := SlT.over hsxs11_11 hX (SlT.pinned hsxs11_11 (Nat.ne_of_lt (Nat.lt_of_lt_of_le hpl fr_b8)))
  clear hX hz hE_11 hbb_11 hbb7_11 hbb8_11 hbb10_11 hsx1_11 hsxs6_11 hsxs11_11
  refine tail_nil ?_
  refine wp_ret ?_
  refine res_one (V := Dg.val (pair ((upS (half n) i leaf l.dropLast (ok && !l.isEmpty)).1) (l.getLastD Dg.zero))) rfl hD_11 (ResIs.cell s8_11 hbb8_12 row_24 rfl rfl) ?_
  refine ⟨by rw [upS_lo1 h2 hlt], hE_12, ?_⟩
  have hS' : StkAt 75 b p ((upS (half n) i leaf l.dropLast (ok && !l.isEmpty)).2.1) ((upS (half n) i leaf l.dropLast (ok && !l.isEmpty)).2.2) wd12 := ⟨_, hbb_12, hsxs11_12⟩
  rw [upS_lo2 h2 hlt]
  exact hS'
  have hc1 := of_decide_eq_false hc1
  have hge : ¬ i < half n := by omega
  refine wp_skip ?_
  refine wp_seq ?_
  refine region_anyW (fun k => k = b) (StkAt 75 b p (upS (n - (half n)) (i - (half n)) leaf l.dropLast (ok && !l.isEmpty)).2.1 (upS (n - (half n)) (i - (half n)) leaf l.dropLast (ok && !l.isEmpty)).2.2) [(28, Pr.ex (Dg.val (l.getLastD Dg.zero))), (29, Pr.ex (Value.pointer (some ⟨b, 0, none⟩))), (30, Pr.ex (i64 ((n : Nat) : Int))), (31, Pr.ex (i64 ((half n : Nat) : Int))), (32, Pr.ex (i64 ((n - (half n) : Nat) : Int))), (33, Pr.ex (i64 ((i : Nat) : Int))), (34, Pr.ex (i64 ((half n : Nat) : Int))), (35, Pr.ex (i64 ((i - (half n) : Nat) : Int))), (36, Pr.ex (Dg.val (leaf))), (37, Pr.exW (Dg.val ((upS (n - (half n)) (i - (half n)) leaf l.dropLast (ok && !l.isEmpty)).1))), (38, Pr.ex (Dg.val (pair (l.getLastD Dg.zero) ((upS (n - (half n)) (i - (half n)) leaf l.dropLast (ok && !l.isEmpty)).1))))] 9 11 mixed StkAt.holds hN_10 hD_10 (by kernel_rfl) (by kernel_rfl) ?_ ?_
  refine AsksW.cons ?_ (AsksW.cons ?_ (AsksW.cons ?_ (AsksW.cons ?_ (AsksW.cons ?_ (AsksW.cons ?_ (AsksW.cons ?_ (AsksW.cons ?_ (AsksW.cons ?_ (AsksW.cons ?_ (AsksW.cons ?_ (AsksW.zero _)))))))))))
  refine AskW.plain rfl rfl rfl ?_
  intro aq wq hNq hO hR hT
  replace hR := (WrP.of StkAt.holds (Ext.drew _)).trans hR
  exact does_loadD (o := 0) (n := 4) (mid := [w32 (l.getLastD Dg.zero).a, w32 (l.getLastD Dg.zero).b, w32 (l.getLastD Dg.zero).c, w32 (l.getLastD Dg.zero).d]) ((hO 10 rfl).trans s10_10) (hbb10_10.ext hR.ext ne_b_b10.symm) rfl rfl (Nat.le_of_ble_eq_true rfl) row_24 rfl ⟨Ext.refl _, rfl⟩
  refine AskW.plain rfl rfl rfl ?_
  intro aq wq hNq hO hR hT
  replace hR := (WrP.of StkAt.holds (Ext.drew _)).trans hR
  exact does_move (V := Value.pointer (some ⟨b, 0, none⟩)) ((hO 0 rfl).trans s0_10) ⟨Ext.refl _, rfl⟩
  refine AskW.plain rfl rfl rfl ?_
  intro aq wq hNq hO hR hT
  replace hR := (WrP.of StkAt.holds (Ext.drew _)).trans hR
  exact does_move (V := i64 ((n : Nat) : Int)) ((hO 1 rfl).trans s1_10) ⟨Ext.refl _, rfl⟩
  refine AskW.plain rfl rfl rfl ?_
  intro aq wq hNq hO hR hT
  replace hR := (WrP.of StkAt.holds (Ext.drew _)).trans hR
  exact does_move (V := i64 ((half n : Nat) : Int)) ((hO 9 rfl).trans s9_10) ⟨Ext.refl _, rfl⟩
  refine AskW.plain rfl rfl rfl ?_
  intro aq wq hNq hO hR hT
  replace hR := (WrP.of StkAt.holds (Ext.drew _)).trans hR
  exact does_sub (a := ((n : Nat) : Int)) (b := ((half n : Nat) : Int)) (r := ((n - (half n) : Nat) : Int)) (hT 30 rfl rfl) (hT 31 rfl rfl) (by omega) (by omega) (by omega) ⟨Ext.refl _, rfl⟩
  refine AskW.plain rfl rfl rfl ?_
  intro aq wq hNq hO hR hT
  replace hR := (WrP.of StkAt.holds (Ext.drew _)).trans hR
  exact does_move (V := i64 ((i : Nat) : Int)) ((hO 2 rfl).trans s2_10) ⟨Ext.refl _, rfl⟩
  refine AskW.plain rfl rfl rfl ?_
  intro aq wq hNq hO hR hT
  replace hR := (WrP.of StkAt.holds (Ext.drew _)).trans hR
  exact does_move (V := i64 ((half n : Nat) : Int)) ((hO 9 rfl).trans s9_10) ⟨Ext.refl _, rfl⟩
  refine AskW.plain rfl rfl rfl ?_
  intro aq wq hNq hO hR hT
  replace hR := (WrP.of StkAt.holds (Ext.drew _)).trans hR
  exact does_sub (a := ((i : Nat) : Int)) (b := ((half n : Nat) : Int)) (r := ((i - (half n) : Nat) : Int)) (hT 33 rfl rfl) (hT 34 rfl rfl) (by omega) (by omega) (by omega) ⟨Ext.refl _, rfl⟩
  refine AskW.plain rfl rfl rfl ?_
  intro aq wq hNq hO hR hT
  replace hR := (WrP.of StkAt.holds (Ext.drew _)).trans hR
  exact does_loadD (o := 0) (n := 4) (mid := [w32 (leaf).a, w32 (leaf).b, w32 (leaf).c, w32 (leaf).d]) ((hO 7 rfl).trans s7_10) (hbb7_10.ext hR.ext ne_b_b7.symm) rfl rfl (Nat.le_of_ble_eq_true rfl) row_24 rfl ⟨Ext.refl _, rfl⟩
  refine AskW.write rfl rfl rfl ?_
  intro aq wq hNq hO hR hT
  replace hR := (Ext.drew _).trans hR
  exact does_ret (vs := #[Value.pointer (some ⟨b, 0, none⟩), i64 ((n - (half n) : Nat) : Int), i64 ((i - (half n) : Nat) : Int), Dg.val (leaf)]) call_52 (args4 (hT 29 rfl rfl) (hT 32 rfl rfl) (hT 35 rfl rfl) (hT 36 rfl rfl)) rfl ((ih _ (by omega) (n - (half n)) (i - (half n)) leaf l.dropLast (ok && !l.isEmpty) b p wq (Laid.extE hL (hE_10.trans hR.toE) hb0) hb0 ⟨_, (hbb_10.ext' hR), (hsxs6_10.ext' hR)⟩ hpb (Nat.lt_of_lt_of_le hpl (hE_10.trans hR.toE).size') (by omega) (by omega) (by omega) (by simp only [List.length_dropLast]; omega) rfl).write fun w2 hW hS => ⟨hW, rfl, hS⟩)
  refine AskW.plain rfl rfl rfl ?_
  intro aq wq hNq hO hR hT
  replace hR := (WrP.of StkAt.holds (Ext.drew _)).trans hR
  exact does_ret (vs := #[Dg.val (l.getLastD Dg.zero), Dg.val ((upS (n - (half n)) (i - (half n)) leaf l.dropLast (ok && !l.isEmpty)).1)]) call_46 (args2 (hT 28 rfl rfl) (And.left (hT 37 rfl rfl))) rfl ((pair_ (l.getLastD Dg.zero) ((upS (n - (half n)) (i - (half n)) leaf l.dropLast (ok && !l.isEmpty)).1) wq (Laid.extE hL (hE_10.trans hR.ext) hb0)).mono fun v w2 h => ⟨h.2, h.1⟩)
  intro a13 wd13 hN_13 hD_13 hO hR hA
  obtain ⟨_, _, _, _, _, _, _, _, _, t37, t38, _⟩ := hA
  obtain ⟨t37, hS⟩ := t37
  have hX := hR.ext
  have hE_13 := hE_10.trans hX
  have hbb7_13 := hbb7_10.ext hX ne_b_b7.symm
  have hbb8_13 := hbb8_10.ext hX ne_b_b8.symm
  have hbb10_13 := hbb10_10.ext hX ne_b_b10.symm
  have hsx1_13 := SlT.over hsx1_10 hX (SlT.pinned hsx1_10 hpb)
  have hsxs6_13 := SlT.over hsxs6_10 hX (SlT.pinned hsxs6_10 hpb)
  obtain ⟨xs13, hbb_13, hsxs13_13⟩ := hS
  have s8_13 := (hO 8 rfl).trans s8_10
  have s38_13 : get a13 38 = Dg.val (pair (l.getLastD Dg.zero) ((upS (n - (half n)) (i - (half n)) leaf l.dropLast (ok && !l.isEmpty)).1)) := t38
  clear hO hX hR hN_10 hD_10 hE_10 hbb_10 hbb7_10 hbb8_10 hbb10_10 hsx1_10 hsxs6_10 s0_10 s1_10 s2_10 s7_10 s8_10 s9_10 s10_10 s20_10
  refine tail_none rfl rfl (does_storeD (o := 0) (n := 4) (cs' := [w32 (pair (l.getLastD Dg.zero) ((upS (n - (half n)) (i - (half n)) leaf l.dropLast (ok && !l.isEmpty)).1)).a, w32 (pair (l.getLastD Dg.zero) ((upS (n - (half n)) (i - (half n)) leaf l.dropLast (ok && !l.isEmpty)).1)).b, w32 (pair (l.getLastD Dg.zero) ((upS (n - (half n)) (i - (half n)) leaf l.dropLast (ok && !l.isEmpty)).1)).c, w32 (pair (l.getLastD Dg.zero) ((upS (n - (half n)) (i - (half n)) leaf l.dropLast (ok && !l.isEmpty)).1)).d]) (V := Dg.val (pair (l.getLastD Dg.zero) ((upS (n - (half n)) (i - (half n)) leaf l.dropLast (ok && !l.isEmpty)).1))) s8_13 s38_13 hbb8_13 (Nat.le_of_ble_eq_true rfl) rfl siz_24 rfl rfl (fun wd14 hX hz hbb8_14 => ?_))
  have hE_14 := hE_13.since hX (fun k e => e ▸ fr_b8)
  have hbb_14 := hbb_13.ext hX ne_b_b8
  have hbb7_14 := hbb7_13.ext hX ne_b7_b8
  have hbb10_14 := hbb10_13.ext hX ne_b8_b10.symm
  have hsx1_14 := SlT.over hsx1_13 hX nb_x1_b8
  have hsxs6_14 := SlT.over hsxs6_13 hX (SlT.pinned hsxs6_13 (Nat.ne_of_lt (Nat.lt_of_lt_of_le hpl fr_b8)))
  have hsxs13_14 := SlT.over hsxs13_13 hX (SlT.pinned hsxs13_13 (Nat.ne_of_lt (Nat.lt_of_lt_of_le hpl fr_b8)))
  clear hX hz hE_13 hbb_13 hbb7_13 hbb8_13 hbb10_13 hsx1_13 hsxs6_13 hsxs13_13
  refine tail_nil ?_
  refine wp_ret ?_
  refine res_one (V := Dg.val (pair (l.getLastD Dg.zero) ((upS (n - (half n)) (i - (half n)) leaf l.dropLast (ok && !l.isEmpty)).1))) rfl hD_13 (ResIs.cell s8_13 hbb8_14 row_24 rfl rfl) ?_
  refine ⟨by rw [upS_hi1 h2 hge], hE_14, ?_⟩
  have hS' : StkAt 75 b p ((upS (n - (half n)) (i - (half n)) leaf l.dropLast (ok && !l.isEmpty)).2.1) ((upS (n - (half n)) (i - (half n)) leaf l.dropLast (ok && !l.isEmpty)).2.2) wd14 := ⟨_, hbb_14, hsxs13_14⟩
  rw [upS_hi2 h2 hge]
  exact hS'
theorem up_ (n i : Nat) (leaf : Dg) (l : List Dg) (ok : Bool) (b p : Nat) (w0 : World) (hL : Laid w0) (hb0 : ¬ (0 = b)) (hS : StkAt 75 b p l ok w0) (hpb : p ≠ b) (hpl : p < w0.heap.size) (h1 : 1 ≤ n) (hi : i < n) (hnn : n ≤ 100000) (hn : l.length ≤ 100000) :
    GivesW Tryd.prog 52 #[Value.pointer (some ⟨b, 0, none⟩), i64 ((n : Nat) : Int), i64 ((i : Nat) : Int), Dg.val (leaf)] w0 b (Dg.val (upS n i leaf l ok).1) (StkAt 75 b p (upS n i leaf l ok).2.1 (upS n i leaf l ok).2.2) := up__r _ n i leaf l ok b p w0 hL hb0 hS hpb hpl h1 hi hnn hn rfl

theorem up_I (n i : Int) (leaf : Dg) (l : List Dg) (ok : Bool) (b p : Nat) (w0 : World) (hL : Laid w0) (hb0 : ¬ (0 = b)) (hS : StkAt 75 b p l ok w0) (hpb : p ≠ b) (hpl : p < w0.heap.size) (h0 : 0 ≤ i) (hi : i < n) (hnn : n ≤ 100000) (hn : l.length ≤ 100000) :
    GivesW Tryd.prog 52 #[Value.pointer (some ⟨b, 0, none⟩), i64 (n), i64 (i), Dg.val (leaf)] w0 b (Dg.val (upS n.toNat i.toNat leaf l ok).1) (StkAt 75 b p (upS n.toNat i.toNat leaf l ok).2.1 (upS n.toNat i.toNat leaf l ok).2.2) := by
  obtain ⟨j, rfl⟩ : ∃ j : Nat, i = j := ⟨i.toNat, by omega⟩
  obtain ⟨k, rfl⟩ : ∃ k : Nat, n = k := ⟨n.toNat, by omega⟩
  exact up_ k j leaf l ok b p w0 hL hb0 hS hpb hpl (by omega) (by omega) (by omega) hn

end Go.Proofs.YtaeohnkfmachfabDoor
