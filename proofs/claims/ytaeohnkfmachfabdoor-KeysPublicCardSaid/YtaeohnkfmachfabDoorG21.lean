/- The walks of functions of the program: printed. -/
import Derived.Test.YtaeohnkfmachfabDoorG3
import Derived.Test.YtaeohnkfmachfabDoorF0
set_option maxRecDepth 100000
namespace Go.Proofs.YtaeohnkfmachfabDoor
open Go Go.RowKit Sk Sd
theorem pop_ (l : List Dg) (ok : Bool) (b p : Nat) (w0 : World) (hS : StkAt 75 b p l ok w0) (hpb : p ≠ b) (hpl : p < w0.heap.size) (hn : l.length ≤ 100000) :
    GivesW Tryd.prog 64 #[Value.pointer (some ⟨b, 0, none⟩)] w0 b (Dg.val (l.getLastD Dg.zero)) (StkAt 75 b p l.dropLast (ok && !l.isEmpty)) := by
 refine enter (N := 41) Tryd.func64 rfl rfl ?_
 intro a0 hN_0 hD_0 hA
 have s0_0 : get a0 0 = Value.pointer (some ⟨b, 0, none⟩) := hA 0 _ rfl
 clear hA
 have hE_0 : ExtE (fun k => k = b) w0 w0 := ExtE.refl _ _
 obtain ⟨x1, hb, hx1⟩ := hS
 have hsx1_0 := hx1
 refine wp_seq ?_
 refine region_lex [2] [(2, Pr.box' w0.heap.size 24 [w32 (Dg.zero).a, w32 (Dg.zero).b, w32 (Dg.zero).c, w32 (Dg.zero).d])] 1 hN_0 hD_0 (by kernel_rfl) (by kernel_rfl) ?_ ?_
 refine Asks.cons ?_ (Asks.zero _)
 refine Ask.fresh rfl rfl ?_
 intro aq wq hNq hO hR hT
 exact does_alloc zero_24 (fun b w2 he hlo hb => ⟨he, ⟨b, rfl, Nat.le_trans hR.size' hlo, hb⟩, ⟨b, rfl, hlo, hb.lt⟩⟩)
 intro a1 wd1 hN_1 hD_1 hO hR hA hU
 obtain ⟨t2, _⟩ := hA
 have hE_1 := hE_0.trans hR.toE
 have s0_1 := (hO 0 rfl).trans s0_0
 have hbb_1 := hb.ext' hR
 have hsx1_1 := hsx1_0.ext' hR
 obtain ⟨b2, s2_1, lo_b2, hbb2_1⟩ := t2
 have ne_b_b2 : b ≠ b2 := fun e => Nat.lt_irrefl _ (Nat.lt_of_lt_of_le hb.lt (e ▸ lo_b2))
 have nb_x1_b2 := SlT.old hsx1_0 lo_b2
 have fr_b2 : w0.heap.size ≤ b2 := Nat.le_trans hE_0.size' lo_b2
 clear hE_0 hN_0 hD_0 s0_0 hb hsx1_0
 refine tail_nil ?_
 refine wp_seq ?_
 refine wp_seq ?_
 refine region_lex [] [(4, Pr.ex (Value.pointer (some ⟨b, 0, none⟩))), (5, Pr.ex (Value.pointer (some ⟨b, 0, none⟩))), (6, Pr.ex (Value.pointer (some ⟨b, 0, none⟩))), (7, Pr.ex (x1)), (8, Pr.ex (i64 ((l.length : Nat) : Int))), (9, Pr.ex (Value.bool (decide (((l.length : Nat) : Int) = ((0 : Nat) : Int)))))] 6 hN_1 hD_1 (by kernel_rfl) (by kernel_rfl) ?_ ?_
 refine Asks.cons ?_ (Asks.cons ?_ (Asks.cons ?_ (Asks.cons ?_ (Asks.cons ?_ (Asks.cons ?_ (Asks.zero _))))))
 exact Ask.plain rfl rfl fun aq wq hNq hO hR hT => does_move (V := Value.pointer (some ⟨b, 0, none⟩)) ((hO 0 rfl).trans s0_1) ⟨Ext.refl _, rfl⟩
 exact Ask.plain rfl rfl fun aq wq hNq hO hR hT => does_nilCheck (hT 4 rfl rfl) ⟨Ext.refl _, rfl⟩
 exact Ask.plain rfl rfl fun aq wq hNq hO hR hT => does_field (o' := 0) fld_75_0 (hT 5 rfl rfl) rfl ⟨Ext.refl _, rfl⟩
 exact Ask.plain rfl rfl fun aq wq hNq hO hR hT => does_loadD1 (o := 0) (V := x1) (hT 6 rfl rfl) (hbb_1.ext' hR) rfl one_34 ⟨Ext.refl _, rfl⟩
 exact Ask.plain rfl rfl fun aq wq hNq hO hR hT => does_len (T := DG) (xs := l) sli_34 (SlT.at (hT 7 rfl rfl) (hsx1_1.ext' hR)) ⟨Ext.refl _, rfl⟩
 exact Ask.plain rfl rfl fun aq wq hNq hO hR hT => does_eql (a := ((l.length : Nat) : Int)) (b := ((0 : Nat) : Int)) (hT 8 rfl rfl) rfl ⟨Ext.refl _, rfl⟩
 intro a2 wd2 hN_2 hD_2 hO hR hA hU
 obtain ⟨_, _, _, _, _, t9, _⟩ := hA
 have hE_2 := hE_1.trans hR.toE
 have s0_2 := (hO 0 rfl).trans s0_1
 have s2_2 := (hO 2 rfl).trans s2_1
 have hbb_2 := hbb_1.ext' hR
 have hbb2_2 := hbb2_1.ext' hR
 have hsx1_2 := hsx1_1.ext' hR
 have s9_2 : get a2 9 = Value.bool (decide (((l.length : Nat) : Int) = ((0 : Nat) : Int))) := t9
 clear hE_1 hN_1 hD_1 s0_1 s2_1 hbb_1 hbb2_1 hsx1_1
 refine tail_nil ?_
 refine wp_if (B := decide (((l.length : Nat) : Int) = ((0 : Nat) : Int))) s9_2 (fun hc0 => ?_) (fun hc0 => ?_)
 have hc0 := of_decide_eq_true hc0
 refine wp_seq ?_
 refine region_lex [] [(10, Pr.ex (Value.pointer (some ⟨b, 0, none⟩))), (11, Pr.ex (Value.pointer (some ⟨b, 0, none⟩))), (12, Pr.ex (Value.pointer (some ⟨b, 1, none⟩)))] 3 hN_2 hD_2 (by kernel_rfl) (by kernel_rfl) ?_ ?_
 refine Asks.cons ?_ (Asks.cons ?_ (Asks.cons ?_ (Asks.zero _)))
 exact Ask.plain rfl rfl fun aq wq hNq hO hR hT => does_move (V := Value.pointer (some ⟨b, 0, none⟩)) ((hO 0 rfl).trans s0_2) ⟨Ext.refl _, rfl⟩
 exact Ask.plain rfl rfl fun aq wq hNq hO hR hT => does_nilCheck (hT 10 rfl rfl) ⟨Ext.refl _, rfl⟩
 exact Ask.plain rfl rfl fun aq wq hNq hO hR hT => does_field (o' := 1) fld_75_1 (hT 11 rfl rfl) rfl ⟨Ext.refl _, rfl⟩
 intro a3 wd3 hN_3 hD_3 hO hR hA hU
 obtain ⟨_, _, t12, _⟩ := hA
 have hE_3 := hE_2.trans hR.toE
 have s2_3 := (hO 2 rfl).trans s2_2
 have hbb_3 := hbb_2.ext' hR
 have hbb2_3 := hbb2_2.ext' hR
 have hsx1_3 := hsx1_2.ext' hR
 have s12_3 : get a3 12 = Value.pointer (some ⟨b, 1, none⟩) := t12
 clear hE_2 hN_2 hD_2 s0_2 s2_2 s9_2 hbb_2 hbb2_2 hsx1_2
 refine tail_none rfl rfl (does_storeD (o := 1) (n := 1) (cs' := [x1, Value.bool (false)]) (V := Value.bool (false)) s12_3 rfl hbb_3 (Nat.le_of_ble_eq_true rfl) rfl siz_4 rfl rfl (fun wd4 hX hz hbb_4 => ?_))
 have hE_4 := hE_3.trans hX
 have hbb2_4 := hbb2_3.ext hX ne_b_b2.symm
 have hsx1_4 := SlT.over hsx1_3 hX (SlT.pinned hsx1_3 hpb)
 clear hX hz hE_3 hbb_3 hbb2_3 hsx1_3
 refine tail_nil ?_
 refine wp_seq ?_
 refine region_lex [] [(13, Pr.ex (Dg.val (Dg.zero)))] 1 hN_3 hD_3 (by kernel_rfl) (by kernel_rfl) ?_ ?_
 refine Asks.cons ?_ (Asks.zero _)
 exact Ask.plain rfl rfl fun aq wq hNq hO hR hT => does_build (vs := #[]) (V := Dg.val (Dg.zero)) parts0 (by kernel_rfl) ⟨Ext.refl _, rfl⟩
 intro a5 wd5 hN_5 hD_5 hO hR hA hU
 obtain ⟨t13, _⟩ := hA
 have hE_5 := hE_4.trans hR.toE
 have s2_5 := (hO 2 rfl).trans s2_3
 have hbb_5 := hbb_4.ext' hR
 have hbb2_5 := hbb2_4.ext' hR
 have hsx1_5 := hsx1_4.ext' hR
 have s13_5 : get a5 13 = Dg.val (Dg.zero) := t13
 clear hE_4 hN_3 hD_3 s2_3 s12_3 hbb_4 hbb2_4 hsx1_4
 refine tail_none rfl rfl (does_storeD (o := 0) (n := 4) (cs' := [w32 (Dg.zero).a, w32 (Dg.zero).b, w32 (Dg.zero).c, w32 (Dg.zero).d]) (V := Dg.val (Dg.zero)) s2_5 s13_5 hbb2_5 (Nat.le_of_ble_eq_true rfl) rfl siz_24 rfl rfl (fun wd6 hX hz hbb2_6 => ?_))
 have hE_6 := hE_5.since hX (fun k e => e ▸ fr_b2)
 have hbb_6 := hbb_5.ext hX ne_b_b2
 have hsx1_6 := SlT.over hsx1_5 hX nb_x1_b2
 clear hX hz hE_5 hbb_5 hbb2_5 hsx1_5
 refine tail_nil ?_
 refine wp_ret ?_
 refine res_one (V := Dg.val (Dg.zero)) rfl hD_5 (ResIs.cell s2_5 hbb2_6 row_24 rfl rfl) ?_
 have hl0 : l = [] := List.length_eq_zero_iff.1 (by omega)
 refine ⟨by rw [hl0]; rfl, hE_6, ?_⟩
 have hS' : StkAt 75 b p l false wd6 := ⟨_, hbb_6, hsx1_6⟩
 rw [hl0] at hS' ⊢
 rw [show (ok && !([] : List Dg).isEmpty) = false by simp]
 exact hS'
 have hc0 := of_decide_eq_false hc0
 obtain ⟨z, hz⟩ := get_of_lt (l := l) (k := l.length - 1) (by omega)
 refine wp_skip ?_
 refine wp_seq ?_
 refine region_any [3] [(14, Pr.ex (Value.pointer (some ⟨b, 0, none⟩))), (15, Pr.ex (Value.pointer (some ⟨b, 0, none⟩))), (16, Pr.ex (Value.pointer (some ⟨b, 0, none⟩))), (17, Pr.ex (x1)), (18, Pr.ex (Value.pointer (some ⟨b, 0, none⟩))), (19, Pr.ex (Value.pointer (some ⟨b, 0, none⟩))), (20, Pr.ex (Value.pointer (some ⟨b, 0, none⟩))), (21, Pr.ex (x1)), (22, Pr.ex (i64 ((l.length : Nat) : Int))), (23, Pr.ex (i64 ((l.length - 1 : Nat) : Int))), (24, Pr.pt' p (p + 2) [w32 (z).a, w32 (z).b, w32 (z).c, w32 (z).d]), (25, Pr.ex (Dg.val (z))), (3, Pr.box' wd2.heap.size 24 [w32 (Dg.zero).a, w32 (Dg.zero).b, w32 (Dg.zero).c, w32 (Dg.zero).d])] 13 mixed hN_2 hD_2 (by kernel_rfl) (by kernel_rfl) (by kernel_rfl) ?_ ?_
 refine Asks.cons ?_ (Asks.cons ?_ (Asks.cons ?_ (Asks.cons ?_ (Asks.cons ?_ (Asks.cons ?_ (Asks.cons ?_ (Asks.cons ?_ (Asks.cons ?_ (Asks.cons ?_ (Asks.cons ?_ (Asks.cons ?_ (Asks.cons ?_ (Asks.zero _)))))))))))))
 exact Ask.plainD rfl rfl fun aq wq hNq hO hR hT => does_move (V := Value.pointer (some ⟨b, 0, none⟩)) ((hO 0 rfl).trans s0_2) ⟨Ext.refl _, rfl⟩
 exact Ask.plainD rfl rfl fun aq wq hNq hO hR hT => does_nilCheck (hT 14 rfl rfl) ⟨Ext.refl _, rfl⟩
 exact Ask.plainD rfl rfl fun aq wq hNq hO hR hT => does_field (o' := 0) fld_75_0 (hT 15 rfl rfl) rfl ⟨Ext.refl _, rfl⟩
 exact Ask.plainD rfl rfl fun aq wq hNq hO hR hT => does_loadD1 (o := 0) (V := x1) (hT 16 rfl rfl) (hbb_2.ext' hR) rfl one_34 ⟨Ext.refl _, rfl⟩
 exact Ask.plainD rfl rfl fun aq wq hNq hO hR hT => does_move (V := Value.pointer (some ⟨b, 0, none⟩)) ((hO 0 rfl).trans s0_2) ⟨Ext.refl _, rfl⟩
 exact Ask.plainD rfl rfl fun aq wq hNq hO hR hT => does_nilCheck (hT 18 rfl rfl) ⟨Ext.refl _, rfl⟩
 exact Ask.plainD rfl rfl fun aq wq hNq hO hR hT => does_field (o' := 0) fld_75_0 (hT 19 rfl rfl) rfl ⟨Ext.refl _, rfl⟩
 exact Ask.plainD rfl rfl fun aq wq hNq hO hR hT => does_loadD1 (o := 0) (V := x1) (hT 20 rfl rfl) (hbb_2.ext' hR) rfl one_34 ⟨Ext.refl _, rfl⟩
 exact Ask.plainD rfl rfl fun aq wq hNq hO hR hT => does_len (T := DG) (xs := l) sli_34 (SlT.at (hT 21 rfl rfl) (hsx1_2.ext' hR)) ⟨Ext.refl _, rfl⟩
 exact Ask.plainD rfl rfl fun aq wq hNq hO hR hT => does_sub (a := ((l.length : Nat) : Int)) (b := ((1 : Nat) : Int)) (r := ((l.length - 1 : Nat) : Int)) (hT 22 rfl rfl) rfl (by omega) (by omega) (by omega) ⟨Ext.refl _, rfl⟩
 exact Ask.plainD rfl rfl fun aq wq hNq hO hR hT => does_indexSl (T := DG) (xs := l) (i := ((l.length - 1 : Nat) : Int)) (X := z) sli_34 rfl (SlT.at (hT 17 rfl rfl) (hsx1_2.ext' hR)) (hT 23 rfl rfl) (by omega) (by simpa using hz) (fun v h => ⟨Ext.refl _, h⟩)
 exact Ask.plainD rfl rfl fun aq wq hNq hO hR hT => does_loadP (cs := [w32 (z).a, w32 (z).b, w32 (z).c, w32 (z).d]) (hT 24 rfl rfl) row_24 rfl ⟨Ext.refl _, rfl⟩
 refine Ask.fresh rfl rfl ?_
 intro aq wq hNq hO hR hT
 replace hR := (Ext.drew _).trans hR
 exact does_alloc zero_24 (fun b w2 he hlo hb => ⟨he, ⟨b, rfl, Nat.le_trans hR.size' hlo, hb⟩, ⟨b, rfl, hlo, hb.lt⟩⟩)
 intro a7 wd7 hN_7 hD_7 hO hR hA hU
 obtain ⟨_, _, _, _, _, _, _, _, _, _, _, t25, t3, _⟩ := hA
 have hE_7 := hE_2.trans hR.toE
 have s0_7 := (hO 0 rfl).trans s0_2
 have s2_7 := (hO 2 rfl).trans s2_2
 have hbb_7 := hbb_2.ext' hR
 have hbb2_7 := hbb2_2.ext' hR
 have hsx1_7 := hsx1_2.ext' hR
 have s25_7 : get a7 25 = Dg.val (z) := t25
 obtain ⟨b3, s3_7, lo_b3, hbb3_7⟩ := t3
 have ne_b_b3 : b ≠ b3 := fun e => Nat.lt_irrefl _ (Nat.lt_of_lt_of_le hbb_2.lt (e ▸ lo_b3))
 have ne_b2_b3 : b2 ≠ b3 := fun e => Nat.lt_irrefl _ (Nat.lt_of_lt_of_le hbb2_2.lt (e ▸ lo_b3))
 have nb_x1_b3 := SlT.old hsx1_2 lo_b3
 have fr_b3 : w0.heap.size ≤ b3 := Nat.le_trans hE_2.size' lo_b3
 clear hE_2 hN_2 hD_2 s0_2 s2_2 s9_2 hbb_2 hbb2_2 hsx1_2
 refine tail_none rfl rfl (does_storeD (o := 0) (n := 4) (cs' := [w32 (z).a, w32 (z).b, w32 (z).c, w32 (z).d]) (V := Dg.val (z)) s3_7 s25_7 hbb3_7 (Nat.le_of_ble_eq_true rfl) rfl siz_24 rfl rfl (fun wd8 hX hz hbb3_8 => ?_))
 have hE_8 := hE_7.since hX (fun k e => e ▸ fr_b3)
 have hbb_8 := hbb_7.ext hX ne_b_b3
 have hbb2_8 := hbb2_7.ext hX ne_b2_b3
 have hsx1_8 := SlT.over hsx1_7 hX nb_x1_b3
 clear hX hz hE_7 hbb_7 hbb2_7 hbb3_7 hsx1_7
 refine tail_nil ?_
 refine wp_seq ?_
 refine region_any [] [(26, Pr.ex (Value.pointer (some ⟨b, 0, none⟩))), (27, Pr.ex (Value.pointer (some ⟨b, 0, none⟩))), (28, Pr.ex (Value.pointer (some ⟨b, 0, none⟩))), (29, Pr.ex (Value.pointer (some ⟨b, 0, none⟩))), (30, Pr.ex (x1)), (31, Pr.ex (Value.pointer (some ⟨b, 0, none⟩))), (32, Pr.ex (Value.pointer (some ⟨b, 0, none⟩))), (33, Pr.ex (Value.pointer (some ⟨b, 0, none⟩))), (34, Pr.ex (x1)), (35, Pr.ex (i64 ((l.length : Nat) : Int))), (36, Pr.ex (i64 ((l.length - 1 : Nat) : Int))), (37, Pr.sl' DG p (p + 2) (l.take (l.length - 1))), (38, Pr.ex (Value.pointer (some ⟨b, 0, none⟩))), (39, Pr.ex (Value.pointer (some ⟨b, 0, none⟩)))] 14 mixed hN_7 hD_7 (by kernel_rfl) (by kernel_rfl) (by kernel_rfl) ?_ ?_
 refine Asks.cons ?_ (Asks.cons ?_ (Asks.cons ?_ (Asks.cons ?_ (Asks.cons ?_ (Asks.cons ?_ (Asks.cons ?_ (Asks.cons ?_ (Asks.cons ?_ (Asks.cons ?_ (Asks.cons ?_ (Asks.cons ?_ (Asks.cons ?_ (Asks.cons ?_ (Asks.zero _))))))))))))))
 exact Ask.plainD rfl rfl fun aq wq hNq hO hR hT => does_move (V := Value.pointer (some ⟨b, 0, none⟩)) ((hO 0 rfl).trans s0_7) ⟨Ext.refl _, rfl⟩
 exact Ask.plainD rfl rfl fun aq wq hNq hO hR hT => does_move (V := Value.pointer (some ⟨b, 0, none⟩)) ((hO 0 rfl).trans s0_7) ⟨Ext.refl _, rfl⟩
 exact Ask.plainD rfl rfl fun aq wq hNq hO hR hT => does_nilCheck (hT 27 rfl rfl) ⟨Ext.refl _, rfl⟩
 exact Ask.plainD rfl rfl fun aq wq hNq hO hR hT => does_field (o' := 0) fld_75_0 (hT 28 rfl rfl) rfl ⟨Ext.refl _, rfl⟩
 exact Ask.plainD rfl rfl fun aq wq hNq hO hR hT => does_loadD1 (o := 0) (V := x1) (hT 29 rfl rfl) (hbb_8.ext' hR) rfl one_34 ⟨Ext.refl _, rfl⟩
 exact Ask.plainD rfl rfl fun aq wq hNq hO hR hT => does_move (V := Value.pointer (some ⟨b, 0, none⟩)) ((hO 0 rfl).trans s0_7) ⟨Ext.refl _, rfl⟩
 exact Ask.plainD rfl rfl fun aq wq hNq hO hR hT => does_nilCheck (hT 31 rfl rfl) ⟨Ext.refl _, rfl⟩
 exact Ask.plainD rfl rfl fun aq wq hNq hO hR hT => does_field (o' := 0) fld_75_0 (hT 32 rfl rfl) rfl ⟨Ext.refl _, rfl⟩
 exact Ask.plainD rfl rfl fun aq wq hNq hO hR hT => does_loadD1 (o := 0) (V := x1) (hT 33 rfl rfl) (hbb_8.ext' hR) rfl one_34 ⟨Ext.refl _, rfl⟩
 exact Ask.plainD rfl rfl fun aq wq hNq hO hR hT => does_len (T := DG) (xs := l) sli_34 (SlT.at (hT 34 rfl rfl) (hsx1_8.ext' hR)) ⟨Ext.refl _, rfl⟩
 exact Ask.plainD rfl rfl fun aq wq hNq hO hR hT => does_sub (a := ((l.length : Nat) : Int)) (b := ((1 : Nat) : Int)) (r := ((l.length - 1 : Nat) : Int)) (hT 35 rfl rfl) rfl (by omega) (by omega) (by omega) ⟨Ext.refl _, rfl⟩
 exact Ask.plainD rfl rfl fun aq wq hNq hO hR hT => does_sliceHi (T := DG) (xs := l) (k := ((l.length - 1 : Nat) : Int)) sli_34 rfl (SlT.at (hT 30 rfl rfl) (hsx1_8.ext' hR)) (hT 36 rfl rfl) (by omega) (by omega) (fun v h => ⟨Ext.refl _, h⟩)
 exact Ask.plainD rfl rfl fun aq wq hNq hO hR hT => does_nilCheck (hT 26 rfl rfl) ⟨Ext.refl _, rfl⟩
 exact Ask.plainD rfl rfl fun aq wq hNq hO hR hT => does_field (o' := 0) fld_75_0 (hT 38 rfl rfl) rfl ⟨Ext.refl _, rfl⟩
 intro a9 wd9 hN_9 hD_9 hO hR hA hU
 obtain ⟨_, _, _, _, _, _, _, _, _, _, _, t37, _, t39, _⟩ := hA
 have hE_9 := hE_8.trans hR.toE
 have s2_9 := (hO 2 rfl).trans s2_7
 have s3_9 := (hO 3 rfl).trans s3_7
 have hbb_9 := hbb_8.ext' hR
 have hbb2_9 := hbb2_8.ext' hR
 have hbb3_9 := hbb3_8.ext' hR
 have hsx1_9 := hsx1_8.ext' hR
 obtain ⟨x37, s37_9⟩ : ∃ x, get a9 37 = x := ⟨_, rfl⟩
 replace t37 : SlT DG p (p + 2) (l.take (l.length - 1)) x37 wd9 := by rw [← s37_9]; exact t37
 have hsx37_9 := t37
 have nb_x37_b := SlT.child hsx1_8 (SlT.pinned hsx1_8 hpb) hsx37_9 (fun e => by simp [e])
 have nb_x37_b2 := SlT.child hsx1_8 nb_x1_b2 hsx37_9 (fun e => by simp [e])
 have nb_x37_b3 := SlT.child hsx1_8 nb_x1_b3 hsx37_9 (fun e => by simp [e])
 have s39_9 : get a9 39 = Value.pointer (some ⟨b, 0, none⟩) := t39
 clear hE_8 hN_7 hD_7 s0_7 s2_7 s3_7 s25_7 hbb_8 hbb2_8 hbb3_8 hsx1_8
 refine tail_none rfl rfl (does_storeS (o := 0) (cs' := [x37, Value.bool (ok)]) (V := x37) (SlT.cells hsx37_9) (SlT.one hsx37_9) s39_9 s37_9 hbb_9 (Nat.le_of_ble_eq_true rfl) siz_34 rfl (fun wd10 hX hz hbb_10 => ?_))
 have hE_10 := hE_9.trans hX
 have hbb2_10 := hbb2_9.ext hX ne_b_b2.symm
 have hbb3_10 := hbb3_9.ext hX ne_b_b3.symm
 have hsx1_10 := SlT.over hsx1_9 hX (SlT.pinned hsx1_9 hpb)
 have hsx37_10 := SlT.over hsx37_9 hX nb_x37_b
 clear hX hz hE_9 hbb_9 hbb2_9 hbb3_9 hsx1_9 hsx37_9
 refine tail_nil ?_
 refine wp_seq ?_
 refine region_lex [] [(40, Pr.ex (Dg.val (z)))] 1 hN_9 hD_9 (by kernel_rfl) (by kernel_rfl) ?_ ?_
 refine Asks.cons ?_ (Asks.zero _)
 exact Ask.plain rfl rfl fun aq wq hNq hO hR hT => does_loadD (o := 0) (n := 4) (mid := [w32 (z).a, w32 (z).b, w32 (z).c, w32 (z).d]) ((hO 3 rfl).trans s3_9) (hbb3_10.ext' hR) rfl rfl (Nat.le_of_ble_eq_true rfl) row_24 rfl ⟨Ext.refl _, rfl⟩
 intro a11 wd11 hN_11 hD_11 hO hR hA hU
 obtain ⟨t40, _⟩ := hA
 have hE_11 := hE_10.trans hR.toE
 have s2_11 := (hO 2 rfl).trans s2_9
 have hbb_11 := hbb_10.ext' hR
 have hbb2_11 := hbb2_10.ext' hR
 have hbb3_11 := hbb3_10.ext' hR
 have hsx1_11 := hsx1_10.ext' hR
 have hsx37_11 := hsx37_10.ext' hR
 have s40_11 : get a11 40 = Dg.val (z) := t40
 clear hE_10 hN_9 hD_9 s2_9 s3_9 s37_9 s39_9 hbb_10 hbb2_10 hbb3_10 hsx1_10 hsx37_10
 refine tail_none rfl rfl (does_storeD (o := 0) (n := 4) (cs' := [w32 (z).a, w32 (z).b, w32 (z).c, w32 (z).d]) (V := Dg.val (z)) s2_11 s40_11 hbb2_11 (Nat.le_of_ble_eq_true rfl) rfl siz_24 rfl rfl (fun wd12 hX hz hbb2_12 => ?_))
 have hE_12 := hE_11.since hX (fun k e => e ▸ fr_b2)
 have hbb_12 := hbb_11.ext hX ne_b_b2
 have hbb3_12 := hbb3_11.ext hX ne_b2_b3.symm
 have hsx1_12 := SlT.over hsx1_11 hX nb_x1_b2
 have hsx37_12 := SlT.over hsx37_11 hX nb_x37_b2
 clear hX hz hE_11 hbb_11 hbb2_11 hbb3_11 hsx1_11 hsx37_11
 refine tail_nil ?_
 refine wp_ret ?_
 refine res_one (V := Dg.val (z)) rfl hD_11 (ResIs.cell s2_11 hbb2_12 row_24 rfl rfl) ?_
 refine ⟨by rw [last_of hz], hE_12, ?_⟩
 have hS' : StkAt 75 b p (l.take (l.length - 1)) ok wd12 := ⟨_, hbb_12, hsx37_12⟩
 rw [pop_ok (by omega), ← take_last]
 exact hS'

theorem done_ (l : List Dg) (ok : Bool) (b p : Nat) (w0 : World) (hS : StkAt 75 b p l ok w0) :
    Gives Tryd.prog 53 #[Value.pointer (some ⟨b, 0, none⟩)] w0 (Pr.ex (Value.bool (ok && decide (l.length = 0)))) := by
 refine enter (N := 15) Tryd.func53 rfl rfl ?_
 intro a0 hN_0 hD_0 hA
 have s0_0 : get a0 0 = Value.pointer (some ⟨b, 0, none⟩) := hA 0 _ rfl
 clear hA
 have hE_0 : Ext w0 w0 := Ext.refl w0
 obtain ⟨x1, hb, hx1⟩ := hS
 have hsx1_0 := hx1
 refine wp_seq ?_
 refine region_lex [] [(2, Pr.ex (Value.bool (false)))] 1 hN_0 hD_0 (by kernel_rfl) (by kernel_rfl) ?_ ?_
 refine Asks.cons ?_ (Asks.zero _)
 exact Ask.plain rfl rfl fun aq wq hNq hO hR hT => does_assign (V := Value.bool (false)) rfl ⟨Ext.refl _, rfl⟩
 intro a1 wd1 hN_1 hD_1 hO hR hA hU
 obtain ⟨_, _⟩ := hA
 have hE_1 := hE_0.trans hR
 have s0_1 := (hO 0 rfl).trans s0_0
 have hbb_1 := hb.ext' hR
 have hsx1_1 := hsx1_0.ext' hR
 clear hE_0 hN_0 hD_0 s0_0 hb hsx1_0
 refine tail_nil ?_
 refine wp_seq ?_
 refine region_lex [] [(3, Pr.ex (Value.pointer (some ⟨b, 0, none⟩))), (4, Pr.ex (Value.pointer (some ⟨b, 0, none⟩))), (5, Pr.ex (Value.pointer (some ⟨b, 1, none⟩))), (6, Pr.ex (Value.bool (ok))), (7, Pr.ex (Value.bool (ok))), (8, Pr.ifb (ok) (Pr.ex (Value.pointer (some ⟨b, 0, none⟩)))), (9, Pr.ifb (ok) (Pr.ex (Value.pointer (some ⟨b, 0, none⟩)))), (10, Pr.ifb (ok) (Pr.ex (Value.pointer (some ⟨b, 0, none⟩)))), (11, Pr.ifb (ok) (Pr.ex (x1))), (12, Pr.ifb (ok) (Pr.ex (i64 ((l.length : Nat) : Int)))), (13, Pr.ifb (ok) (Pr.ex (Value.bool (decide (((l.length : Nat) : Int) = ((0 : Nat) : Int)))))), (14, Pr.ex (Value.bool (ok && (decide (((l.length : Nat) : Int) = ((0 : Nat) : Int)))))), (2, Pr.ex (Value.bool (ok && (decide (((l.length : Nat) : Int) = ((0 : Nat) : Int))))))] 13 hN_1 hD_1 (by kernel_rfl) (by kernel_rfl) ?_ ?_
 refine Asks.cons ?_ (Asks.cons ?_ (Asks.cons ?_ (Asks.cons ?_ (Asks.cons ?_ (Asks.cons ?_ (Asks.cons ?_ (Asks.cons ?_ (Asks.cons ?_ (Asks.cons ?_ (Asks.cons ?_ (Asks.cons ?_ (Asks.cons ?_ (Asks.zero _)))))))))))))
 exact Ask.plain rfl rfl fun aq wq hNq hO hR hT => does_move (V := Value.pointer (some ⟨b, 0, none⟩)) ((hO 0 rfl).trans s0_1) ⟨Ext.refl _, rfl⟩
 exact Ask.plain rfl rfl fun aq wq hNq hO hR hT => does_nilCheck (hT 3 rfl rfl) ⟨Ext.refl _, rfl⟩
 exact Ask.plain rfl rfl fun aq wq hNq hO hR hT => does_field (o' := 1) fld_75_1 (hT 4 rfl rfl) rfl ⟨Ext.refl _, rfl⟩
 exact Ask.plain rfl rfl fun aq wq hNq hO hR hT => does_loadD1 (o := 1) (V := Value.bool (ok)) (hT 5 rfl rfl) (hbb_1.ext' hR) rfl one_4 ⟨Ext.refl _, rfl⟩
 exact Ask.plain rfl rfl fun aq wq hNq hO hR hT => does_move (V := Value.bool (ok)) (hT 6 rfl rfl) ⟨Ext.refl _, rfl⟩
 refine Ask.guarded (B := ok) (want := true) (t := 7) rfl rfl rfl rfl (by decide) (fun aq wq hO hR hT => hT 7 rfl rfl) (fun hG aq wq hNq hO hR hT => ?_) (fun hno _ => fun hc => absurd hc hno)
 exact does_move (V := Value.pointer (some ⟨b, 0, none⟩)) ((hO 0 rfl).trans s0_1) ⟨Ext.refl _, fun _ => rfl⟩
 refine Ask.guarded (B := ok) (want := true) (t := 7) rfl rfl rfl rfl (by decide) (fun aq wq hO hR hT => hT 7 rfl rfl) (fun hG aq wq hNq hO hR hT => ?_) (fun hno _ => fun hc => absurd hc hno)
 exact does_nilCheck (hT 8 rfl rfl hG) ⟨Ext.refl _, fun _ => rfl⟩
 refine Ask.guarded (B := ok) (want := true) (t := 7) rfl rfl rfl rfl (by decide) (fun aq wq hO hR hT => hT 7 rfl rfl) (fun hG aq wq hNq hO hR hT => ?_) (fun hno _ => fun hc => absurd hc hno)
 exact does_field (o' := 0) fld_75_0 (hT 9 rfl rfl hG) rfl ⟨Ext.refl _, fun _ => rfl⟩
 refine Ask.guarded (B := ok) (want := true) (t := 7) rfl rfl rfl rfl (by decide) (fun aq wq hO hR hT => hT 7 rfl rfl) (fun hG aq wq hNq hO hR hT => ?_) (fun hno _ => fun hc => absurd hc hno)
 exact does_loadD1 (o := 0) (V := x1) (hT 10 rfl rfl hG) (hbb_1.ext' hR) rfl one_34 ⟨Ext.refl _, fun _ => rfl⟩
 refine Ask.guarded (B := ok) (want := true) (t := 7) rfl rfl rfl rfl (by decide) (fun aq wq hO hR hT => hT 7 rfl rfl) (fun hG aq wq hNq hO hR hT => ?_) (fun hno _ => fun hc => absurd hc hno)
 exact does_len (T := DG) (xs := l) sli_34 (SlT.at (hT 11 rfl rfl hG) (hsx1_1.ext' hR)) ⟨Ext.refl _, fun _ => rfl⟩
 refine Ask.guarded (B := ok) (want := true) (t := 7) rfl rfl rfl rfl (by decide) (fun aq wq hO hR hT => hT 7 rfl rfl) (fun hG aq wq hNq hO hR hT => ?_) (fun hno _ => fun hc => absurd hc hno)
 exact does_eql (a := ((l.length : Nat) : Int)) (b := ((0 : Nat) : Int)) (hT 12 rfl rfl hG) rfl ⟨Ext.refl _, fun _ => rfl⟩
 exact Ask.plain rfl rfl fun aq wq hNq hO hR hT => does_and (B := ok) (X := decide (((l.length : Nat) : Int) = ((0 : Nat) : Int))) (hT 7 rfl rfl) (fun hB => (hT 13 rfl rfl hB)) rfl ⟨Ext.refl _, rfl⟩
 exact Ask.plain rfl rfl fun aq wq hNq hO hR hT => does_assign (V := Value.bool (ok && (decide (((l.length : Nat) : Int) = ((0 : Nat) : Int))))) (hT 14 rfl rfl) ⟨Ext.refl _, rfl⟩
 intro a2 wd2 hN_2 hD_2 hO hR hA hU
 obtain ⟨_, _, _, _, _, _, _, _, _, _, _, _, t2, _⟩ := hA
 have hE_2 := hE_1.trans hR
 have hbb_2 := hbb_1.ext' hR
 have hsx1_2 := hsx1_1.ext' hR
 have s2_2 : get a2 2 = Value.bool (ok && (decide (((l.length : Nat) : Int) = ((0 : Nat) : Int)))) := t2
 clear hE_1 hN_1 hD_1 s0_1 hbb_1 hsx1_1
 refine tail_nil ?_
 refine wp_ret ?_
 refine res_one (V := Value.bool (ok && (decide (((l.length : Nat) : Int) = ((0 : Nat) : Int))))) rfl hD_2 s2_2 ?_
 exact ⟨congrArg Value.bool (by simp), hE_2⟩

end Go.Proofs.YtaeohnkfmachfabDoor
