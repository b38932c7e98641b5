/- The walks of functions of the program: printed. -/
import Derived.Test.YtmmghpbncejfiaaDoorG3
import Derived.Test.YtmmghpbncejfiaaDoorG7
import Derived.Test.YtmmghpbncejfiaaDoorG21
import Derived.Test.YtmmghpbncejfiaaDoorF0
set_option maxRecDepth 100000
namespace Go.Proofs.YtmmghpbncejfiaaDoor
open Go Go.RowKit Sk Sd
theorem up__r : ∀ (N : Nat) (n i : Nat) (leaf : Dg) (l : List Dg) (ok : Bool) (b p : Nat) (w0 : World) (hL : Laid w0) (hb0 : ¬ (0 = b)) (hS : StkAt 108 b p l ok w0) (hpb : p ≠ b) (hpl : p < w0.heap.size) (h1 : 1 ≤ n) (hi : i < n) (hnn : n ≤ 100000) (hn : l.length ≤ 100000) (hN : n = N),
    GivesW Tryd.prog 67 #[Value.pointer (some ⟨b, 0, none⟩), i64 (n : Int), i64 (i : Int), Dg.val (leaf)] w0 b (Dg.val (upS n i leaf l ok).1) (StkAt 108 b p (upS n i leaf l ok).2.1 (upS n i leaf l ok).2.2) := by
 intro N
 induction N using Nat.strongRecOn with
 | _ N ih =>
  intro n i leaf l ok b p w0 hL hb0 hS hpb hpl h1 hi hnn hn hN
  refine enter (N := 39) Tryd.func67 rfl rfl ?_
  intro a0 N0 D0 hA
  have s0_0 : get a0 0 = Value.pointer (some ⟨b, 0, none⟩) := hA 0 _ rfl
  have s1_0 : get a0 1 = i64 (n : Int) := hA 1 _ rfl
  have s2_0 : get a0 2 = i64 (i : Int) := hA 2 _ rfl
  have s3_0 : get a0 3 = Dg.val (leaf) := hA 3 _ rfl
  clear hA
  have E0 : ExtE (fun k => k = b) w0 w0 := ExtE.refl _ _
  obtain ⟨x1, hb, hx1⟩ := hS
  have X1_0 := hx1
  refine wp_seq ?_
  refine Rl [7, 8] [(7, Pr.box' w0.heap.size 24 [w32 (leaf).a, w32 (leaf).b, w32 (leaf).c, w32 (leaf).d]), (8, Pr.box' w0.heap.size 24 [w32 (Dg.zero).a, w32 (Dg.zero).b, w32 (Dg.zero).c, w32 (Dg.zero).d])] 2 N0 D0 ?_ ?_
  refine Ac ?_ (Ac ?_ (Az _))
  refine Ask.fresh rfl rfl ?_
  intro aq wq hNq hO hR hT
  exact does_box (V := Dg.val (leaf)) (oT hO s3_0 rfl) (fun b w2 he hlo hb => ⟨he, ⟨b, rfl, Nat.le_trans hR.size' hlo, hb⟩, ⟨b, rfl, hlo, hb.lt⟩⟩)
  refine Ask.fresh rfl rfl ?_
  intro aq wq hNq hO hR hT
  exact does_alloc zero_24 (fun b w2 he hlo hb => ⟨he, ⟨b, rfl, Nat.le_trans hR.size' hlo, hb⟩, ⟨b, rfl, hlo, hb.lt⟩⟩)
  intro a1 wd1 N1 D1 hO hR hA hU
  obtain ⟨t7, t8, _⟩ := hA
  have E1 := E0.trans hR.toE
  have s0_1 := oT hO s0_0 rfl
  have s1_1 := oT hO s1_0 rfl
  have s2_1 := oT hO s2_0 rfl
  have hbb_1 := hb.ext' hR
  have X1_1 := X1_0.ext' hR
  obtain ⟨b7, s7_1, lo_b7, B7_1⟩ := t7
  have ne_b_b7 := Hl hb lo_b7
  have nb_x1_b7 := SlT.old X1_0 lo_b7
  have fr_b7 : w0.heap.size ≤ b7 := Nat.le_trans E0.size' lo_b7
  obtain ⟨b8, s8_1, lo_b8, B8_1⟩ := t8
  have ne_b_b8 := Hl hb lo_b8
  have nb_x1_b8 := SlT.old X1_0 lo_b8
  have fr_b8 : w0.heap.size ≤ b8 := Nat.le_trans E0.size' lo_b8
  obtain ⟨u0, ⟨u1, _⟩⟩ := hU
  have ne_b7_b8 : b7 ≠ b8 := fun e => u0 8 (by decide) (by rw [s7_1, s8_1, e])
  clear E0 N0 D0 s0_0 s1_0 s2_0 s3_0 hb X1_0
  refine tail_nil ?_
  refine wp_seq ?_
  refine wp_seq ?_
  refine Rl [] [(11, Pr.ex (i64 (n : Int))), (12, Pr.ex (Value.bool (decide ((n : Int) = ((1 : Nat) : Int)))))] 2 N1 D1 ?_ ?_
  refine Ac ?_ (Ac ?_ (Az _))
  exact Am s1_1 rfl fun _ => rfl
  exact Ap fun aq wq _ hO hR hT => does_eql (a := (n : Int)) (b := ((1 : Nat) : Int)) (hT 11 rfl rfl) rfl eR
  intro a2 wd2 N2 D2 hO hR hA hU
  obtain ⟨_, t12, _⟩ := hA
  have E2 := E1.trans hR.toE
  have s0_2 := oT hO s0_1 rfl
  have s1_2 := oT hO s1_1 rfl
  have s2_2 := oT hO s2_1 rfl
  have s7_2 := oT hO s7_1 rfl
  have s8_2 := oT hO s8_1 rfl
  have hbb_2 := hbb_1.ext' hR
  have B7_2 := B7_1.ext' hR
  have B8_2 := B8_1.ext' hR
  have X1_2 := X1_1.ext' hR
  have s12_2 : get a2 12 = Value.bool (decide ((n : Int) = ((1 : Nat) : Int))) := t12
  clear E1 N1 D1 s0_1 s1_1 s2_1 s7_1 s8_1 hbb_1 B7_1 B8_1 X1_1
  refine tail_nil ?_
  refine wp_if (B := decide ((n : Int) = ((1 : Nat) : Int))) s12_2 (fun hc0 => ?_) (fun hc0 => ?_)
  have hc0 := of_decide_eq_true hc0
  refine wp_seq ?_
  refine Rl [] [(13, Pr.ex (Dg.val (leaf)))] 1 N2 D2 ?_ ?_
  refine Ac ?_ (Az _)
  exact Ap fun aq wq _ hO hR hT => does_loadD (o := 0) (n := 4) (mid := [w32 (leaf).a, w32 (leaf).b, w32 (leaf).c, w32 (leaf).d]) (oT hO s7_2 rfl) (B7_2.ext' hR) rfl rfl (nB rfl) row_24 rfl eR
  intro a3 wd3 N3 D3 hO hR hA hU
  obtain ⟨t13, _⟩ := hA
  have E3 := E2.trans hR.toE
  have s8_3 := oT hO s8_2 rfl
  have hbb_3 := hbb_2.ext' hR
  have B7_3 := B7_2.ext' hR
  have B8_3 := B8_2.ext' hR
  have X1_3 := X1_2.ext' hR
  have s13_3 : get a3 13 = Dg.val (leaf) := t13
  clear E2 N2 D2 s0_2 s1_2 s2_2 s7_2 s8_2 s12_2 hbb_2 B7_2 B8_2 X1_2
  refine tail_none rfl rfl (does_storeD (o := 0) (n := 4) (cs' := [w32 (leaf).a, w32 (leaf).b, w32 (leaf).c, w32 (leaf).d]) (V := Dg.val (leaf)) s8_3 s13_3 B8_3 (nB rfl) rfl siz_24 rfl rfl (fun wd4 hX hz B8_4 => ?_))
  have E4 := E3.since hX (fun k e => e ▸ fr_b8)
  have hbb_4 := hbb_3.ext hX ne_b_b8
  have B7_4 := B7_3.ext hX ne_b7_b8
  have X1_4 := SlT.over X1_3 hX nb_x1_b8
  clear hX hz E3 hbb_3 B7_3 B8_3 X1_3
  refine tail_nil ?_
  refine wp_ret ?_
  refine res_one (V := Dg.val (leaf)) rfl D3 (ResIs.cell s8_3 B8_4 row_24 rfl rfl) ?_
  refine ⟨by rw [upS_end1 (by omega)], E4, ?_⟩
  have hS' : StkAt 108 b p (l) (ok) wd4 := ⟨_, hbb_4, X1_4⟩
  rw [upS_end2 (by omega)]
  exact hS'
  have hc0 := of_decide_eq_false hc0
  have h2 : 2 ≤ n := by omega
  have hh := half_lt h2
  have hp := half_pos n
  refine wp_skip ?_
  refine wp_seq ?_
  refine Rl [] [(14, Pr.ex (i64 (n : Int))), (15, Pr.ex (i64 ((half n : Nat) : Int))), (16, Pr.ex (Value.pointer (some ⟨b, 0, none⟩)))] 3 N2 D2 ?_ ?_
  refine Ac ?_ (Ac ?_ (Ac ?_ (Az _)))
  exact Am s1_2 rfl fun _ => rfl
  exact Ap fun aq wq _ hO hR hT => does_ret (vs := #[i64 (n : Int)]) call_50 (args1 (hT 14 rfl rfl)) rfl ((half_ (n) wq (by omega) (by omega)).mono fun v w2 h => ⟨h.2, h.1⟩)
  exact Am s0_2 rfl fun _ => rfl
  intro a5 wd5 N5 D5 hO hR hA hU
  obtain ⟨_, t15, t16, _⟩ := hA
  have E5 := E2.trans hR.toE
  have s0_5 := oT hO s0_2 rfl
  have s1_5 := oT hO s1_2 rfl
  have s2_5 := oT hO s2_2 rfl
  have s7_5 := oT hO s7_2 rfl
  have s8_5 := oT hO s8_2 rfl
  have hbb_5 := hbb_2.ext' hR
  have B7_5 := B7_2.ext' hR
  have B8_5 := B8_2.ext' hR
  have X1_5 := X1_2.ext' hR
  have s15_5 : get a5 15 = i64 ((half n : Nat) : Int) := t15
  have s16_5 : get a5 16 = Value.pointer (some ⟨b, 0, none⟩) := t16
  clear E2 N2 D2 s0_2 s1_2 s2_2 s7_2 s8_2 s12_2 hbb_2 B7_2 B8_2 X1_2
  refine tail_put rfl rfl N5 D5 (by decide) (does_ret (vs := #[Value.pointer (some ⟨b, 0, none⟩)]) call_89 (args1 s16_5) rfl ((pop_ l ok b p wd5 ⟨_, hbb_5, X1_5⟩ hpb (Nat.lt_of_lt_of_le hpl E5.size') hn).mono fun v wd6 h => fun a6 N6 D6 hv hO => ?_))
  obtain ⟨hp, hX, hS⟩ := h
  have E6 := E5.trans hX
  have B7_6 := B7_5.ext hX ne_b_b7.symm
  have B8_6 := B8_5.ext hX ne_b_b8.symm
  have X1_6 := SlT.over X1_5 hX (SlT.pinned X1_5 hpb)
  obtain ⟨xs6, hbb_6, hsxs6_6⟩ := hS
  have s17_6 := hv.trans hp
  have s0_6 := oT hO s0_5 rfl
  have s1_6 := oT hO s1_5 rfl
  have s2_6 := oT hO s2_5 rfl
  have s7_6 := oT hO s7_5 rfl
  have s8_6 := oT hO s8_5 rfl
  have s15_6 := oT hO s15_5 rfl
  clear hO hv hp hX N5 D5 E5 hbb_5 B7_5 B8_5 X1_5 s0_5 s1_5 s2_5 s7_5 s8_5 s15_5 s16_5
  refine tail_put rfl rfl N6 D6 (by decide) (does_alloc zero_24 (fun b10 wd7 he lo_b10 B10_7 => fun a7 N7 D7 hv hO => ?_))
  have s10_7 := hv
  have E7 := E6.trans he.toE
  have hbb_7 := hbb_6.ext' he
  have B7_7 := B7_6.ext' he
  have B8_7 := B8_6.ext' he
  have X1_7 := X1_6.ext' he
  have hsxs6_7 := hsxs6_6.ext' he
  have fr_b10 : w0.heap.size ≤ b10 := Nat.le_trans E6.size' lo_b10
  have ne_b_b10 := Hl hbb_6 lo_b10
  have ne_b7_b10 := Hl B7_6 lo_b10
  have ne_b8_b10 := Hl B8_6 lo_b10
  have nb_x1_b10 := SlT.old X1_6 lo_b10
  have nb_xs6_b10 := SlT.old hsxs6_6 lo_b10
  have s0_7 := oT hO s0_6 rfl
  have s1_7 := oT hO s1_6 rfl
  have s2_7 := oT hO s2_6 rfl
  have s7_7 := oT hO s7_6 rfl
  have s8_7 := oT hO s8_6 rfl
  have s15_7 := oT hO s15_6 rfl
  have s17_7 := oT hO s17_6 rfl
  clear hO hv N6 D6 E6 hbb_6 B7_6 B8_6 X1_6 hsxs6_6 s0_6 s1_6 s2_6 s7_6 s8_6 s15_6 s17_6
  refine tail_put rfl rfl N7 D7 (by decide) (does_assign (V := i64 ((half n : Nat) : Int)) s15_7 (fun a8 N8 D8 hv hO => ?_))
  have s9_8 := hv
  have s0_8 := oT hO s0_7 rfl
  have s1_8 := oT hO s1_7 rfl
  have s2_8 := oT hO s2_7 rfl
  have s7_8 := oT hO s7_7 rfl
  have s8_8 := oT hO s8_7 rfl
  have s10_8 := oT hO s10_7 rfl
  have s17_8 := oT hO s17_7 rfl
  clear hO hv N7 D7 s0_7 s1_7 s2_7 s7_7 s8_7 s10_7 s15_7 s17_7
  refine tail_none rfl rfl (does_storeD (o := 0) (n := 4) (cs' := [w32 (l.getLastD Dg.zero).a, w32 (l.getLastD Dg.zero).b, w32 (l.getLastD Dg.zero).c, w32 (l.getLastD Dg.zero).d]) (V := Dg.val (l.getLastD Dg.zero)) s10_8 s17_8 B10_7 (nB rfl) rfl siz_24 rfl rfl (fun wd9 hX hz B10_9 => ?_))
  have E9 := E7.since hX (fun k e => e ▸ fr_b10)
  have hbb_9 := hbb_7.ext hX ne_b_b10
  have B7_9 := B7_7.ext hX ne_b7_b10
  have B8_9 := B8_7.ext hX ne_b8_b10
  have X1_9 := SlT.over X1_7 hX nb_x1_b10
  have hsxs6_9 := SlT.over hsxs6_7 hX nb_xs6_b10
  clear hX hz E7 hbb_7 B7_7 B8_7 B10_7 X1_7 hsxs6_7
  refine tail_nil ?_
  refine wp_seq ?_
  refine wp_seq ?_
  refine Rl [] [(18, Pr.ex (i64 (i : Int))), (19, Pr.ex (i64 ((half n : Nat) : Int))), (20, Pr.ex (Value.bool (decide ((i : Int) < ((half n : Nat) : Int)))))] 3 N8 D8 ?_ ?_
  refine Ac ?_ (Ac ?_ (Ac ?_ (Az _)))
  exact Am s2_8 rfl fun _ => rfl
  exact Am s9_8 rfl fun _ => rfl
  exact Ap fun aq wq _ hO hR hT => does_lss (a := (i : Int)) (b := ((half n : Nat) : Int)) (hT 18 rfl rfl) (hT 19 rfl rfl) eR
  intro a10 wd10 N10 D10 hO hR hA hU
  obtain ⟨_, _, t20, _⟩ := hA
  have E10 := E9.trans hR.toE
  have s0_10 := oT hO s0_8 rfl
  have s1_10 := oT hO s1_8 rfl
  have s2_10 := oT hO s2_8 rfl
  have s7_10 := oT hO s7_8 rfl
  have s8_10 := oT hO s8_8 rfl
  have s9_10 := oT hO s9_8 rfl
  have s10_10 := oT hO s10_8 rfl
  have hbb_10 := hbb_9.ext' hR
  have B7_10 := B7_9.ext' hR
  have B8_10 := B8_9.ext' hR
  have B10_10 := B10_9.ext' hR
  have X1_10 := X1_9.ext' hR
  have hsxs6_10 := hsxs6_9.ext' hR
  have s20_10 : get a10 20 = Value.bool (decide ((i : Int) < ((half n : Nat) : Int))) := t20
  clear E9 N8 D8 s0_8 s1_8 s2_8 s7_8 s8_8 s9_8 s10_8 s17_8 hbb_9 B7_9 B8_9 B10_9 X1_9 hsxs6_9
  refine tail_nil ?_
  refine wp_if (B := decide ((i : Int) < ((half n : Nat) : Int))) s20_10 (fun hc1 => ?_) (fun hc1 => ?_)
  have hc1 := of_decide_eq_true hc1
  have hlt : i < half n := by omega
  refine wp_seq ?_
  refine region_anyW (fun k => k = b) (StkAt 108 b p (upS (half n) i leaf l.dropLast (ok && !l.isEmpty)).2.1 (upS (half n) i leaf l.dropLast (ok && !l.isEmpty)).2.2) [(21, Pr.ex (Value.pointer (some ⟨b, 0, none⟩))), (22, Pr.ex (i64 ((half n : Nat) : Int))), (23, Pr.ex (i64 (i : Int))), (24, Pr.ex (Dg.val (leaf))), (25, Pr.exW (Dg.val ((upS (half n) i leaf l.dropLast (ok && !l.isEmpty)).1))), (26, Pr.ex (Dg.val (l.getLastD Dg.zero))), (27, Pr.ex (Dg.val (pair ((upS (half n) i leaf l.dropLast (ok && !l.isEmpty)).1) (l.getLastD Dg.zero))))] 4 7 mixed StkAt.holds N10 D10 (by kernel_rfl) (by kernel_rfl) ?_ ?_
  refine AsksW.cons ?_ (AsksW.cons ?_ (AsksW.cons ?_ (AsksW.cons ?_ (AsksW.cons ?_ (AsksW.cons ?_ (AsksW.cons ?_ (AsksW.zero _)))))))
  refine AskW.plain rfl rfl rfl ?_
  intro aq wq hNq hO hR hT
  replace hR := (WrP.of StkAt.holds (Ext.drew _)).trans hR
  exact does_move (V := Value.pointer (some ⟨b, 0, none⟩)) (oT hO s0_10 rfl) ⟨Ext.refl _, rfl⟩
  refine AskW.plain rfl rfl rfl ?_
  intro aq wq hNq hO hR hT
  replace hR := (WrP.of StkAt.holds (Ext.drew _)).trans hR
  exact does_move (V := i64 ((half n : Nat) : Int)) (oT hO s9_10 rfl) ⟨Ext.refl _, rfl⟩
  refine AskW.plain rfl rfl rfl ?_
  intro aq wq hNq hO hR hT
  replace hR := (WrP.of StkAt.holds (Ext.drew _)).trans hR
  exact does_move (V := i64 (i : Int)) (oT hO s2_10 rfl) ⟨Ext.refl _, rfl⟩
  refine AskW.plain rfl rfl rfl ?_
  intro aq wq hNq hO hR hT
  replace hR := (WrP.of StkAt.holds (Ext.drew _)).trans hR
  exact does_loadD (o := 0) (n := 4) (mid := [w32 (leaf).a, w32 (leaf).b, w32 (leaf).c, w32 (leaf).d]) (oT hO s7_10 rfl) (B7_10.ext hR.ext ne_b_b7.symm) rfl rfl (nB rfl) row_24 rfl ⟨Ext.refl _, rfl⟩
  refine AskW.write rfl rfl rfl ?_
  intro aq wq hNq hO hR hT
  replace hR := (Ext.drew _).trans hR
  exact does_ret (vs := #[Value.pointer (some ⟨b, 0, none⟩), i64 ((half n : Nat) : Int), i64 (i : Int), Dg.val (leaf)]) call_67 (args4 (hT 21 rfl rfl) (hT 22 rfl rfl) (hT 23 rfl rfl) (hT 24 rfl rfl)) rfl ((ih _ (by omega) (half n) i leaf l.dropLast (ok && !l.isEmpty) b p wq (Laid.extE hL (E10.trans hR.toE) hb0) hb0 ⟨_, (hbb_10.ext' hR), (hsxs6_10.ext' hR)⟩ hpb (Nat.lt_of_lt_of_le hpl (E10.trans hR.toE).size') (by omega) (by omega) (by omega) (by simp only [List.length_dropLast]; omega) rfl).write fun w2 hW hS => ⟨hW, rfl, hS⟩)
  refine AskW.plain rfl rfl rfl ?_
  intro aq wq hNq hO hR hT
  replace hR := (WrP.of StkAt.holds (Ext.drew _)).trans hR
  exact does_loadD (o := 0) (n := 4) (mid := [w32 (l.getLastD Dg.zero).a, w32 (l.getLastD Dg.zero).b, w32 (l.getLastD Dg.zero).c, w32 (l.getLastD Dg.zero).d]) (oT hO s10_10 rfl) (B10_10.ext hR.ext ne_b_b10.symm) rfl rfl (nB rfl) row_24 rfl ⟨Ext.refl _, rfl⟩
  refine AskW.plain rfl rfl rfl ?_
  intro aq wq hNq hO hR hT
  replace hR := (WrP.of StkAt.holds (Ext.drew _)).trans hR
  exact does_ret (vs := #[Dg.val ((upS (half n) i leaf l.dropLast (ok && !l.isEmpty)).1), Dg.val (l.getLastD Dg.zero)]) call_21 (args2 (And.left (hT 25 rfl rfl)) (hT 26 rfl rfl)) rfl ((pair_ ((upS (half n) i leaf l.dropLast (ok && !l.isEmpty)).1) (l.getLastD Dg.zero) wq (Laid.extE hL (E10.trans hR.ext) hb0)).mono fun v w2 h => ⟨h.2, h.1⟩)
  intro a11 wd11 N11 D11 hO hR hA
  obtain ⟨_, _, _, _, t25, _, t27, _⟩ := hA
  obtain ⟨t25, hS⟩ := t25
  have hX := hR.ext
  have E11 := E10.trans hX
  have B7_11 := B7_10.ext hX ne_b_b7.symm
  have B8_11 := B8_10.ext hX ne_b_b8.symm
  have B10_11 := B10_10.ext hX ne_b_b10.symm
  have X1_11 := SlT.over X1_10 hX (SlT.pinned X1_10 hpb)
  have hsxs6_11 := SlT.over hsxs6_10 hX (SlT.pinned hsxs6_10 hpb)
  obtain ⟨xs11, hbb_11, hsxs11_11⟩ := hS
  have s8_11 := oT hO s8_10 rfl
  have s27_11 : get a11 27 = Dg.val (pair ((upS (half n) i leaf l.dropLast (ok && !l.isEmpty)).1) (l.getLastD Dg.zero)) := t27
  clear hO hX hR N10 D10 E10 hbb_10 B7_10 B8_10 B10_10 X1_10 hsxs6_10 s0_10 s1_10 s2_10 s7_10 s8_10 s9_10 s10_10 s20_10
  refine tail_none rfl rfl (does_storeD (o := 0) (n := 4) (cs' := [w32 (pair ((upS (half n) i leaf l.dropLast (ok && !l.isEmpty)).1) (l.getLastD Dg.zero)).a, w32 (pair ((upS (half n) i leaf l.dropLast (ok && !l.isEmpty)).1) (l.getLastD Dg.zero)).b, w32 (pair ((upS (half n) i leaf l.dropLast (ok && !l.isEmpty)).1) (l.getLastD Dg.zero)).c, w32 (pair ((upS (half n) i leaf l.dropLast (ok && !l.isEmpty)).1) (l.getLastD Dg.zero)).d]) (V := Dg.val (pair ((upS (half n) i leaf l.dropLast (ok && !l.isEmpty)).1) (l.getLastD Dg.zero))) s8_11 s27_11 B8_11 (nB rfl) rfl siz_24 rfl rfl (fun wd12 hX hz B8_12 => ?_))
  have E12 := E11.since hX (fun k e => e ▸ fr_b8)
  have hbb_12 := hbb_11.ext hX ne_b_b8
  have B7_12 := B7_11.ext hX ne_b7_b8
  have B10_12 := B10_11.ext hX ne_b8_b10.symm
  have X1_12 := SlT.over X1_11 hX nb_x1_b8
  have hsxs6_12 := SlT.over hsxs6_11 hX (SlT.pinned hsxs6_11 (Nat.ne_of_lt (Nat.lt_of_lt_of_le hpl fr_b8)))
  have hsxs11_12 := SlT.over hsxs11_11 hX (SlT.pinned hsxs11_11 (Nat.ne_of_lt (Nat.lt_of_lt_of_le hpl fr_b8)))
  clear hX hz E11 hbb_11 B7_11 B8_11 B10_11 X1_11 hsxs6_11 hsxs11_11
  refine tail_nil ?_
  refine wp_ret ?_
  refine res_one (V := Dg.val (pair ((upS (half n) i leaf l.dropLast (ok && !l.isEmpty)).1) (l.getLastD Dg.zero))) rfl D11 (ResIs.cell s8_11 B8_12 row_24 rfl rfl) ?_
  refine ⟨by rw [upS_lo1 h2 hlt], E12, ?_⟩
  have hS' : StkAt 108 b p ((upS (half n) i leaf l.dropLast (ok && !l.isEmpty)).2.1) ((upS (half n) i leaf l.dropLast (ok && !l.isEmpty)).2.2) wd12 := ⟨_, hbb_12, hsxs11_12⟩
  rw [upS_lo2 h2 hlt]
  exact hS'
  have hc1 := of_decide_eq_false hc1
  have hge : ¬ i < half n := by omega
  refine wp_skip ?_
  refine wp_seq ?_
  refine region_anyW (fun k => k = b) (StkAt 108 b p (upS (n - (half n)) (i - (half n)) leaf l.dropLast (ok && !l.isEmpty)).2.1 (upS (n - (half n)) (i - (half n)) leaf l.dropLast (ok && !l.isEmpty)).2.2) [(28, Pr.ex (Dg.val (l.getLastD Dg.zero))), (29, Pr.ex (Value.pointer (some ⟨b, 0, none⟩))), (30, Pr.ex (i64 (n : Int))), (31, Pr.ex (i64 ((half n : Nat) : Int))), (32, Pr.ex (i64 ((n - (half n) : Nat) : Int))), (33, Pr.ex (i64 (i : Int))), (34, Pr.ex (i64 ((half n : Nat) : Int))), (35, Pr.ex (i64 ((i - (half n) : Nat) : Int))), (36, Pr.ex (Dg.val (leaf))), (37, Pr.exW (Dg.val ((upS (n - (half n)) (i - (half n)) leaf l.dropLast (ok && !l.isEmpty)).1))), (38, Pr.ex (Dg.val (pair (l.getLastD Dg.zero) ((upS (n - (half n)) (i - (half n)) leaf l.dropLast (ok && !l.isEmpty)).1))))] 9 11 mixed StkAt.holds N10 D10 (by kernel_rfl) (by kernel_rfl) ?_ ?_
  refine AsksW.cons ?_ (AsksW.cons ?_ (AsksW.cons ?_ (AsksW.cons ?_ (AsksW.cons ?_ (AsksW.cons ?_ (AsksW.cons ?_ (AsksW.cons ?_ (AsksW.cons ?_ (AsksW.cons ?_ (AsksW.cons ?_ (AsksW.zero _)))))))))))
  refine AskW.plain rfl rfl rfl ?_
  intro aq wq hNq hO hR hT
  replace hR := (WrP.of StkAt.holds (Ext.drew _)).trans hR
  exact does_loadD (o := 0) (n := 4) (mid := [w32 (l.getLastD Dg.zero).a, w32 (l.getLastD Dg.zero).b, w32 (l.getLastD Dg.zero).c, w32 (l.getLastD Dg.zero).d]) (oT hO s10_10 rfl) (B10_10.ext hR.ext ne_b_b10.symm) rfl rfl (nB rfl) row_24 rfl ⟨Ext.refl _, rfl⟩
  refine AskW.plain rfl rfl rfl ?_
  intro aq wq hNq hO hR hT
  replace hR := (WrP.of StkAt.holds (Ext.drew _)).trans hR
  exact does_move (V := Value.pointer (some ⟨b, 0, none⟩)) (oT hO s0_10 rfl) ⟨Ext.refl _, rfl⟩
  refine AskW.plain rfl rfl rfl ?_
  intro aq wq hNq hO hR hT
  replace hR := (WrP.of StkAt.holds (Ext.drew _)).trans hR
  exact does_move (V := i64 (n : Int)) (oT hO s1_10 rfl) ⟨Ext.refl _, rfl⟩
  refine AskW.plain rfl rfl rfl ?_
  intro aq wq hNq hO hR hT
  replace hR := (WrP.of StkAt.holds (Ext.drew _)).trans hR
  exact does_move (V := i64 ((half n : Nat) : Int)) (oT hO s9_10 rfl) ⟨Ext.refl _, rfl⟩
  refine AskW.plain rfl rfl rfl ?_
  intro aq wq hNq hO hR hT
  replace hR := (WrP.of StkAt.holds (Ext.drew _)).trans hR
  exact does_sub (a := (n : Int)) (b := ((half n : Nat) : Int)) (r := ((n - (half n) : Nat) : Int)) (hT 30 rfl rfl) (hT 31 rfl rfl) (by omega) (by omega) (by omega) ⟨Ext.refl _, rfl⟩
  refine AskW.plain rfl rfl rfl ?_
  intro aq wq hNq hO hR hT
  replace hR := (WrP.of StkAt.holds (Ext.drew _)).trans hR
  exact does_move (V := i64 (i : Int)) (oT hO s2_10 rfl) ⟨Ext.refl _, rfl⟩
  refine AskW.plain rfl rfl rfl ?_
  intro aq wq hNq hO hR hT
  replace hR := (WrP.of StkAt.holds (Ext.drew _)).trans hR
  exact does_move (V := i64 ((half n : Nat) : Int)) (oT hO s9_10 rfl) ⟨Ext.refl _, rfl⟩
  refine AskW.plain rfl rfl rfl ?_
  intro aq wq hNq hO hR hT
  replace hR := (WrP.of StkAt.holds (Ext.drew _)).trans hR
  exact does_sub (a := (i : Int)) (b := ((half n : Nat) : Int)) (r := ((i - (half n) : Nat) : Int)) (hT 33 rfl rfl) (hT 34 rfl rfl) (by omega) (by omega) (by omega) ⟨Ext.refl _, rfl⟩
  refine AskW.plain rfl rfl rfl ?_
  intro aq wq hNq hO hR hT
  replace hR := (WrP.of StkAt.holds (Ext.drew _)).trans hR
  exact does_loadD (o := 0) (n := 4) (mid := [w32 (leaf).a, w32 (leaf).b, w32 (leaf).c, w32 (leaf).d]) (oT hO s7_10 rfl) (B7_10.ext hR.ext ne_b_b7.symm) rfl rfl (nB rfl) row_24 rfl ⟨Ext.refl _, rfl⟩
  refine AskW.write rfl rfl rfl ?_
  intro aq wq hNq hO hR hT
  replace hR := (Ext.drew _).trans hR
  exact does_ret (vs := #[Value.pointer (some ⟨b, 0, none⟩), i64 ((n - (half n) : Nat) : Int), i64 ((i - (half n) : Nat) : Int), Dg.val (leaf)]) call_67 (args4 (hT 29 rfl rfl) (hT 32 rfl rfl) (hT 35 rfl rfl) (hT 36 rfl rfl)) rfl ((ih _ (by omega) (n - (half n)) (i - (half n)) leaf l.dropLast (ok && !l.isEmpty) b p wq (Laid.extE hL (E10.trans hR.toE) hb0) hb0 ⟨_, (hbb_10.ext' hR), (hsxs6_10.ext' hR)⟩ hpb (Nat.lt_of_lt_of_le hpl (E10.trans hR.toE).size') (by omega) (by omega) (by omega) (by simp only [List.length_dropLast]; omega) rfl).write fun w2 hW hS => ⟨hW, rfl, hS⟩)
  refine AskW.plain rfl rfl rfl ?_
  intro aq wq hNq hO hR hT
  replace hR := (WrP.of StkAt.holds (Ext.drew _)).trans hR
  exact does_ret (vs := #[Dg.val (l.getLastD Dg.zero), Dg.val ((upS (n - (half n)) (i - (half n)) leaf l.dropLast (ok && !l.isEmpty)).1)]) call_21 (args2 (hT 28 rfl rfl) (And.left (hT 37 rfl rfl))) rfl ((pair_ (l.getLastD Dg.zero) ((upS (n - (half n)) (i - (half n)) leaf l.dropLast (ok && !l.isEmpty)).1) wq (Laid.extE hL (E10.trans hR.ext) hb0)).mono fun v w2 h => ⟨h.2, h.1⟩)
  intro a13 wd13 N13 D13 hO hR hA
  obtain ⟨_, _, _, _, _, _, _, _, _, t37, t38, _⟩ := hA
  obtain ⟨t37, hS⟩ := t37
  have hX := hR.ext
  have E13 := E10.trans hX
  have B7_13 := B7_10.ext hX ne_b_b7.symm
  have B8_13 := B8_10.ext hX ne_b_b8.symm
  have B10_13 := B10_10.ext hX ne_b_b10.symm
  have X1_13 := SlT.over X1_10 hX (SlT.pinned X1_10 hpb)
  have hsxs6_13 := SlT.over hsxs6_10 hX (SlT.pinned hsxs6_10 hpb)
  obtain ⟨xs13, hbb_13, hsxs13_13⟩ := hS
  have s8_13 := oT hO s8_10 rfl
  have s38_13 : get a13 38 = Dg.val (pair (l.getLastD Dg.zero) ((upS (n - (half n)) (i - (half n)) leaf l.dropLast (ok && !l.isEmpty)).1)) := t38
  clear hO hX hR N10 D10 E10 hbb_10 B7_10 B8_10 B10_10 X1_10 hsxs6_10 s0_10 s1_10 s2_10 s7_10 s8_10 s9_10 s10_10 s20_10
  refine tail_none rfl rfl (does_storeD (o := 0) (n := 4) (cs' := [w32 (pair (l.getLastD Dg.zero) ((upS (n - (half n)) (i - (half n)) leaf l.dropLast (ok && !l.isEmpty)).1)).a, w32 (pair (l.getLastD Dg.zero) ((upS (n - (half n)) (i - (half n)) leaf l.dropLast (ok && !l.isEmpty)).1)).b, w32 (pair (l.getLastD Dg.zero) ((upS (n - (half n)) (i - (half n)) leaf l.dropLast (ok && !l.isEmpty)).1)).c, w32 (pair (l.getLastD Dg.zero) ((upS (n - (half n)) (i - (half n)) leaf l.dropLast (ok && !l.isEmpty)).1)).d]) (V := Dg.val (pair (l.getLastD Dg.zero) ((upS (n - (half n)) (i - (half n)) leaf l.dropLast (ok && !l.isEmpty)).1))) s8_13 s38_13 B8_13 (nB rfl) rfl siz_24 rfl rfl (fun wd14 hX hz B8_14 => ?_))
  have E14 := E13.since hX (fun k e => e ▸ fr_b8)
  have hbb_14 := hbb_13.ext hX ne_b_b8
  have B7_14 := B7_13.ext hX ne_b7_b8
  have B10_14 := B10_13.ext hX ne_b8_b10.symm
  have X1_14 := SlT.over X1_13 hX nb_x1_b8
  have hsxs6_14 := SlT.over hsxs6_13 hX (SlT.pinned hsxs6_13 (Nat.ne_of_lt (Nat.lt_of_lt_of_le hpl fr_b8)))
  have hsxs13_14 := SlT.over hsxs13_13 hX (SlT.pinned hsxs13_13 (Nat.ne_of_lt (Nat.lt_of_lt_of_le hpl fr_b8)))
  clear hX hz E13 hbb_13 B7_13 B8_13 B10_13 X1_13 hsxs6_13 hsxs13_13
  refine tail_nil ?_
  refine wp_ret ?_
  refine res_one (V := Dg.val (pair (l.getLastD Dg.zero) ((upS (n - (half n)) (i - (half n)) leaf l.dropLast (ok && !l.isEmpty)).1))) rfl D13 (ResIs.cell s8_13 B8_14 row_24 rfl rfl) ?_
  refine ⟨by rw [upS_hi1 h2 hge], E14, ?_⟩
  have hS' : StkAt 108 b p ((upS (n - (half n)) (i - (half n)) leaf l.dropLast (ok && !l.isEmpty)).2.1) ((upS (n - (half n)) (i - (half n)) leaf l.dropLast (ok && !l.isEmpty)).2.2) wd14 := ⟨_, hbb_14, hsxs13_14⟩
  rw [upS_hi2 h2 hge]
  exact hS'
theorem up_ (n i : Nat) (leaf : Dg) (l : List Dg) (ok : Bool) (b p : Nat) (w0 : World) (hL : Laid w0) (hb0 : ¬ (0 = b)) (hS : StkAt 108 b p l ok w0) (hpb : p ≠ b) (hpl : p < w0.heap.size) (h1 : 1 ≤ n) (hi : i < n) (hnn : n ≤ 100000) (hn : l.length ≤ 100000) :
    GivesW Tryd.prog 67 #[Value.pointer (some ⟨b, 0, none⟩), i64 (n : Int), i64 (i : Int), Dg.val (leaf)] w0 b (Dg.val (upS n i leaf l ok).1) (StkAt 108 b p (upS n i leaf l ok).2.1 (upS n i leaf l ok).2.2) := up__r _ n i leaf l ok b p w0 hL hb0 hS hpb hpl h1 hi hnn hn rfl

theorem up_I (n i : Int) (leaf : Dg) (l : List Dg) (ok : Bool) (b p : Nat) (w0 : World) (hL : Laid w0) (hb0 : ¬ (0 = b)) (hS : StkAt 108 b p l ok w0) (hpb : p ≠ b) (hpl : p < w0.heap.size) (h0 : 0 ≤ i) (hi : i < n) (hnn : n ≤ 100000) (hn : l.length ≤ 100000) :
    GivesW Tryd.prog 67 #[Value.pointer (some ⟨b, 0, none⟩), i64 (n), i64 (i), Dg.val (leaf)] w0 b (Dg.val (upS n.toNat i.toNat leaf l ok).1) (StkAt 108 b p (upS n.toNat i.toNat leaf l ok).2.1 (upS n.toNat i.toNat leaf l ok).2.2) := by
  obtain ⟨j, rfl⟩ : ∃ j : Nat, i = j := ⟨i.toNat, by omega⟩
  obtain ⟨k, rfl⟩ : ∃ k : Nat, n = k := ⟨n.toNat, by omega⟩
  exact up_ k j leaf l ok b p w0 hL hb0 hS hpb hpl (by omega) (by omega) (by omega) hn

end Go.Proofs.YtmmghpbncejfiaaDoor
