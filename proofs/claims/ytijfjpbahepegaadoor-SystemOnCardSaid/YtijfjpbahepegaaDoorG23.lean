/- The walks of functions of the program: printed. -/
import Derived.Test.YtijfjpbahepegaaDoorG3
import Derived.Test.YtijfjpbahepegaaDoorG7
import Derived.Test.YtijfjpbahepegaaDoorG21
import Derived.Test.YtijfjpbahepegaaDoorF0
set_option maxRecDepth 100000
namespace Go.Proofs.YtijfjpbahepegaaDoor
open Go Go.RowKit Sk Sd
theorem both__r : ∀ (N : Nat) (m n : Nat) (whole : Bool) (old : Dg) (l : List Dg) (ok : Bool) (b p : Nat) (w0 : World) (hL : Laid w0) (hb0 : ¬ (0 = b)) (hS : StkAt 108 b p l ok w0) (hpb : p ≠ b) (hpl : p < w0.heap.size) (h1 : 1 ≤ m) (hm : m ≤ n) (hnn : n ≤ 100000) (hn : l.length ≤ 100000) (hN : n = N),
    GivesW Tryd.prog 70 #[Value.pointer (some ⟨b, 0, none⟩), i64 ((m : Nat) : Int), i64 ((n : Nat) : Int), Value.bool (whole), Dg.val (old)] w0 b (Value.tuple #[Dg.val (bothS old m n whole l ok).1, Dg.val (bothS old m n whole l ok).2.1]) (StkAt 108 b p (bothS old m n whole l ok).2.2.1 (bothS old m n whole l ok).2.2.2) := by
 intro N
 induction N using Nat.strongRecOn with
 | _ N ih =>
  intro m n whole old l ok b p w0 hL hb0 hS hpb hpl h1 hm hnn hn hN
  refine enter (N := 67) Tryd.func70 rfl rfl ?_
  intro a0 hN_0 hD_0 hA
  have s0_0 : get a0 0 = Value.pointer (some ⟨b, 0, none⟩) := hA 0 _ rfl
  have s1_0 : get a0 1 = i64 ((m : Nat) : Int) := hA 1 _ rfl
  have s2_0 : get a0 2 = i64 ((n : Nat) : Int) := hA 2 _ rfl
  have s3_0 : get a0 3 = Value.bool (whole) := hA 3 _ rfl
  have s4_0 : get a0 4 = Dg.val (old) := hA 4 _ rfl
  clear hA
  have hE_0 : ExtE (fun k => k = b) w0 w0 := ExtE.refl _ _
  obtain ⟨x1, hb, hx1⟩ := hS
  have hsx1_0 := hx1
  refine wp_seq ?_
  refine region_lex [9, 10, 11] [(9, Pr.box' w0.heap.size 27 [w32 (old).a, w32 (old).b, w32 (old).c, w32 (old).d]), (10, Pr.box' w0.heap.size 27 [w32 (Dg.zero).a, w32 (Dg.zero).b, w32 (Dg.zero).c, w32 (Dg.zero).d]), (11, Pr.box' w0.heap.size 27 [w32 (Dg.zero).a, w32 (Dg.zero).b, w32 (Dg.zero).c, w32 (Dg.zero).d])] 3 hN_0 hD_0 (by kernel_rfl) (by kernel_rfl) ?_ ?_
  refine Asks.cons ?_ (Asks.cons ?_ (Asks.cons ?_ (Asks.zero _)))
  refine Ask.fresh rfl rfl ?_
  intro aq wq hNq hO hR hT
  exact does_box (V := Dg.val (old)) ((hO 4 rfl).trans s4_0) (fun b w2 he hlo hb => ⟨he, ⟨b, rfl, Nat.le_trans hR.size' hlo, hb⟩, ⟨b, rfl, hlo, hb.lt⟩⟩)
  refine Ask.fresh rfl rfl ?_
  intro aq wq hNq hO hR hT
  exact does_alloc zero_27 (fun b w2 he hlo hb => ⟨he, ⟨b, rfl, Nat.le_trans hR.size' hlo, hb⟩, ⟨b, rfl, hlo, hb.lt⟩⟩)
  refine Ask.fresh rfl rfl ?_
  intro aq wq hNq hO hR hT
  exact does_alloc zero_27 (fun b w2 he hlo hb => ⟨he, ⟨b, rfl, Nat.le_trans hR.size' hlo, hb⟩, ⟨b, rfl, hlo, hb.lt⟩⟩)
  intro a1 wd1 hN_1 hD_1 hO hR hA hU
  obtain ⟨t9, t10, t11, _⟩ := hA
  have hE_1 := hE_0.trans hR.toE
  have s0_1 := (hO 0 rfl).trans s0_0
  have s1_1 := (hO 1 rfl).trans s1_0
  have s2_1 := (hO 2 rfl).trans s2_0
  have s3_1 := (hO 3 rfl).trans s3_0
  have hbb_1 := hb.ext' hR
  have hsx1_1 := hsx1_0.ext' hR
  obtain ⟨b9, s9_1, lo_b9, hbb9_1⟩ := t9
  have ne_b_b9 : b ≠ b9 := fun e => Nat.lt_irrefl _ (Nat.lt_of_lt_of_le hb.lt (e ▸ lo_b9))
  have nb_x1_b9 := SlT.old hsx1_0 lo_b9
  have fr_b9 : w0.heap.size ≤ b9 := Nat.le_trans hE_0.size' lo_b9
  obtain ⟨b10, s10_1, lo_b10, hbb10_1⟩ := t10
  have ne_b_b10 : b ≠ b10 := fun e => Nat.lt_irrefl _ (Nat.lt_of_lt_of_le hb.lt (e ▸ lo_b10))
  have nb_x1_b10 := SlT.old hsx1_0 lo_b10
  have fr_b10 : w0.heap.size ≤ b10 := Nat.le_trans hE_0.size' lo_b10
  obtain ⟨b11, s11_1, lo_b11, hbb11_1⟩ := t11
  have ne_b_b11 : b ≠ b11 := fun e => Nat.lt_irrefl _ (Nat.lt_of_lt_of_le hb.lt (e ▸ lo_b11))
  have nb_x1_b11 := SlT.old hsx1_0 lo_b11
  have fr_b11 : w0.heap.size ≤ b11 := Nat.le_trans hE_0.size' lo_b11
  obtain ⟨u0, ⟨u1, ⟨u2, _⟩⟩⟩ := hU
  have ne_b9_b10 : b9 ≠ b10 := fun e => u0 10 (by decide) (by rw [s9_1, s10_1, e])
  have ne_b9_b11 : b9 ≠ b11 := fun e => u0 11 (by decide) (by rw [s9_1, s11_1, e])
  have ne_b10_b11 : b10 ≠ b11 := fun e => u1 11 (by decide) (by rw [s10_1, s11_1, e])
  clear hE_0 hN_0 hD_0 s0_0 s1_0 s2_0 s3_0 s4_0 hb hsx1_0
  refine tail_nil ?_
  refine wp_seq ?_
  refine wp_seq ?_
  refine region_lex [] [(19, Pr.ex (i64 ((m : Nat) : Int))), (20, Pr.ex (i64 ((n : Nat) : Int))), (21, Pr.ex (Value.bool (decide (((m : Nat) : Int) = ((n : Nat) : Int)))))] 3 hN_1 hD_1 (by kernel_rfl) (by kernel_rfl) ?_ ?_
  refine Asks.cons ?_ (Asks.cons ?_ (Asks.cons ?_ (Asks.zero _)))
  exact Ask.plain rfl rfl fun aq wq hNq hO hR hT => does_move (V := i64 ((m : Nat) : Int)) ((hO 1 rfl).trans s1_1) ⟨Ext.refl _, rfl⟩
  exact Ask.plain rfl rfl fun aq wq hNq hO hR hT => does_move (V := i64 ((n : Nat) : Int)) ((hO 2 rfl).trans s2_1) ⟨Ext.refl _, rfl⟩
  exact Ask.plain rfl rfl fun aq wq hNq hO hR hT => does_eql (a := ((m : Nat) : Int)) (b := ((n : Nat) : Int)) (hT 19 rfl rfl) (hT 20 rfl rfl) ⟨Ext.refl _, rfl⟩
  intro a2 wd2 hN_2 hD_2 hO hR hA hU
  obtain ⟨_, _, t21, _⟩ := hA
  have hE_2 := hE_1.trans hR.toE
  have s0_2 := (hO 0 rfl).trans s0_1
  have s1_2 := (hO 1 rfl).trans s1_1
  have s2_2 := (hO 2 rfl).trans s2_1
  have s3_2 := (hO 3 rfl).trans s3_1
  have s9_2 := (hO 9 rfl).trans s9_1
  have s10_2 := (hO 10 rfl).trans s10_1
  have s11_2 := (hO 11 rfl).trans s11_1
  have hbb_2 := hbb_1.ext' hR
  have hbb9_2 := hbb9_1.ext' hR
  have hbb10_2 := hbb10_1.ext' hR
  have hbb11_2 := hbb11_1.ext' hR
  have hsx1_2 := hsx1_1.ext' hR
  have s21_2 : get a2 21 = Value.bool (decide (((m : Nat) : Int) = ((n : Nat) : Int))) := t21
  clear hE_1 hN_1 hD_1 s0_1 s1_1 s2_1 s3_1 s9_1 s10_1 s11_1 hbb_1 hbb9_1 hbb10_1 hbb11_1 hsx1_1
  refine tail_nil ?_
  refine wp_if (B := decide (((m : Nat) : Int) = ((n : Nat) : Int))) s21_2 (fun hc0 => ?_) (fun hc0 => ?_)
  have hc0 := of_decide_eq_true hc0
  have hend : ¬ (2 ≤ n ∧ m ≠ n) := fun h => h.2 (by omega)
  refine wp_seq ?_
  refine wp_seq ?_
  refine region_lex [] [(22, Pr.ex (Value.bool (whole)))] 1 hN_2 hD_2 (by kernel_rfl) (by kernel_rfl) ?_ ?_
  refine Asks.cons ?_ (Asks.zero _)
  exact Ask.plain rfl rfl fun aq wq hNq hO hR hT => does_move (V := Value.bool (whole)) ((hO 3 rfl).trans s3_2) ⟨Ext.refl _, rfl⟩
  intro a3 wd3 hN_3 hD_3 hO hR hA hU
  obtain ⟨t22, _⟩ := hA
  have hE_3 := hE_2.trans hR.toE
  have s0_3 := (hO 0 rfl).trans s0_2
  have s9_3 := (hO 9 rfl).trans s9_2
  have s10_3 := (hO 10 rfl).trans s10_2
  have s11_3 := (hO 11 rfl).trans s11_2
  have hbb_3 := hbb_2.ext' hR
  have hbb9_3 := hbb9_2.ext' hR
  have hbb10_3 := hbb10_2.ext' hR
  have hbb11_3 := hbb11_2.ext' hR
  have hsx1_3 := hsx1_2.ext' hR
  have s22_3 : get a3 22 = Value.bool (whole) := t22
  clear hE_2 hN_2 hD_2 s0_2 s1_2 s2_2 s3_2 s9_2 s10_2 s11_2 s21_2 hbb_2 hbb9_2 hbb10_2 hbb11_2 hsx1_2
  refine tail_nil ?_
  refine wp_if (B := whole) s22_3 (fun hc1 => ?_) (fun hc1 => ?_)
  refine wp_seq ?_
  refine region_late [] [(23, Pr.ex (Dg.val (old))), (24, Pr.ex (Dg.val (old)))] 2 [1] (fun k => k = b10 ∨ k = b11) mixed hN_3 hD_3 (by kernel_rfl) (by kernel_rfl) (by kernel_rfl) (by kernel_rfl) (fun d v c a w h => by cases d <;> exact h) ?_ ?_ ?_
  refine Asks.cons ?_ (Asks.cons ?_ (Asks.zero _))
  exact Ask.plainD rfl rfl fun aq wq hNq hO hR hT => does_loadD (o := 0) (n := 4) (mid := [w32 (old).a, w32 (old).b, w32 (old).c, w32 (old).d]) ((hO 9 rfl).trans s9_3) (hbb9_3.ext' hR) rfl rfl (Nat.le_of_ble_eq_true rfl) row_27 rfl ⟨Ext.refl _, rfl⟩
  exact Ask.plainD rfl rfl fun aq wq hNq hO hR hT => does_loadD (o := 0) (n := 4) (mid := [w32 (old).a, w32 (old).b, w32 (old).c, w32 (old).d]) ((hO 9 rfl).trans s9_3) (hbb9_3.ext' hR) rfl rfl (Nat.le_of_ble_eq_true rfl) row_27 rfl ⟨Ext.refl _, rfl⟩
  refine LateAsks.cons rfl rfl rfl ?_ LateAsks.nil
  intro aq wq hO hR hT
  have hR0 := hR
  replace hR := (Ext.drew _).trans hR
  exact ⟨_, yl_loadD (o := 0) (n := 4) (mid := [w32 (old).a, w32 (old).b, w32 (old).c, w32 (old).d]) ((hO 9 rfl).trans s9_3) hbb9_3 (fun e => e.elim ne_b9_b10 ne_b9_b11) rfl rfl (Nat.le_of_ble_eq_true rfl) row_27 rfl, rfl⟩
  intro wl hwl hwh a4 wd4 hN_4 hD_4 hO hR hA hU
  have hS_4 : ExtE (fun k => k = b10 ∨ k = b11) wl wd4 := hR.toE
  replace hR := hwl.trans hR
  obtain ⟨t23, t24, _⟩ := hA
  have hE_4 := hE_3.trans hR.toE
  have s10_4 := (hO 10 rfl).trans s10_3
  have s11_4 := (hO 11 rfl).trans s11_3
  have hbb_4 := hbb_3.ext' hR
  have hbb9_4 := hbb9_3.ext' hR
  have hbb10_4 := hbb10_3.ext' hR
  have hbb11_4 := hbb11_3.ext' hR
  have hsx1_4 := hsx1_3.ext' hR
  have s23_4 : get a4 23 = Dg.val (old) := t23
  have s24_4 : get a4 24 = Dg.val (old) := t24
  clear hE_3 hN_3 hD_3 s0_3 s9_3 s10_3 s11_3 s22_3 hbb_3 hbb9_3 hbb10_3 hbb11_3 hsx1_3
  refine tailS_none rfl rfl (does_storeD (o := 0) (n := 4) (cs' := [w32 (old).a, w32 (old).b, w32 (old).c, w32 (old).d]) (V := Dg.val (old)) s10_4 s23_4 hbb10_4 (Nat.le_of_ble_eq_true rfl) rfl siz_27 rfl rfl (fun wd5 hX hz hbb10_5 => ⟨hS_4.trans (hX.mono fun k _ e => .inl e), ?_⟩))
  have hS_5 := hS_4.trans (hX.mono (E' := (fun k => k = b10 ∨ k = b11)) fun k _ e => .inl e)
  have hE_5 := hE_4.since hX (fun k e => e ▸ fr_b10)
  have hbb_5 := hbb_4.ext hX ne_b_b10
  have hbb9_5 := hbb9_4.ext hX ne_b9_b10
  have hbb11_5 := hbb11_4.ext hX ne_b10_b11.symm
  have hsx1_5 := SlT.over hsx1_4 hX nb_x1_b10
  clear hX hz hE_4 hbb_4 hbb9_4 hbb10_4 hbb11_4 hsx1_4
  refine tailS_none rfl rfl (does_storeD (o := 0) (n := 4) (cs' := [w32 (old).a, w32 (old).b, w32 (old).c, w32 (old).d]) (V := Dg.val (old)) s11_4 s24_4 hbb11_5 (Nat.le_of_ble_eq_true rfl) rfl siz_27 rfl rfl (fun wd6 hX hz hbb11_6 => ⟨hS_5.trans (hX.mono fun k _ e => .inr e), ?_⟩))
  have hS_6 := hS_5.trans (hX.mono (E' := (fun k => k = b10 ∨ k = b11)) fun k _ e => .inr e)
  have hE_6 := hE_5.since hX (fun k e => e ▸ fr_b11)
  have hbb_6 := hbb_5.ext hX ne_b_b11
  have hbb9_6 := hbb9_5.ext hX ne_b9_b11
  have hbb10_6 := hbb10_5.ext hX ne_b10_b11
  have hsx1_6 := SlT.over hsx1_5 hX nb_x1_b11
  clear hX hz hE_5 hbb_5 hbb9_5 hbb10_5 hbb11_5 hsx1_5
  refine tailS_nil ?_
  refine wp_ret ?_
  refine res_two (V1 := Dg.val (old)) (V2 := Dg.val (old)) rfl hD_4 (ResIs.cell s10_4 hbb10_6 row_27 rfl rfl) (ResIs.cell s11_4 hbb11_6 row_27 rfl rfl) ?_
  subst hc1
  refine ⟨by rw [bothS_end1 hend, bothS_end2 hend], hE_6, ?_⟩
  have hS' : StkAt 108 b p (l) (ok) wd6 := ⟨_, hbb_6, hsx1_6⟩
  rw [bothS_end3 hend]
  exact hS'
  refine wp_skip ?_
  refine wp_seq ?_
  refine region_lex [] [(25, Pr.ex (Value.pointer (some ⟨b, 0, none⟩)))] 1 hN_3 hD_3 (by kernel_rfl) (by kernel_rfl) ?_ ?_
  refine Asks.cons ?_ (Asks.zero _)
  exact Ask.plain rfl rfl fun aq wq hNq hO hR hT => does_move (V := Value.pointer (some ⟨b, 0, none⟩)) ((hO 0 rfl).trans s0_3) ⟨Ext.refl _, rfl⟩
  intro a7 wd7 hN_7 hD_7 hO hR hA hU
  obtain ⟨t25, _⟩ := hA
  have hE_7 := hE_3.trans hR.toE
  have s10_7 := (hO 10 rfl).trans s10_3
  have s11_7 := (hO 11 rfl).trans s11_3
  have hbb_7 := hbb_3.ext' hR
  have hbb9_7 := hbb9_3.ext' hR
  have hbb10_7 := hbb10_3.ext' hR
  have hbb11_7 := hbb11_3.ext' hR
  have hsx1_7 := hsx1_3.ext' hR
  have s25_7 : get a7 25 = Value.pointer (some ⟨b, 0, none⟩) := t25
  clear hE_3 hN_3 hD_3 s0_3 s9_3 s10_3 s11_3 s22_3 hbb_3 hbb9_3 hbb10_3 hbb11_3 hsx1_3
  refine tail_put rfl rfl hN_7 hD_7 (by decide) (does_ret (vs := #[Value.pointer (some ⟨b, 0, none⟩)]) call_90 (args1 s25_7) rfl ((pop_ l ok b p wd7 ⟨_, hbb_7, hsx1_7⟩ hpb (Nat.lt_of_lt_of_le hpl hE_7.size') hn).mono fun v wd8 h => fun a8 hN_8 hD_8 hv hO => ?_))
  obtain ⟨hp, hX, hS⟩ := h
  have hE_8 := hE_7.trans hX
  have hbb9_8 := hbb9_7.ext hX ne_b_b9.symm
  have hbb10_8 := hbb10_7.ext hX ne_b_b10.symm
  have hbb11_8 := hbb11_7.ext hX ne_b_b11.symm
  have hsx1_8 := SlT.over hsx1_7 hX (SlT.pinned hsx1_7 hpb)
  obtain ⟨xs8, hbb_8, hsxs8_8⟩ := hS
  have s26_8 := hv.trans hp
  have s10_8 := (hO 10 rfl).trans s10_7
  have s11_8 := (hO 11 rfl).trans s11_7
  clear hO hv hp hX hN_7 hD_7 hE_7 hbb_7 hbb9_7 hbb10_7 hbb11_7 hsx1_7 s10_7 s11_7 s25_7
  refine tail_put rfl rfl hN_8 hD_8 (by decide) (does_alloc zero_27 (fun b12 wd9 he lo_b12 hbb12_9 => fun a9 hN_9 hD_9 hv hO => ?_))
  have s12_9 := hv
  have hE_9 := hE_8.trans he.toE
  have hbb_9 := hbb_8.ext' he
  have hbb9_9 := hbb9_8.ext' he
  have hbb10_9 := hbb10_8.ext' he
  have hbb11_9 := hbb11_8.ext' he
  have hsx1_9 := hsx1_8.ext' he
  have hsxs8_9 := hsxs8_8.ext' he
  have fr_b12 : w0.heap.size ≤ b12 := Nat.le_trans hE_8.size' lo_b12
  have ne_b_b12 : b ≠ b12 := fun e => Nat.lt_irrefl _ (Nat.lt_of_lt_of_le hbb_8.lt (e ▸ lo_b12))
  have ne_b9_b12 : b9 ≠ b12 := fun e => Nat.lt_irrefl _ (Nat.lt_of_lt_of_le hbb9_8.lt (e ▸ lo_b12))
  have ne_b10_b12 : b10 ≠ b12 := fun e => Nat.lt_irrefl _ (Nat.lt_of_lt_of_le hbb10_8.lt (e ▸ lo_b12))
  have ne_b11_b12 : b11 ≠ b12 := fun e => Nat.lt_irrefl _ (Nat.lt_of_lt_of_le hbb11_8.lt (e ▸ lo_b12))
  have nb_x1_b12 := SlT.old hsx1_8 lo_b12
  have nb_xs8_b12 := SlT.old hsxs8_8 lo_b12
  have s10_9 := (hO 10 rfl).trans s10_8
  have s11_9 := (hO 11 rfl).trans s11_8
  have s26_9 := (hO 26 rfl).trans s26_8
  clear hO hv hN_8 hD_8 hE_8 hbb_8 hbb9_8 hbb10_8 hbb11_8 hsx1_8 hsxs8_8 s10_8 s11_8 s26_8
  refine tail_none rfl rfl (does_storeD (o := 0) (n := 4) (cs' := [w32 (l.getLastD Dg.zero).a, w32 (l.getLastD Dg.zero).b, w32 (l.getLastD Dg.zero).c, w32 (l.getLastD Dg.zero).d]) (V := Dg.val (l.getLastD Dg.zero)) s12_9 s26_9 hbb12_9 (Nat.le_of_ble_eq_true rfl) rfl siz_27 rfl rfl (fun wd10 hX hz hbb12_10 => ?_))
  have hE_10 := hE_9.since hX (fun k e => e ▸ fr_b12)
  have hbb_10 := hbb_9.ext hX ne_b_b12
  have hbb9_10 := hbb9_9.ext hX ne_b9_b12
  have hbb10_10 := hbb10_9.ext hX ne_b10_b12
  have hbb11_10 := hbb11_9.ext hX ne_b11_b12
  have hsx1_10 := SlT.over hsx1_9 hX nb_x1_b12
  have hsxs8_10 := SlT.over hsxs8_9 hX nb_xs8_b12
  clear hX hz hE_9 hbb_9 hbb9_9 hbb10_9 hbb11_9 hbb12_9 hsx1_9 hsxs8_9
  refine tail_nil ?_
  refine wp_seq ?_
  refine region_late [] [(27, Pr.ex (Dg.val (l.getLastD Dg.zero))), (28, Pr.ex (Dg.val (l.getLastD Dg.zero)))] 2 [1] (fun k => k = b10 ∨ k = b11) mixed hN_9 hD_9 (by kernel_rfl) (by kernel_rfl) (by kernel_rfl) (by kernel_rfl) (fun d v c a w h => by cases d <;> exact h) ?_ ?_ ?_
  refine Asks.cons ?_ (Asks.cons ?_ (Asks.zero _))
  exact Ask.plainD rfl rfl fun aq wq hNq hO hR hT => does_loadD (o := 0) (n := 4) (mid := [w32 (l.getLastD Dg.zero).a, w32 (l.getLastD Dg.zero).b, w32 (l.getLastD Dg.zero).c, w32 (l.getLastD Dg.zero).d]) ((hO 12 rfl).trans s12_9) (hbb12_10.ext' hR) rfl rfl (Nat.le_of_ble_eq_true rfl) row_27 rfl ⟨Ext.refl _, rfl⟩
  exact Ask.plainD rfl rfl fun aq wq hNq hO hR hT => does_loadD (o := 0) (n := 4) (mid := [w32 (l.getLastD Dg.zero).a, w32 (l.getLastD Dg.zero).b, w32 (l.getLastD Dg.zero).c, w32 (l.getLastD Dg.zero).d]) ((hO 12 rfl).trans s12_9) (hbb12_10.ext' hR) rfl rfl (Nat.le_of_ble_eq_true rfl) row_27 rfl ⟨Ext.refl _, rfl⟩
  refine LateAsks.cons rfl rfl rfl ?_ LateAsks.nil
  intro aq wq hO hR hT
  have hR0 := hR
  replace hR := (Ext.drew _).trans hR
  exact ⟨_, yl_loadD (o := 0) (n := 4) (mid := [w32 (l.getLastD Dg.zero).a, w32 (l.getLastD Dg.zero).b, w32 (l.getLastD Dg.zero).c, w32 (l.getLastD Dg.zero).d]) ((hO 12 rfl).trans s12_9) hbb12_10 (fun e => e.elim ne_b10_b12.symm ne_b11_b12.symm) rfl rfl (Nat.le_of_ble_eq_true rfl) row_27 rfl, rfl⟩
  intro wl hwl hwh a11 wd11 hN_11 hD_11 hO hR hA hU
  have hS_11 : ExtE (fun k => k = b10 ∨ k = b11) wl wd11 := hR.toE
  replace hR := hwl.trans hR
  obtain ⟨t27, t28, _⟩ := hA
  have hE_11 := hE_10.trans hR.toE
  have s10_11 := (hO 10 rfl).trans s10_9
  have s11_11 := (hO 11 rfl).trans s11_9
  have hbb_11 := hbb_10.ext' hR
  have hbb9_11 := hbb9_10.ext' hR
  have hbb10_11 := hbb10_10.ext' hR
  have hbb11_11 := hbb11_10.ext' hR
  have hbb12_11 := hbb12_10.ext' hR
  have hsx1_11 := hsx1_10.ext' hR
  have hsxs8_11 := hsxs8_10.ext' hR
  have s27_11 : get a11 27 = Dg.val (l.getLastD Dg.zero) := t27
  have s28_11 : get a11 28 = Dg.val (l.getLastD Dg.zero) := t28
  clear hE_10 hN_9 hD_9 s10_9 s11_9 s12_9 s26_9 hbb_10 hbb9_10 hbb10_10 hbb11_10 hbb12_10 hsx1_10 hsxs8_10
  refine tailS_none rfl rfl (does_storeD (o := 0) (n := 4) (cs' := [w32 (l.getLastD Dg.zero).a, w32 (l.getLastD Dg.zero).b, w32 (l.getLastD Dg.zero).c, w32 (l.getLastD Dg.zero).d]) (V := Dg.val (l.getLastD Dg.zero)) s10_11 s27_11 hbb10_11 (Nat.le_of_ble_eq_true rfl) rfl siz_27 rfl rfl (fun wd12 hX hz hbb10_12 => ⟨hS_11.trans (hX.mono fun k _ e => .inl e), ?_⟩))
  have hS_12 := hS_11.trans (hX.mono (E' := (fun k => k = b10 ∨ k = b11)) fun k _ e => .inl e)
  have hE_12 := hE_11.since hX (fun k e => e ▸ fr_b10)
  have hbb_12 := hbb_11.ext hX ne_b_b10
  have hbb9_12 := hbb9_11.ext hX ne_b9_b10
  have hbb11_12 := hbb11_11.ext hX ne_b10_b11.symm
  have hbb12_12 := hbb12_11.ext hX ne_b10_b12.symm
  have hsx1_12 := SlT.over hsx1_11 hX nb_x1_b10
  have hsxs8_12 := SlT.over hsxs8_11 hX (SlT.pinned hsxs8_11 (Nat.ne_of_lt (Nat.lt_of_lt_of_le hpl fr_b10)))
  clear hX hz hE_11 hbb_11 hbb9_11 hbb10_11 hbb11_11 hbb12_11 hsx1_11 hsxs8_11
  refine tailS_none rfl rfl (does_storeD (o := 0) (n := 4) (cs' := [w32 (l.getLastD Dg.zero).a, w32 (l.getLastD Dg.zero).b, w32 (l.getLastD Dg.zero).c, w32 (l.getLastD Dg.zero).d]) (V := Dg.val (l.getLastD Dg.zero)) s11_11 s28_11 hbb11_12 (Nat.le_of_ble_eq_true rfl) rfl siz_27 rfl rfl (fun wd13 hX hz hbb11_13 => ⟨hS_12.trans (hX.mono fun k _ e => .inr e), ?_⟩))
  have hS_13 := hS_12.trans (hX.mono (E' := (fun k => k = b10 ∨ k = b11)) fun k _ e => .inr e)
  have hE_13 := hE_12.since hX (fun k e => e ▸ fr_b11)
  have hbb_13 := hbb_12.ext hX ne_b_b11
  have hbb9_13 := hbb9_12.ext hX ne_b9_b11
  have hbb10_13 := hbb10_12.ext hX ne_b10_b11
  have hbb12_13 := hbb12_12.ext hX ne_b11_b12.symm
  have hsx1_13 := SlT.over hsx1_12 hX nb_x1_b11
  have hsxs8_13 := SlT.over hsxs8_12 hX (SlT.pinned hsxs8_12 (Nat.ne_of_lt (Nat.lt_of_lt_of_le hpl fr_b11)))
  clear hX hz hE_12 hbb_12 hbb9_12 hbb10_12 hbb11_12 hbb12_12 hsx1_12 hsxs8_12
  refine tailS_nil ?_
  refine wp_ret ?_
  refine res_two (V1 := Dg.val (l.getLastD Dg.zero)) (V2 := Dg.val (l.getLastD Dg.zero)) rfl hD_11 (ResIs.cell s10_11 hbb10_13 row_27 rfl rfl) (ResIs.cell s11_11 hbb11_13 row_27 rfl rfl) ?_
  subst hc1
  refine ⟨by rw [bothS_cut1 hend, bothS_cut2 hend], hE_13, ?_⟩
  have hS' : StkAt 108 b p (l.dropLast) (ok && !l.isEmpty) wd13 := ⟨_, hbb_13, hsxs8_13⟩
  rw [bothS_cut3 hend]
  exact hS'
  have hc0 := of_decide_eq_false hc0
  have h2 : 2 ≤ n ∧ m ≠ n := ⟨by omega, by omega⟩
  have hh := half_lt h2.1
  have hp := half_pos n
  refine wp_skip ?_
  refine wp_seq ?_
  refine region_lex [] [(29, Pr.ex (i64 ((n : Nat) : Int))), (30, Pr.ex (i64 ((half n : Nat) : Int))), (31, Pr.ex (Value.pointer (some ⟨b, 0, none⟩)))] 3 hN_2 hD_2 (by kernel_rfl) (by kernel_rfl) ?_ ?_
  refine Asks.cons ?_ (Asks.cons ?_ (Asks.cons ?_ (Asks.zero _)))
  exact Ask.plain rfl rfl fun aq wq hNq hO hR hT => does_move (V := i64 ((n : Nat) : Int)) ((hO 2 rfl).trans s2_2) ⟨Ext.refl _, rfl⟩
  exact Ask.plain rfl rfl fun aq wq hNq hO hR hT => does_ret (vs := #[i64 ((n : Nat) : Int)]) call_49 (args1 (hT 29 rfl rfl)) rfl ((half_ (n) wq (by omega) (by omega)).mono fun v w2 h => ⟨h.2, h.1⟩)
  exact Ask.plain rfl rfl fun aq wq hNq hO hR hT => does_move (V := Value.pointer (some ⟨b, 0, none⟩)) ((hO 0 rfl).trans s0_2) ⟨Ext.refl _, rfl⟩
  intro a14 wd14 hN_14 hD_14 hO hR hA hU
  obtain ⟨_, t30, t31, _⟩ := hA
  have hE_14 := hE_2.trans hR.toE
  have s0_14 := (hO 0 rfl).trans s0_2
  have s1_14 := (hO 1 rfl).trans s1_2
  have s2_14 := (hO 2 rfl).trans s2_2
  have s3_14 := (hO 3 rfl).trans s3_2
  have s9_14 := (hO 9 rfl).trans s9_2
  have s10_14 := (hO 10 rfl).trans s10_2
  have s11_14 := (hO 11 rfl).trans s11_2
  have hbb_14 := hbb_2.ext' hR
  have hbb9_14 := hbb9_2.ext' hR
  have hbb10_14 := hbb10_2.ext' hR
  have hbb11_14 := hbb11_2.ext' hR
  have hsx1_14 := hsx1_2.ext' hR
  have s30_14 : get a14 30 = i64 ((half n : Nat) : Int) := t30
  have s31_14 : get a14 31 = Value.pointer (some ⟨b, 0, none⟩) := t31
  clear hE_2 hN_2 hD_2 s0_2 s1_2 s2_2 s3_2 s9_2 s10_2 s11_2 s21_2 hbb_2 hbb9_2 hbb10_2 hbb11_2 hsx1_2
  refine tail_put rfl rfl hN_14 hD_14 (by decide) (does_ret (vs := #[Value.pointer (some ⟨b, 0, none⟩)]) call_90 (args1 s31_14) rfl ((pop_ l ok b p wd14 ⟨_, hbb_14, hsx1_14⟩ hpb (Nat.lt_of_lt_of_le hpl hE_14.size') hn).mono fun v wd15 h => fun a15 hN_15 hD_15 hv hO => ?_))
  obtain ⟨hp, hX, hS⟩ := h
  have hE_15 := hE_14.trans hX
  have hbb9_15 := hbb9_14.ext hX ne_b_b9.symm
  have hbb10_15 := hbb10_14.ext hX ne_b_b10.symm
  have hbb11_15 := hbb11_14.ext hX ne_b_b11.symm
  have hsx1_15 := SlT.over hsx1_14 hX (SlT.pinned hsx1_14 hpb)
  obtain ⟨xs15, hbb_15, hsxs15_15⟩ := hS
  have s32_15 := hv.trans hp
  have s0_15 := (hO 0 rfl).trans s0_14
  have s1_15 := (hO 1 rfl).trans s1_14
  have s2_15 := (hO 2 rfl).trans s2_14
  have s3_15 := (hO 3 rfl).trans s3_14
  have s9_15 := (hO 9 rfl).trans s9_14
  have s10_15 := (hO 10 rfl).trans s10_14
  have s11_15 := (hO 11 rfl).trans s11_14
  have s30_15 := (hO 30 rfl).trans s30_14
  clear hO hv hp hX hN_14 hD_14 hE_14 hbb_14 hbb9_14 hbb10_14 hbb11_14 hsx1_14 s0_14 s1_14 s2_14 s3_14 s9_14 s10_14 s11_14 s30_14 s31_14
  refine tail_put rfl rfl hN_15 hD_15 (by decide) (does_alloc zero_27 (fun b14 wd16 he lo_b14 hbb14_16 => fun a16 hN_16 hD_16 hv hO => ?_))
  have s14_16 := hv
  have hE_16 := hE_15.trans he.toE
  have hbb_16 := hbb_15.ext' he
  have hbb9_16 := hbb9_15.ext' he
  have hbb10_16 := hbb10_15.ext' he
  have hbb11_16 := hbb11_15.ext' he
  have hsx1_16 := hsx1_15.ext' he
  have hsxs15_16 := hsxs15_15.ext' he
  have fr_b14 : w0.heap.size ≤ b14 := Nat.le_trans hE_15.size' lo_b14
  have ne_b_b14 : b ≠ b14 := fun e => Nat.lt_irrefl _ (Nat.lt_of_lt_of_le hbb_15.lt (e ▸ lo_b14))
  have ne_b9_b14 : b9 ≠ b14 := fun e => Nat.lt_irrefl _ (Nat.lt_of_lt_of_le hbb9_15.lt (e ▸ lo_b14))
  have ne_b10_b14 : b10 ≠ b14 := fun e => Nat.lt_irrefl _ (Nat.lt_of_lt_of_le hbb10_15.lt (e ▸ lo_b14))
  have ne_b11_b14 : b11 ≠ b14 := fun e => Nat.lt_irrefl _ (Nat.lt_of_lt_of_le hbb11_15.lt (e ▸ lo_b14))
  have nb_x1_b14 := SlT.old hsx1_15 lo_b14
  have nb_xs15_b14 := SlT.old hsxs15_15 lo_b14
  have s0_16 := (hO 0 rfl).trans s0_15
  have s1_16 := (hO 1 rfl).trans s1_15
  have s2_16 := (hO 2 rfl).trans s2_15
  have s3_16 := (hO 3 rfl).trans s3_15
  have s9_16 := (hO 9 rfl).trans s9_15
  have s10_16 := (hO 10 rfl).trans s10_15
  have s11_16 := (hO 11 rfl).trans s11_15
  have s30_16 := (hO 30 rfl).trans s30_15
  have s32_16 := (hO 32 rfl).trans s32_15
  clear hO hv hN_15 hD_15 hE_15 hbb_15 hbb9_15 hbb10_15 hbb11_15 hsx1_15 hsxs15_15 s0_15 s1_15 s2_15 s3_15 s9_15 s10_15 s11_15 s30_15 s32_15
  refine tail_put rfl rfl hN_16 hD_16 (by decide) (does_assign (V := i64 ((half n : Nat) : Int)) s30_16 (fun a17 hN_17 hD_17 hv hO => ?_))
  have s13_17 := hv
  have s0_17 := (hO 0 rfl).trans s0_16
  have s1_17 := (hO 1 rfl).trans s1_16
  have s2_17 := (hO 2 rfl).trans s2_16
  have s3_17 := (hO 3 rfl).trans s3_16
  have s9_17 := (hO 9 rfl).trans s9_16
  have s10_17 := (hO 10 rfl).trans s10_16
  have s11_17 := (hO 11 rfl).trans s11_16
  have s14_17 := (hO 14 rfl).trans s14_16
  have s32_17 := (hO 32 rfl).trans s32_16
  clear hO hv hN_16 hD_16 s0_16 s1_16 s2_16 s3_16 s9_16 s10_16 s11_16 s14_16 s30_16 s32_16
  refine tail_none rfl rfl (does_storeD (o := 0) (n := 4) (cs' := [w32 (l.getLastD Dg.zero).a, w32 (l.getLastD Dg.zero).b, w32 (l.getLastD Dg.zero).c, w32 (l.getLastD Dg.zero).d]) (V := Dg.val (l.getLastD Dg.zero)) s14_17 s32_17 hbb14_16 (Nat.le_of_ble_eq_true rfl) rfl siz_27 rfl rfl (fun wd18 hX hz hbb14_18 => ?_))
  have hE_18 := hE_16.since hX (fun k e => e ▸ fr_b14)
  have hbb_18 := hbb_16.ext hX ne_b_b14
  have hbb9_18 := hbb9_16.ext hX ne_b9_b14
  have hbb10_18 := hbb10_16.ext hX ne_b10_b14
  have hbb11_18 := hbb11_16.ext hX ne_b11_b14
  have hsx1_18 := SlT.over hsx1_16 hX nb_x1_b14
  have hsxs15_18 := SlT.over hsxs15_16 hX nb_xs15_b14
  clear hX hz hE_16 hbb_16 hbb9_16 hbb10_16 hbb11_16 hbb14_16 hsx1_16 hsxs15_16
  refine tail_nil ?_
  refine wp_seq ?_
  refine wp_seq ?_
  refine region_lex [] [(33, Pr.ex (i64 ((m : Nat) : Int))), (34, Pr.ex (i64 ((half n : Nat) : Int))), (35, Pr.ex (Value.bool (decide (((m : Nat) : Int) ≤ ((half n : Nat) : Int)))))] 3 hN_17 hD_17 (by kernel_rfl) (by kernel_rfl) ?_ ?_
  refine Asks.cons ?_ (Asks.cons ?_ (Asks.cons ?_ (Asks.zero _)))
  exact Ask.plain rfl rfl fun aq wq hNq hO hR hT => does_move (V := i64 ((m : Nat) : Int)) ((hO 1 rfl).trans s1_17) ⟨Ext.refl _, rfl⟩
  exact Ask.plain rfl rfl fun aq wq hNq hO hR hT => does_move (V := i64 ((half n : Nat) : Int)) ((hO 13 rfl).trans s13_17) ⟨Ext.refl _, rfl⟩
  exact Ask.plain rfl rfl fun aq wq hNq hO hR hT => does_leq (a := ((m : Nat) : Int)) (b := ((half n : Nat) : Int)) (hT 33 rfl rfl) (hT 34 rfl rfl) ⟨Ext.refl _, rfl⟩
  intro a19 wd19 hN_19 hD_19 hO hR hA hU
  obtain ⟨_, _, t35, _⟩ := hA
  have hE_19 := hE_18.trans hR.toE
  have s0_19 := (hO 0 rfl).trans s0_17
  have s1_19 := (hO 1 rfl).trans s1_17
  have s2_19 := (hO 2 rfl).trans s2_17
  have s3_19 := (hO 3 rfl).trans s3_17
  have s9_19 := (hO 9 rfl).trans s9_17
  have s10_19 := (hO 10 rfl).trans s10_17
  have s11_19 := (hO 11 rfl).trans s11_17
  have s13_19 := (hO 13 rfl).trans s13_17
  have s14_19 := (hO 14 rfl).trans s14_17
  have hbb_19 := hbb_18.ext' hR
  have hbb9_19 := hbb9_18.ext' hR
  have hbb10_19 := hbb10_18.ext' hR
  have hbb11_19 := hbb11_18.ext' hR
  have hbb14_19 := hbb14_18.ext' hR
  have hsx1_19 := hsx1_18.ext' hR
  have hsxs15_19 := hsxs15_18.ext' hR
  have s35_19 : get a19 35 = Value.bool (decide (((m : Nat) : Int) ≤ ((half n : Nat) : Int))) := t35
  clear hE_18 hN_17 hD_17 s0_17 s1_17 s2_17 s3_17 s9_17 s10_17 s11_17 s13_17 s14_17 s32_17 hbb_18 hbb9_18 hbb10_18 hbb11_18 hbb14_18 hsx1_18 hsxs15_18
  refine tail_nil ?_
  refine wp_if (B := decide (((m : Nat) : Int) ≤ ((half n : Nat) : Int))) s35_19 (fun hc2 => ?_) (fun hc2 => ?_)
  have hc2 := of_decide_eq_true hc2
  have hlo : m ≤ half n := by omega
  refine wp_seq ?_
  refine region_lex [] [(37, Pr.ex (Value.pointer (some ⟨b, 0, none⟩))), (38, Pr.ex (i64 ((m : Nat) : Int))), (39, Pr.ex (i64 ((half n : Nat) : Int))), (40, Pr.ex (Value.bool (whole))), (41, Pr.ex (Dg.val (old)))] 5 hN_19 hD_19 (by kernel_rfl) (by kernel_rfl) ?_ ?_
  refine Asks.cons ?_ (Asks.cons ?_ (Asks.cons ?_ (Asks.cons ?_ (Asks.cons ?_ (Asks.zero _)))))
  exact Ask.plain rfl rfl fun aq wq hNq hO hR hT => does_move (V := Value.pointer (some ⟨b, 0, none⟩)) ((hO 0 rfl).trans s0_19) ⟨Ext.refl _, rfl⟩
  exact Ask.plain rfl rfl fun aq wq hNq hO hR hT => does_move (V := i64 ((m : Nat) : Int)) ((hO 1 rfl).trans s1_19) ⟨Ext.refl _, rfl⟩
  exact Ask.plain rfl rfl fun aq wq hNq hO hR hT => does_move (V := i64 ((half n : Nat) : Int)) ((hO 13 rfl).trans s13_19) ⟨Ext.refl _, rfl⟩
  exact Ask.plain rfl rfl fun aq wq hNq hO hR hT => does_move (V := Value.bool (whole)) ((hO 3 rfl).trans s3_19) ⟨Ext.refl _, rfl⟩
  exact Ask.plain rfl rfl fun aq wq hNq hO hR hT => does_loadD (o := 0) (n := 4) (mid := [w32 (old).a, w32 (old).b, w32 (old).c, w32 (old).d]) ((hO 9 rfl).trans s9_19) (hbb9_19.ext' hR) rfl rfl (Nat.le_of_ble_eq_true rfl) row_27 rfl ⟨Ext.refl _, rfl⟩
  intro a20 wd20 hN_20 hD_20 hO hR hA hU
  obtain ⟨t37, t38, t39, t40, t41, _⟩ := hA
  have hE_20 := hE_19.trans hR.toE
  have s10_20 := (hO 10 rfl).trans s10_19
  have s11_20 := (hO 11 rfl).trans s11_19
  have s14_20 := (hO 14 rfl).trans s14_19
  have hbb_20 := hbb_19.ext' hR
  have hbb9_20 := hbb9_19.ext' hR
  have hbb10_20 := hbb10_19.ext' hR
  have hbb11_20 := hbb11_19.ext' hR
  have hbb14_20 := hbb14_19.ext' hR
  have hsx1_20 := hsx1_19.ext' hR
  have hsxs15_20 := hsxs15_19.ext' hR
  have s37_20 : get a20 37 = Value.pointer (some ⟨b, 0, none⟩) := t37
  have s38_20 : get a20 38 = i64 ((m : Nat) : Int) := t38
  have s39_20 : get a20 39 = i64 ((half n : Nat) : Int) := t39
  have s40_20 : get a20 40 = Value.bool (whole) := t40
  have s41_20 : get a20 41 = Dg.val (old) := t41
  clear hE_19 hN_19 hD_19 s0_19 s1_19 s2_19 s3_19 s9_19 s10_19 s11_19 s13_19 s14_19 s35_19 hbb_19 hbb9_19 hbb10_19 hbb11_19 hbb14_19 hsx1_19 hsxs15_19
  refine tail_put rfl rfl hN_20 hD_20 (by decide) (does_ret (vs := #[Value.pointer (some ⟨b, 0, none⟩), i64 ((m : Nat) : Int), i64 ((half n : Nat) : Int), Value.bool (whole), Dg.val (old)]) call_70 (args5 s37_20 s38_20 s39_20 s40_20 s41_20) rfl ((ih _ (by omega) m (half n) whole old l.dropLast (ok && !l.isEmpty) b p wd20 (Laid.extE hL hE_20 hb0) hb0 ⟨_, hbb_20, hsxs15_20⟩ hpb (Nat.lt_of_lt_of_le hpl hE_20.size') (by omega) (by omega) (by omega) (by simp only [List.length_dropLast]; omega) rfl).mono fun v wd21 h => fun a21 hN_21 hD_21 hv hO => ?_))
  obtain ⟨hp, hX, hS⟩ := h
  have hE_21 := hE_20.trans hX
  have hbb9_21 := hbb9_20.ext hX ne_b_b9.symm
  have hbb10_21 := hbb10_20.ext hX ne_b_b10.symm
  have hbb11_21 := hbb11_20.ext hX ne_b_b11.symm
  have hbb14_21 := hbb14_20.ext hX ne_b_b14.symm
  have hsx1_21 := SlT.over hsx1_20 hX (SlT.pinned hsx1_20 hpb)
  have hsxs15_21 := SlT.over hsxs15_20 hX (SlT.pinned hsxs15_20 hpb)
  obtain ⟨xs21, hbb_21, hsxs21_21⟩ := hS
  have s42_21 := hv.trans hp
  have s10_21 := (hO 10 rfl).trans s10_20
  have s11_21 := (hO 11 rfl).trans s11_20
  have s14_21 := (hO 14 rfl).trans s14_20
  clear hO hv hp hX hN_20 hD_20 hE_20 hbb_20 hbb9_20 hbb10_20 hbb11_20 hbb14_20 hsx1_20 hsxs15_20 s10_20 s11_20 s14_20 s37_20 s38_20 s39_20 s40_20 s41_20
  refine tail_put rfl rfl hN_21 hD_21 (by decide) (does_move (V := Value.tuple #[Dg.val ((bothS old m (half n) whole l.dropLast (ok && !l.isEmpty)).1), Dg.val ((bothS old m (half n) whole l.dropLast (ok && !l.isEmpty)).2.1)]) s42_21 (fun a22 hN_22 hD_22 hv hO => ?_))
  have s36_22 := hv
  have s10_22 := (hO 10 rfl).trans s10_21
  have s11_22 := (hO 11 rfl).trans s11_21
  have s14_22 := (hO 14 rfl).trans s14_21
  clear hO hv hN_21 hD_21 s10_21 s11_21 s14_21 s42_21
  refine tail_put rfl rfl hN_22 hD_22 (by decide) (does_extract (V := Dg.val ((bothS old m (half n) whole l.dropLast (ok && !l.isEmpty)).1)) s36_22 rfl (fun a23 hN_23 hD_23 hv hO => ?_))
  have s43_23 := hv
  have s10_23 := (hO 10 rfl).trans s10_22
  have s11_23 := (hO 11 rfl).trans s11_22
  have s14_23 := (hO 14 rfl).trans s14_22
  have s36_23 := (hO 36 rfl).trans s36_22
  clear hO hv hN_22 hD_22 s10_22 s11_22 s14_22 s36_22
  refine tail_put rfl rfl hN_23 hD_23 (by decide) (does_extract (V := Dg.val ((bothS old m (half n) whole l.dropLast (ok && !l.isEmpty)).2.1)) s36_23 rfl (fun a24 hN_24 hD_24 hv hO => ?_))
  have s44_24 := hv
  have s10_24 := (hO 10 rfl).trans s10_23
  have s11_24 := (hO 11 rfl).trans s11_23
  have s14_24 := (hO 14 rfl).trans s14_23
  have s43_24 := (hO 43 rfl).trans s43_23
  clear hO hv hN_23 hD_23 s10_23 s11_23 s14_23 s36_23 s43_23
  refine tail_put rfl rfl hN_24 hD_24 (by decide) (does_alloc zero_27 (fun b15 wd25 he lo_b15 hbb15_25 => fun a25 hN_25 hD_25 hv hO => ?_))
  have s15_25 := hv
  have hE_25 := hE_21.trans he.toE
  have hbb_25 := hbb_21.ext' he
  have hbb9_25 := hbb9_21.ext' he
  have hbb10_25 := hbb10_21.ext' he
  have hbb11_25 := hbb11_21.ext' he
  have hbb14_25 := hbb14_21.ext' he
  have hsx1_25 := hsx1_21.ext' he
  have hsxs15_25 := hsxs15_21.ext' he
  have hsxs21_25 := hsxs21_21.ext' he
  have fr_b15 : w0.heap.size ≤ b15 := Nat.le_trans hE_21.size' lo_b15
  have ne_b_b15 : b ≠ b15 := fun e => Nat.lt_irrefl _ (Nat.lt_of_lt_of_le hbb_21.lt (e ▸ lo_b15))
  have ne_b9_b15 : b9 ≠ b15 := fun e => Nat.lt_irrefl _ (Nat.lt_of_lt_of_le hbb9_21.lt (e ▸ lo_b15))
  have ne_b10_b15 : b10 ≠ b15 := fun e => Nat.lt_irrefl _ (Nat.lt_of_lt_of_le hbb10_21.lt (e ▸ lo_b15))
  have ne_b11_b15 : b11 ≠ b15 := fun e => Nat.lt_irrefl _ (Nat.lt_of_lt_of_le hbb11_21.lt (e ▸ lo_b15))
  have ne_b14_b15 : b14 ≠ b15 := fun e => Nat.lt_irrefl _ (Nat.lt_of_lt_of_le hbb14_21.lt (e ▸ lo_b15))
  have nb_x1_b15 := SlT.old hsx1_21 lo_b15
  have nb_xs15_b15 := SlT.old hsxs15_21 lo_b15
  have nb_xs21_b15 := SlT.old hsxs21_21 lo_b15
  have s10_25 := (hO 10 rfl).trans s10_24
  have s11_25 := (hO 11 rfl).trans s11_24
  have s14_25 := (hO 14 rfl).trans s14_24
  have s43_25 := (hO 43 rfl).trans s43_24
  have s44_25 := (hO 44 rfl).trans s44_24
  clear hO hv hN_24 hD_24 hE_21 hbb_21 hbb9_21 hbb10_21 hbb11_21 hbb14_21 hsx1_21 hsxs15_21 hsxs21_21 s10_24 s11_24 s14_24 s43_24 s44_24
  refine tail_put rfl rfl hN_25 hD_25 (by decide) (does_alloc zero_27 (fun b16 wd26 he lo_b16 hbb16_26 => fun a26 hN_26 hD_26 hv hO => ?_))
  have s16_26 := hv
  have hE_26 := hE_25.trans he.toE
  have hbb_26 := hbb_25.ext' he
  have hbb9_26 := hbb9_25.ext' he
  have hbb10_26 := hbb10_25.ext' he
  have hbb11_26 := hbb11_25.ext' he
  have hbb14_26 := hbb14_25.ext' he
  have hbb15_26 := hbb15_25.ext' he
  have hsx1_26 := hsx1_25.ext' he
  have hsxs15_26 := hsxs15_25.ext' he
  have hsxs21_26 := hsxs21_25.ext' he
  have fr_b16 : w0.heap.size ≤ b16 := Nat.le_trans hE_25.size' lo_b16
  have ne_b_b16 : b ≠ b16 := fun e => Nat.lt_irrefl _ (Nat.lt_of_lt_of_le hbb_25.lt (e ▸ lo_b16))
  have ne_b9_b16 : b9 ≠ b16 := fun e => Nat.lt_irrefl _ (Nat.lt_of_lt_of_le hbb9_25.lt (e ▸ lo_b16))
  have ne_b10_b16 : b10 ≠ b16 := fun e => Nat.lt_irrefl _ (Nat.lt_of_lt_of_le hbb10_25.lt (e ▸ lo_b16))
  have ne_b11_b16 : b11 ≠ b16 := fun e => Nat.lt_irrefl _ (Nat.lt_of_lt_of_le hbb11_25.lt (e ▸ lo_b16))
  have ne_b14_b16 : b14 ≠ b16 := fun e => Nat.lt_irrefl _ (Nat.lt_of_lt_of_le hbb14_25.lt (e ▸ lo_b16))
  have ne_b15_b16 : b15 ≠ b16 := fun e => Nat.lt_irrefl _ (Nat.lt_of_lt_of_le hbb15_25.lt (e ▸ lo_b16))
  have nb_x1_b16 := SlT.old hsx1_25 lo_b16
  have nb_xs15_b16 := SlT.old hsxs15_25 lo_b16
  have nb_xs21_b16 := SlT.old hsxs21_25 lo_b16
  have s10_26 := (hO 10 rfl).trans s10_25
  have s11_26 := (hO 11 rfl).trans s11_25
  have s14_26 := (hO 14 rfl).trans s14_25
  have s15_26 := (hO 15 rfl).trans s15_25
  have s43_26 := (hO 43 rfl).trans s43_25
  have s44_26 := (hO 44 rfl).trans s44_25
  clear hO hv hN_25 hD_25 hE_25 hbb_25 hbb9_25 hbb10_25 hbb11_25 hbb14_25 hbb15_25 hsx1_25 hsxs15_25 hsxs21_25 s10_25 s11_25 s14_25 s15_25 s43_25 s44_25
  refine tail_none rfl rfl (does_storeD (o := 0) (n := 4) (cs' := [w32 ((bothS old m (half n) whole l.dropLast (ok && !l.isEmpty)).1).a, w32 ((bothS old m (half n) whole l.dropLast (ok && !l.isEmpty)).1).b, w32 ((bothS old m (half n) whole l.dropLast (ok && !l.isEmpty)).1).c, w32 ((bothS old m (half n) whole l.dropLast (ok && !l.isEmpty)).1).d]) (V := Dg.val ((bothS old m (half n) whole l.dropLast (ok && !l.isEmpty)).1)) s15_26 s43_26 hbb15_26 (Nat.le_of_ble_eq_true rfl) rfl siz_27 rfl rfl (fun wd27 hX hz hbb15_27 => ?_))
  have hE_27 := hE_26.since hX (fun k e => e ▸ fr_b15)
  have hbb_27 := hbb_26.ext hX ne_b_b15
  have hbb9_27 := hbb9_26.ext hX ne_b9_b15
  have hbb10_27 := hbb10_26.ext hX ne_b10_b15
  have hbb11_27 := hbb11_26.ext hX ne_b11_b15
  have hbb14_27 := hbb14_26.ext hX ne_b14_b15
  have hbb16_27 := hbb16_26.ext hX ne_b15_b16.symm
  have hsx1_27 := SlT.over hsx1_26 hX nb_x1_b15
  have hsxs15_27 := SlT.over hsxs15_26 hX nb_xs15_b15
  have hsxs21_27 := SlT.over hsxs21_26 hX nb_xs21_b15
  clear hX hz hE_26 hbb_26 hbb9_26 hbb10_26 hbb11_26 hbb14_26 hbb15_26 hbb16_26 hsx1_26 hsxs15_26 hsxs21_26
  refine tail_none rfl rfl (does_storeD (o := 0) (n := 4) (cs' := [w32 ((bothS old m (half n) whole l.dropLast (ok && !l.isEmpty)).2.1).a, w32 ((bothS old m (half n) whole l.dropLast (ok && !l.isEmpty)).2.1).b, w32 ((bothS old m (half n) whole l.dropLast (ok && !l.isEmpty)).2.1).c, w32 ((bothS old m (half n) whole l.dropLast (ok && !l.isEmpty)).2.1).d]) (V := Dg.val ((bothS old m (half n) whole l.dropLast (ok && !l.isEmpty)).2.1)) s16_26 s44_26 hbb16_27 (Nat.le_of_ble_eq_true rfl) rfl siz_27 rfl rfl (fun wd28 hX hz hbb16_28 => ?_))
  have hE_28 := hE_27.since hX (fun k e => e ▸ fr_b16)
  have hbb_28 := hbb_27.ext hX ne_b_b16
  have hbb9_28 := hbb9_27.ext hX ne_b9_b16
  have hbb10_28 := hbb10_27.ext hX ne_b10_b16
  have hbb11_28 := hbb11_27.ext hX ne_b11_b16
  have hbb14_28 := hbb14_27.ext hX ne_b14_b16
  have hbb15_28 := hbb15_27.ext hX ne_b15_b16
  have hsx1_28 := SlT.over hsx1_27 hX nb_x1_b16
  have hsxs15_28 := SlT.over hsxs15_27 hX nb_xs15_b16
  have hsxs21_28 := SlT.over hsxs21_27 hX nb_xs21_b16
  clear hX hz hE_27 hbb_27 hbb9_27 hbb10_27 hbb11_27 hbb14_27 hbb15_27 hbb16_27 hsx1_27 hsxs15_27 hsxs21_27
  refine tail_nil ?_
  refine wp_seq ?_
  refine region_any [] [(45, Pr.ex (Dg.val ((bothS old m (half n) whole l.dropLast (ok && !l.isEmpty)).1))), (46, Pr.ex (Dg.val ((bothS old m (half n) whole l.dropLast (ok && !l.isEmpty)).2.1))), (47, Pr.ex (Dg.val (l.getLastD Dg.zero))), (48, Pr.ex (Dg.val (pair ((bothS old m (half n) whole l.dropLast (ok && !l.isEmpty)).2.1) (l.getLastD Dg.zero))))] 4 mixed hN_26 hD_26 (by kernel_rfl) (by kernel_rfl) (by kernel_rfl) ?_ ?_
  refine Asks.cons ?_ (Asks.cons ?_ (Asks.cons ?_ (Asks.cons ?_ (Asks.zero _))))
  exact Ask.plainD rfl rfl fun aq wq hNq hO hR hT => does_loadD (o := 0) (n := 4) (mid := [w32 ((bothS old m (half n) whole l.dropLast (ok && !l.isEmpty)).1).a, w32 ((bothS old m (half n) whole l.dropLast (ok && !l.isEmpty)).1).b, w32 ((bothS old m (half n) whole l.dropLast (ok && !l.isEmpty)).1).c, w32 ((bothS old m (half n) whole l.dropLast (ok && !l.isEmpty)).1).d]) ((hO 15 rfl).trans s15_26) (hbb15_28.ext' hR) rfl rfl (Nat.le_of_ble_eq_true rfl) row_27 rfl ⟨Ext.refl _, rfl⟩
  exact Ask.plainD rfl rfl fun aq wq hNq hO hR hT => does_loadD (o := 0) (n := 4) (mid := [w32 ((bothS old m (half n) whole l.dropLast (ok && !l.isEmpty)).2.1).a, w32 ((bothS old m (half n) whole l.dropLast (ok && !l.isEmpty)).2.1).b, w32 ((bothS old m (half n) whole l.dropLast (ok && !l.isEmpty)).2.1).c, w32 ((bothS old m (half n) whole l.dropLast (ok && !l.isEmpty)).2.1).d]) ((hO 16 rfl).trans s16_26) (hbb16_28.ext' hR) rfl rfl (Nat.le_of_ble_eq_true rfl) row_27 rfl ⟨Ext.refl _, rfl⟩
  exact Ask.plainD rfl rfl fun aq wq hNq hO hR hT => does_loadD (o := 0) (n := 4) (mid := [w32 (l.getLastD Dg.zero).a, w32 (l.getLastD Dg.zero).b, w32 (l.getLastD Dg.zero).c, w32 (l.getLastD Dg.zero).d]) ((hO 14 rfl).trans s14_26) (hbb14_28.ext' hR) rfl rfl (Nat.le_of_ble_eq_true rfl) row_27 rfl ⟨Ext.refl _, rfl⟩
  exact Ask.plainD rfl rfl fun aq wq hNq hO hR hT => does_ret (vs := #[Dg.val ((bothS old m (half n) whole l.dropLast (ok && !l.isEmpty)).2.1), Dg.val (l.getLastD Dg.zero)]) call_41 (args2 (hT 46 rfl rfl) (hT 47 rfl rfl)) rfl ((pair_ ((bothS old m (half n) whole l.dropLast (ok && !l.isEmpty)).2.1) (l.getLastD Dg.zero) wq (Laid.extE hL (hE_28.trans hR.toE) hb0)).mono fun v w2 h => ⟨h.2, h.1⟩)
  intro a29 wd29 hN_29 hD_29 hO hR hA hU
  obtain ⟨t45, _, _, t48, _⟩ := hA
  have hE_29 := hE_28.trans hR.toE
  have s10_29 := (hO 10 rfl).trans s10_26
  have s11_29 := (hO 11 rfl).trans s11_26
  have hbb_29 := hbb_28.ext' hR
  have hbb9_29 := hbb9_28.ext' hR
  have hbb10_29 := hbb10_28.ext' hR
  have hbb11_29 := hbb11_28.ext' hR
  have hbb14_29 := hbb14_28.ext' hR
  have hbb15_29 := hbb15_28.ext' hR
  have hbb16_29 := hbb16_28.ext' hR
  have hsx1_29 := hsx1_28.ext' hR
  have hsxs15_29 := hsxs15_28.ext' hR
  have hsxs21_29 := hsxs21_28.ext' hR
  have s45_29 : get a29 45 = Dg.val ((bothS old m (half n) whole l.dropLast (ok && !l.isEmpty)).1) := t45
  have s48_29 : get a29 48 = Dg.val (pair ((bothS old m (half n) whole l.dropLast (ok && !l.isEmpty)).2.1) (l.getLastD Dg.zero)) := t48
  clear hE_28 hN_26 hD_26 s10_26 s11_26 s14_26 s15_26 s16_26 s43_26 s44_26 hbb_28 hbb9_28 hbb10_28 hbb11_28 hbb14_28 hbb15_28 hbb16_28 hsx1_28 hsxs15_28 hsxs21_28
  refine tail_none rfl rfl (does_storeD (o := 0) (n := 4) (cs' := [w32 ((bothS old m (half n) whole l.dropLast (ok && !l.isEmpty)).1).a, w32 ((bothS old m (half n) whole l.dropLast (ok && !l.isEmpty)).1).b, w32 ((bothS old m (half n) whole l.dropLast (ok && !l.isEmpty)).1).c, w32 ((bothS old m (half n) whole l.dropLast (ok && !l.isEmpty)).1).d]) (V := Dg.val ((bothS old m (half n) whole l.dropLast (ok && !l.isEmpty)).1)) s10_29 s45_29 hbb10_29 (Nat.le_of_ble_eq_true rfl) rfl siz_27 rfl rfl (fun wd30 hX hz hbb10_30 => ?_))
  have hE_30 := hE_29.since hX (fun k e => e ▸ fr_b10)
  have hbb_30 := hbb_29.ext hX ne_b_b10
  have hbb9_30 := hbb9_29.ext hX ne_b9_b10
  have hbb11_30 := hbb11_29.ext hX ne_b10_b11.symm
  have hbb14_30 := hbb14_29.ext hX ne_b10_b14.symm
  have hbb15_30 := hbb15_29.ext hX ne_b10_b15.symm
  have hbb16_30 := hbb16_29.ext hX ne_b10_b16.symm
  have hsx1_30 := SlT.over hsx1_29 hX nb_x1_b10
  have hsxs15_30 := SlT.over hsxs15_29 hX (SlT.pinned hsxs15_29 (Nat.ne_of_lt (Nat.lt_of_lt_of_le hpl fr_b10)))
  have hsxs21_30 := SlT.over hsxs21_29 hX (SlT.pinned hsxs21_29 (Nat.ne_of_lt (Nat.lt_of_lt_of_le hpl fr_b10)))
  clear hX hz hE_29 hbb_29 hbb9_29 hbb10_29 hbb11_29 hbb14_29 hbb15_29 hbb16_29 hsx1_29 hsxs15_29 hsxs21_29
  refine tail_none rfl rfl (does_storeD (o := 0) (n := 4) (cs' := [w32 (pair ((bothS old m (half n) whole l.dropLast (ok && !l.isEmpty)).2.1) (l.getLastD Dg.zero)).a, w32 (pair ((bothS old m (half n) whole l.dropLast (ok && !l.isEmpty)).2.1) (l.getLastD Dg.zero)).b, w32 (pair ((bothS old m (half n) whole l.dropLast (ok && !l.isEmpty)).2.1) (l.getLastD Dg.zero)).c, w32 (pair ((bothS old m (half n) whole l.dropLast (ok && !l.isEmpty)).2.1) (l.getLastD Dg.zero)).d]) (V := Dg.val (pair ((bothS old m (half n) whole l.dropLast (ok && !l.isEmpty)).2.1) (l.getLastD Dg.zero))) s11_29 s48_29 hbb11_30 (Nat.le_of_ble_eq_true rfl) rfl siz_27 rfl rfl (fun wd31 hX hz hbb11_31 => ?_))
  have hE_31 := hE_30.since hX (fun k e => e ▸ fr_b11)
  have hbb_31 := hbb_30.ext hX ne_b_b11
  have hbb9_31 := hbb9_30.ext hX ne_b9_b11
  have hbb10_31 := hbb10_30.ext hX ne_b10_b11
  have hbb14_31 := hbb14_30.ext hX ne_b11_b14.symm
  have hbb15_31 := hbb15_30.ext hX ne_b11_b15.symm
  have hbb16_31 := hbb16_30.ext hX ne_b11_b16.symm
  have hsx1_31 := SlT.over hsx1_30 hX nb_x1_b11
  have hsxs15_31 := SlT.over hsxs15_30 hX (SlT.pinned hsxs15_30 (Nat.ne_of_lt (Nat.lt_of_lt_of_le hpl fr_b11)))
  have hsxs21_31 := SlT.over hsxs21_30 hX (SlT.pinned hsxs21_30 (Nat.ne_of_lt (Nat.lt_of_lt_of_le hpl fr_b11)))
  clear hX hz hE_30 hbb_30 hbb9_30 hbb10_30 hbb11_30 hbb14_30 hbb15_30 hbb16_30 hsx1_30 hsxs15_30 hsxs21_30
  refine tail_nil ?_
  refine wp_ret ?_
  refine res_two (V1 := Dg.val ((bothS old m (half n) whole l.dropLast (ok && !l.isEmpty)).1)) (V2 := Dg.val (pair ((bothS old m (half n) whole l.dropLast (ok && !l.isEmpty)).2.1) (l.getLastD Dg.zero))) rfl hD_29 (ResIs.cell s10_29 hbb10_31 row_27 rfl rfl) (ResIs.cell s11_29 hbb11_31 row_27 rfl rfl) ?_
  refine ⟨by rw [bothS_lo1 h2 hlo, bothS_lo2 h2 hlo], hE_31, ?_⟩
  have hS' : StkAt 108 b p ((bothS old m (half n) whole l.dropLast (ok && !l.isEmpty)).2.2.1) ((bothS old m (half n) whole l.dropLast (ok && !l.isEmpty)).2.2.2) wd31 := ⟨_, hbb_31, hsxs21_31⟩
  rw [bothS_lo3 h2 hlo]
  exact hS'
  have hc2 := of_decide_eq_false hc2
  have hhi : ¬ m ≤ half n := by omega
  refine wp_skip ?_
  refine wp_seq ?_
  refine region_lex [] [(50, Pr.ex (Value.pointer (some ⟨b, 0, none⟩))), (51, Pr.ex (i64 ((m : Nat) : Int))), (52, Pr.ex (i64 ((half n : Nat) : Int))), (53, Pr.ex (i64 ((m - (half n) : Nat) : Int))), (54, Pr.ex (i64 ((n : Nat) : Int))), (55, Pr.ex (i64 ((half n : Nat) : Int))), (56, Pr.ex (i64 ((n - (half n) : Nat) : Int))), (57, Pr.ex (Dg.val (old)))] 8 hN_19 hD_19 (by kernel_rfl) (by kernel_rfl) ?_ ?_
  refine Asks.cons ?_ (Asks.cons ?_ (Asks.cons ?_ (Asks.cons ?_ (Asks.cons ?_ (Asks.cons ?_ (Asks.cons ?_ (Asks.cons ?_ (Asks.zero _))))))))
  exact Ask.plain rfl rfl fun aq wq hNq hO hR hT => does_move (V := Value.pointer (some ⟨b, 0, none⟩)) ((hO 0 rfl).trans s0_19) ⟨Ext.refl _, rfl⟩
  exact Ask.plain rfl rfl fun aq wq hNq hO hR hT => does_move (V := i64 ((m : Nat) : Int)) ((hO 1 rfl).trans s1_19) ⟨Ext.refl _, rfl⟩
  exact Ask.plain rfl rfl fun aq wq hNq hO hR hT => does_move (V := i64 ((half n : Nat) : Int)) ((hO 13 rfl).trans s13_19) ⟨Ext.refl _, rfl⟩
  exact Ask.plain rfl rfl fun aq wq hNq hO hR hT => does_sub (a := ((m : Nat) : Int)) (b := ((half n : Nat) : Int)) (r := ((m - (half n) : Nat) : Int)) (hT 51 rfl rfl) (hT 52 rfl rfl) (by omega) (by omega) (by omega) ⟨Ext.refl _, rfl⟩
  exact Ask.plain rfl rfl fun aq wq hNq hO hR hT => does_move (V := i64 ((n : Nat) : Int)) ((hO 2 rfl).trans s2_19) ⟨Ext.refl _, rfl⟩
  exact Ask.plain rfl rfl fun aq wq hNq hO hR hT => does_move (V := i64 ((half n : Nat) : Int)) ((hO 13 rfl).trans s13_19) ⟨Ext.refl _, rfl⟩
  exact Ask.plain rfl rfl fun aq wq hNq hO hR hT => does_sub (a := ((n : Nat) : Int)) (b := ((half n : Nat) : Int)) (r := ((n - (half n) : Nat) : Int)) (hT 54 rfl rfl) (hT 55 rfl rfl) (by omega) (by omega) (by omega) ⟨Ext.refl _, rfl⟩
  exact Ask.plain rfl rfl fun aq wq hNq hO hR hT => does_loadD (o := 0) (n := 4) (mid := [w32 (old).a, w32 (old).b, w32 (old).c, w32 (old).d]) ((hO 9 rfl).trans s9_19) (hbb9_19.ext' hR) rfl rfl (Nat.le_of_ble_eq_true rfl) row_27 rfl ⟨Ext.refl _, rfl⟩
  intro a32 wd32 hN_32 hD_32 hO hR hA hU
  obtain ⟨t50, _, _, t53, _, _, t56, t57, _⟩ := hA
  have hE_32 := hE_19.trans hR.toE
  have s10_32 := (hO 10 rfl).trans s10_19
  have s11_32 := (hO 11 rfl).trans s11_19
  have s14_32 := (hO 14 rfl).trans s14_19
  have hbb_32 := hbb_19.ext' hR
  have hbb9_32 := hbb9_19.ext' hR
  have hbb10_32 := hbb10_19.ext' hR
  have hbb11_32 := hbb11_19.ext' hR
  have hbb14_32 := hbb14_19.ext' hR
  have hsx1_32 := hsx1_19.ext' hR
  have hsxs15_32 := hsxs15_19.ext' hR
  have s50_32 : get a32 50 = Value.pointer (some ⟨b, 0, none⟩) := t50
  have s53_32 : get a32 53 = i64 ((m - (half n) : Nat) : Int) := t53
  have s56_32 : get a32 56 = i64 ((n - (half n) : Nat) : Int) := t56
  have s57_32 : get a32 57 = Dg.val (old) := t57
  clear hE_19 hN_19 hD_19 s0_19 s1_19 s2_19 s3_19 s9_19 s10_19 s11_19 s13_19 s14_19 s35_19 hbb_19 hbb9_19 hbb10_19 hbb11_19 hbb14_19 hsx1_19 hsxs15_19
  refine tail_put rfl rfl hN_32 hD_32 (by decide) (does_ret (vs := #[Value.pointer (some ⟨b, 0, none⟩), i64 ((m - (half n) : Nat) : Int), i64 ((n - (half n) : Nat) : Int), Value.bool (false), Dg.val (old)]) call_70 (args5 s50_32 s53_32 s56_32 rfl s57_32) rfl ((ih _ (by omega) (m - (half n)) (n - (half n)) false old l.dropLast (ok && !l.isEmpty) b p wd32 (Laid.extE hL hE_32 hb0) hb0 ⟨_, hbb_32, hsxs15_32⟩ hpb (Nat.lt_of_lt_of_le hpl hE_32.size') (by omega) (by omega) (by omega) (by simp only [List.length_dropLast]; omega) rfl).mono fun v wd33 h => fun a33 hN_33 hD_33 hv hO => ?_))
  obtain ⟨hp, hX, hS⟩ := h
  have hE_33 := hE_32.trans hX
  have hbb9_33 := hbb9_32.ext hX ne_b_b9.symm
  have hbb10_33 := hbb10_32.ext hX ne_b_b10.symm
  have hbb11_33 := hbb11_32.ext hX ne_b_b11.symm
  have hbb14_33 := hbb14_32.ext hX ne_b_b14.symm
  have hsx1_33 := SlT.over hsx1_32 hX (SlT.pinned hsx1_32 hpb)
  have hsxs15_33 := SlT.over hsxs15_32 hX (SlT.pinned hsxs15_32 hpb)
  obtain ⟨xs33, hbb_33, hsxs33_33⟩ := hS
  have s58_33 := hv.trans hp
  have s10_33 := (hO 10 rfl).trans s10_32
  have s11_33 := (hO 11 rfl).trans s11_32
  have s14_33 := (hO 14 rfl).trans s14_32
  clear hO hv hp hX hN_32 hD_32 hE_32 hbb_32 hbb9_32 hbb10_32 hbb11_32 hbb14_32 hsx1_32 hsxs15_32 s10_32 s11_32 s14_32 s50_32 s53_32 s56_32 s57_32
  refine tail_put rfl rfl hN_33 hD_33 (by decide) (does_move (V := Value.tuple #[Dg.val ((bothS old (m - (half n)) (n - (half n)) false l.dropLast (ok && !l.isEmpty)).1), Dg.val ((bothS old (m - (half n)) (n - (half n)) false l.dropLast (ok && !l.isEmpty)).2.1)]) s58_33 (fun a34 hN_34 hD_34 hv hO => ?_))
  have s49_34 := hv
  have s10_34 := (hO 10 rfl).trans s10_33
  have s11_34 := (hO 11 rfl).trans s11_33
  have s14_34 := (hO 14 rfl).trans s14_33
  clear hO hv hN_33 hD_33 s10_33 s11_33 s14_33 s58_33
  refine tail_put rfl rfl hN_34 hD_34 (by decide) (does_extract (V := Dg.val ((bothS old (m - (half n)) (n - (half n)) false l.dropLast (ok && !l.isEmpty)).1)) s49_34 rfl (fun a35 hN_35 hD_35 hv hO => ?_))
  have s59_35 := hv
  have s10_35 := (hO 10 rfl).trans s10_34
  have s11_35 := (hO 11 rfl).trans s11_34
  have s14_35 := (hO 14 rfl).trans s14_34
  have s49_35 := (hO 49 rfl).trans s49_34
  clear hO hv hN_34 hD_34 s10_34 s11_34 s14_34 s49_34
  refine tail_put rfl rfl hN_35 hD_35 (by decide) (does_extract (V := Dg.val ((bothS old (m - (half n)) (n - (half n)) false l.dropLast (ok && !l.isEmpty)).2.1)) s49_35 rfl (fun a36 hN_36 hD_36 hv hO => ?_))
  have s60_36 := hv
  have s10_36 := (hO 10 rfl).trans s10_35
  have s11_36 := (hO 11 rfl).trans s11_35
  have s14_36 := (hO 14 rfl).trans s14_35
  have s59_36 := (hO 59 rfl).trans s59_35
  clear hO hv hN_35 hD_35 s10_35 s11_35 s14_35 s49_35 s59_35
  refine tail_put rfl rfl hN_36 hD_36 (by decide) (does_alloc zero_27 (fun b17 wd37 he lo_b17 hbb17_37 => fun a37 hN_37 hD_37 hv hO => ?_))
  have s17_37 := hv
  have hE_37 := hE_33.trans he.toE
  have hbb_37 := hbb_33.ext' he
  have hbb9_37 := hbb9_33.ext' he
  have hbb10_37 := hbb10_33.ext' he
  have hbb11_37 := hbb11_33.ext' he
  have hbb14_37 := hbb14_33.ext' he
  have hsx1_37 := hsx1_33.ext' he
  have hsxs15_37 := hsxs15_33.ext' he
  have hsxs33_37 := hsxs33_33.ext' he
  have fr_b17 : w0.heap.size ≤ b17 := Nat.le_trans hE_33.size' lo_b17
  have ne_b_b17 : b ≠ b17 := fun e => Nat.lt_irrefl _ (Nat.lt_of_lt_of_le hbb_33.lt (e ▸ lo_b17))
  have ne_b9_b17 : b9 ≠ b17 := fun e => Nat.lt_irrefl _ (Nat.lt_of_lt_of_le hbb9_33.lt (e ▸ lo_b17))
  have ne_b10_b17 : b10 ≠ b17 := fun e => Nat.lt_irrefl _ (Nat.lt_of_lt_of_le hbb10_33.lt (e ▸ lo_b17))
  have ne_b11_b17 : b11 ≠ b17 := fun e => Nat.lt_irrefl _ (Nat.lt_of_lt_of_le hbb11_33.lt (e ▸ lo_b17))
  have ne_b14_b17 : b14 ≠ b17 := fun e => Nat.lt_irrefl _ (Nat.lt_of_lt_of_le hbb14_33.lt (e ▸ lo_b17))
  have nb_x1_b17 := SlT.old hsx1_33 lo_b17
  have nb_xs15_b17 := SlT.old hsxs15_33 lo_b17
  have nb_xs33_b17 := SlT.old hsxs33_33 lo_b17
  have s10_37 := (hO 10 rfl).trans s10_36
  have s11_37 := (hO 11 rfl).trans s11_36
  have s14_37 := (hO 14 rfl).trans s14_36
  have s59_37 := (hO 59 rfl).trans s59_36
  have s60_37 := (hO 60 rfl).trans s60_36
  clear hO hv hN_36 hD_36 hE_33 hbb_33 hbb9_33 hbb10_33 hbb11_33 hbb14_33 hsx1_33 hsxs15_33 hsxs33_33 s10_36 s11_36 s14_36 s59_36 s60_36
  refine tail_put rfl rfl hN_37 hD_37 (by decide) (does_alloc zero_27 (fun b18 wd38 he lo_b18 hbb18_38 => fun a38 hN_38 hD_38 hv hO => ?_))
  have s18_38 := hv
  have hE_38 := hE_37.trans he.toE
  have hbb_38 := hbb_37.ext' he
  have hbb9_38 := hbb9_37.ext' he
  have hbb10_38 := hbb10_37.ext' he
  have hbb11_38 := hbb11_37.ext' he
  have hbb14_38 := hbb14_37.ext' he
  have hbb17_38 := hbb17_37.ext' he
  have hsx1_38 := hsx1_37.ext' he
  have hsxs15_38 := hsxs15_37.ext' he
  have hsxs33_38 := hsxs33_37.ext' he
  have fr_b18 : w0.heap.size ≤ b18 := Nat.le_trans hE_37.size' lo_b18
  have ne_b_b18 : b ≠ b18 := fun e => Nat.lt_irrefl _ (Nat.lt_of_lt_of_le hbb_37.lt (e ▸ lo_b18))
  have ne_b9_b18 : b9 ≠ b18 := fun e => Nat.lt_irrefl _ (Nat.lt_of_lt_of_le hbb9_37.lt (e ▸ lo_b18))
  have ne_b10_b18 : b10 ≠ b18 := fun e => Nat.lt_irrefl _ (Nat.lt_of_lt_of_le hbb10_37.lt (e ▸ lo_b18))
  have ne_b11_b18 : b11 ≠ b18 := fun e => Nat.lt_irrefl _ (Nat.lt_of_lt_of_le hbb11_37.lt (e ▸ lo_b18))
  have ne_b14_b18 : b14 ≠ b18 := fun e => Nat.lt_irrefl _ (Nat.lt_of_lt_of_le hbb14_37.lt (e ▸ lo_b18))
  have ne_b17_b18 : b17 ≠ b18 := fun e => Nat.lt_irrefl _ (Nat.lt_of_lt_of_le hbb17_37.lt (e ▸ lo_b18))
  have nb_x1_b18 := SlT.old hsx1_37 lo_b18
  have nb_xs15_b18 := SlT.old hsxs15_37 lo_b18
  have nb_xs33_b18 := SlT.old hsxs33_37 lo_b18
  have s10_38 := (hO 10 rfl).trans s10_37
  have s11_38 := (hO 11 rfl).trans s11_37
  have s14_38 := (hO 14 rfl).trans s14_37
  have s17_38 := (hO 17 rfl).trans s17_37
  have s59_38 := (hO 59 rfl).trans s59_37
  have s60_38 := (hO 60 rfl).trans s60_37
  clear hO hv hN_37 hD_37 hE_37 hbb_37 hbb9_37 hbb10_37 hbb11_37 hbb14_37 hbb17_37 hsx1_37 hsxs15_37 hsxs33_37 s10_37 s11_37 s14_37 s17_37 s59_37 s60_37
  refine tail_none rfl rfl (does_storeD (o := 0) (n := 4) (cs' := [w32 ((bothS old (m - (half n)) (n - (half n)) false l.dropLast (ok && !l.isEmpty)).1).a, w32 ((bothS old (m - (half n)) (n - (half n)) false l.dropLast (ok && !l.isEmpty)).1).b, w32 ((bothS old (m - (half n)) (n - (half n)) false l.dropLast (ok && !l.isEmpty)).1).c, w32 ((bothS old (m - (half n)) (n - (half n)) false l.dropLast (ok && !l.isEmpty)).1).d]) (V := Dg.val ((bothS old (m - (half n)) (n - (half n)) false l.dropLast (ok && !l.isEmpty)).1)) s17_38 s59_38 hbb17_38 (Nat.le_of_ble_eq_true rfl) rfl siz_27 rfl rfl (fun wd39 hX hz hbb17_39 => ?_))
  have hE_39 := hE_38.since hX (fun k e => e ▸ fr_b17)
  have hbb_39 := hbb_38.ext hX ne_b_b17
  have hbb9_39 := hbb9_38.ext hX ne_b9_b17
  have hbb10_39 := hbb10_38.ext hX ne_b10_b17
  have hbb11_39 := hbb11_38.ext hX ne_b11_b17
  have hbb14_39 := hbb14_38.ext hX ne_b14_b17
  have hbb18_39 := hbb18_38.ext hX ne_b17_b18.symm
  have hsx1_39 := SlT.over hsx1_38 hX nb_x1_b17
  have hsxs15_39 := SlT.over hsxs15_38 hX nb_xs15_b17
  have hsxs33_39 := SlT.over hsxs33_38 hX nb_xs33_b17
  clear hX hz hE_38 hbb_38 hbb9_38 hbb10_38 hbb11_38 hbb14_38 hbb17_38 hbb18_38 hsx1_38 hsxs15_38 hsxs33_38
  refine tail_none rfl rfl (does_storeD (o := 0) (n := 4) (cs' := [w32 ((bothS old (m - (half n)) (n - (half n)) false l.dropLast (ok && !l.isEmpty)).2.1).a, w32 ((bothS old (m - (half n)) (n - (half n)) false l.dropLast (ok && !l.isEmpty)).2.1).b, w32 ((bothS old (m - (half n)) (n - (half n)) false l.dropLast (ok && !l.isEmpty)).2.1).c, w32 ((bothS old (m - (half n)) (n - (half n)) false l.dropLast (ok && !l.isEmpty)).2.1).d]) (V := Dg.val ((bothS old (m - (half n)) (n - (half n)) false l.dropLast (ok && !l.isEmpty)).2.1)) s18_38 s60_38 hbb18_39 (Nat.le_of_ble_eq_true rfl) rfl siz_27 rfl rfl (fun wd40 hX hz hbb18_40 => ?_))
  have hE_40 := hE_39.since hX (fun k e => e ▸ fr_b18)
  have hbb_40 := hbb_39.ext hX ne_b_b18
  have hbb9_40 := hbb9_39.ext hX ne_b9_b18
  have hbb10_40 := hbb10_39.ext hX ne_b10_b18
  have hbb11_40 := hbb11_39.ext hX ne_b11_b18
  have hbb14_40 := hbb14_39.ext hX ne_b14_b18
  have hbb17_40 := hbb17_39.ext hX ne_b17_b18
  have hsx1_40 := SlT.over hsx1_39 hX nb_x1_b18
  have hsxs15_40 := SlT.over hsxs15_39 hX nb_xs15_b18
  have hsxs33_40 := SlT.over hsxs33_39 hX nb_xs33_b18
  clear hX hz hE_39 hbb_39 hbb9_39 hbb10_39 hbb11_39 hbb14_39 hbb17_39 hbb18_39 hsx1_39 hsxs15_39 hsxs33_39
  refine tail_nil ?_
  refine wp_seq ?_
  refine region_any [] [(61, Pr.ex (Dg.val (l.getLastD Dg.zero))), (62, Pr.ex (Dg.val ((bothS old (m - (half n)) (n - (half n)) false l.dropLast (ok && !l.isEmpty)).1))), (63, Pr.ex (Dg.val (pair (l.getLastD Dg.zero) ((bothS old (m - (half n)) (n - (half n)) false l.dropLast (ok && !l.isEmpty)).1)))), (64, Pr.ex (Dg.val (l.getLastD Dg.zero))), (65, Pr.ex (Dg.val ((bothS old (m - (half n)) (n - (half n)) false l.dropLast (ok && !l.isEmpty)).2.1))), (66, Pr.ex (Dg.val (pair (l.getLastD Dg.zero) ((bothS old (m - (half n)) (n - (half n)) false l.dropLast (ok && !l.isEmpty)).2.1))))] 6 mixed hN_38 hD_38 (by kernel_rfl) (by kernel_rfl) (by kernel_rfl) ?_ ?_
  refine Asks.cons ?_ (Asks.cons ?_ (Asks.cons ?_ (Asks.cons ?_ (Asks.cons ?_ (Asks.cons ?_ (Asks.zero _))))))
  exact Ask.plainD rfl rfl fun aq wq hNq hO hR hT => does_loadD (o := 0) (n := 4) (mid := [w32 (l.getLastD Dg.zero).a, w32 (l.getLastD Dg.zero).b, w32 (l.getLastD Dg.zero).c, w32 (l.getLastD Dg.zero).d]) ((hO 14 rfl).trans s14_38) (hbb14_40.ext' hR) rfl rfl (Nat.le_of_ble_eq_true rfl) row_27 rfl ⟨Ext.refl _, rfl⟩
  exact Ask.plainD rfl rfl fun aq wq hNq hO hR hT => does_loadD (o := 0) (n := 4) (mid := [w32 ((bothS old (m - (half n)) (n - (half n)) false l.dropLast (ok && !l.isEmpty)).1).a, w32 ((bothS old (m - (half n)) (n - (half n)) false l.dropLast (ok && !l.isEmpty)).1).b, w32 ((bothS old (m - (half n)) (n - (half n)) false l.dropLast (ok && !l.isEmpty)).1).c, w32 ((bothS old (m - (half n)) (n - (half n)) false l.dropLast (ok && !l.isEmpty)).1).d]) ((hO 17 rfl).trans s17_38) (hbb17_40.ext' hR) rfl rfl (Nat.le_of_ble_eq_true rfl) row_27 rfl ⟨Ext.refl _, rfl⟩
  exact Ask.plainD rfl rfl fun aq wq hNq hO hR hT => does_ret (vs := #[Dg.val (l.getLastD Dg.zero), Dg.val ((bothS old (m - (half n)) (n - (half n)) false l.dropLast (ok && !l.isEmpty)).1)]) call_41 (args2 (hT 61 rfl rfl) (hT 62 rfl rfl)) rfl ((pair_ (l.getLastD Dg.zero) ((bothS old (m - (half n)) (n - (half n)) false l.dropLast (ok && !l.isEmpty)).1) wq (Laid.extE hL (hE_40.trans hR.toE) hb0)).mono fun v w2 h => ⟨h.2, h.1⟩)
  exact Ask.plainD rfl rfl fun aq wq hNq hO hR hT => does_loadD (o := 0) (n := 4) (mid := [w32 (l.getLastD Dg.zero).a, w32 (l.getLastD Dg.zero).b, w32 (l.getLastD Dg.zero).c, w32 (l.getLastD Dg.zero).d]) ((hO 14 rfl).trans s14_38) (hbb14_40.ext' hR) rfl rfl (Nat.le_of_ble_eq_true rfl) row_27 rfl ⟨Ext.refl _, rfl⟩
  exact Ask.plainD rfl rfl fun aq wq hNq hO hR hT => does_loadD (o := 0) (n := 4) (mid := [w32 ((bothS old (m - (half n)) (n - (half n)) false l.dropLast (ok && !l.isEmpty)).2.1).a, w32 ((bothS old (m - (half n)) (n - (half n)) false l.dropLast (ok && !l.isEmpty)).2.1).b, w32 ((bothS old (m - (half n)) (n - (half n)) false l.dropLast (ok && !l.isEmpty)).2.1).c, w32 ((bothS old (m - (half n)) (n - (half n)) false l.dropLast (ok && !l.isEmpty)).2.1).d]) ((hO 18 rfl).trans s18_38) (hbb18_40.ext' hR) rfl rfl (Nat.le_of_ble_eq_true rfl) row_27 rfl ⟨Ext.refl _, rfl⟩
  exact Ask.plainD rfl rfl fun aq wq hNq hO hR hT => does_ret (vs := #[Dg.val (l.getLastD Dg.zero), Dg.val ((bothS old (m - (half n)) (n - (half n)) false l.dropLast (ok && !l.isEmpty)).2.1)]) call_41 (args2 (hT 64 rfl rfl) (hT 65 rfl rfl)) rfl ((pair_ (l.getLastD Dg.zero) ((bothS old (m - (half n)) (n - (half n)) false l.dropLast (ok && !l.isEmpty)).2.1) wq (Laid.extE hL (hE_40.trans hR.toE) hb0)).mono fun v w2 h => ⟨h.2, h.1⟩)
  intro a41 wd41 hN_41 hD_41 hO hR hA hU
  obtain ⟨_, _, t63, _, _, t66, _⟩ := hA
  have hE_41 := hE_40.trans hR.toE
  have s10_41 := (hO 10 rfl).trans s10_38
  have s11_41 := (hO 11 rfl).trans s11_38
  have hbb_41 := hbb_40.ext' hR
  have hbb9_41 := hbb9_40.ext' hR
  have hbb10_41 := hbb10_40.ext' hR
  have hbb11_41 := hbb11_40.ext' hR
  have hbb14_41 := hbb14_40.ext' hR
  have hbb17_41 := hbb17_40.ext' hR
  have hbb18_41 := hbb18_40.ext' hR
  have hsx1_41 := hsx1_40.ext' hR
  have hsxs15_41 := hsxs15_40.ext' hR
  have hsxs33_41 := hsxs33_40.ext' hR
  have s63_41 : get a41 63 = Dg.val (pair (l.getLastD Dg.zero) ((bothS old (m - (half n)) (n - (half n)) false l.dropLast (ok && !l.isEmpty)).1)) := t63
  have s66_41 : get a41 66 = Dg.val (pair (l.getLastD Dg.zero) ((bothS old (m - (half n)) (n - (half n)) false l.dropLast (ok && !l.isEmpty)).2.1)) := t66
  clear hE_40 hN_38 hD_38 s10_38 s11_38 s14_38 s17_38 s18_38 s59_38 s60_38 hbb_40 hbb9_40 hbb10_40 hbb11_40 hbb14_40 hbb17_40 hbb18_40 hsx1_40 hsxs15_40 hsxs33_40
  refine tail_none rfl rfl (does_storeD (o := 0) (n := 4) (cs' := [w32 (pair (l.getLastD Dg.zero) ((bothS old (m - (half n)) (n - (half n)) false l.dropLast (ok && !l.isEmpty)).1)).a, w32 (pair (l.getLastD Dg.zero) ((bothS old (m - (half n)) (n - (half n)) false l.dropLast (ok && !l.isEmpty)).1)).b, w32 (pair (l.getLastD Dg.zero) ((bothS old (m - (half n)) (n - (half n)) false l.dropLast (ok && !l.isEmpty)).1)).c, w32 (pair (l.getLastD Dg.zero) ((bothS old (m - (half n)) (n - (half n)) false l.dropLast (ok && !l.isEmpty)).1)).d]) (V := Dg.val (pair (l.getLastD Dg.zero) ((bothS old (m - (half n)) (n - (half n)) false l.dropLast (ok && !l.isEmpty)).1))) s10_41 s63_41 hbb10_41 (Nat.le_of_ble_eq_true rfl) rfl siz_27 rfl rfl (fun wd42 hX hz hbb10_42 => ?_))
  have hE_42 := hE_41.since hX (fun k e => e ▸ fr_b10)
  have hbb_42 := hbb_41.ext hX ne_b_b10
  have hbb9_42 := hbb9_41.ext hX ne_b9_b10
  have hbb11_42 := hbb11_41.ext hX ne_b10_b11.symm
  have hbb14_42 := hbb14_41.ext hX ne_b10_b14.symm
  have hbb17_42 := hbb17_41.ext hX ne_b10_b17.symm
  have hbb18_42 := hbb18_41.ext hX ne_b10_b18.symm
  have hsx1_42 := SlT.over hsx1_41 hX nb_x1_b10
  have hsxs15_42 := SlT.over hsxs15_41 hX (SlT.pinned hsxs15_41 (Nat.ne_of_lt (Nat.lt_of_lt_of_le hpl fr_b10)))
  have hsxs33_42 := SlT.over hsxs33_41 hX (SlT.pinned hsxs33_41 (Nat.ne_of_lt (Nat.lt_of_lt_of_le hpl fr_b10)))
  clear hX hz hE_41 hbb_41 hbb9_41 hbb10_41 hbb11_41 hbb14_41 hbb17_41 hbb18_41 hsx1_41 hsxs15_41 hsxs33_41
  refine tail_none rfl rfl (does_storeD (o := 0) (n := 4) (cs' := [w32 (pair (l.getLastD Dg.zero) ((bothS old (m - (half n)) (n - (half n)) false l.dropLast (ok && !l.isEmpty)).2.1)).a, w32 (pair (l.getLastD Dg.zero) ((bothS old (m - (half n)) (n - (half n)) false l.dropLast (ok && !l.isEmpty)).2.1)).b, w32 (pair (l.getLastD Dg.zero) ((bothS old (m - (half n)) (n - (half n)) false l.dropLast (ok && !l.isEmpty)).2.1)).c, w32 (pair (l.getLastD Dg.zero) ((bothS old (m - (half n)) (n - (half n)) false l.dropLast (ok && !l.isEmpty)).2.1)).d]) (V := Dg.val (pair (l.getLastD Dg.zero) ((bothS old (m - (half n)) (n - (half n)) false l.dropLast (ok && !l.isEmpty)).2.1))) s11_41 s66_41 hbb11_42 (Nat.le_of_ble_eq_true rfl) rfl siz_27 rfl rfl (fun wd43 hX hz hbb11_43 => ?_))
  have hE_43 := hE_42.since hX (fun k e => e ▸ fr_b11)
  have hbb_43 := hbb_42.ext hX ne_b_b11
  have hbb9_43 := hbb9_42.ext hX ne_b9_b11
  have hbb10_43 := hbb10_42.ext hX ne_b10_b11
  have hbb14_43 := hbb14_42.ext hX ne_b11_b14.symm
  have hbb17_43 := hbb17_42.ext hX ne_b11_b17.symm
  have hbb18_43 := hbb18_42.ext hX ne_b11_b18.symm
  have hsx1_43 := SlT.over hsx1_42 hX nb_x1_b11
  have hsxs15_43 := SlT.over hsxs15_42 hX (SlT.pinned hsxs15_42 (Nat.ne_of_lt (Nat.lt_of_lt_of_le hpl fr_b11)))
  have hsxs33_43 := SlT.over hsxs33_42 hX (SlT.pinned hsxs33_42 (Nat.ne_of_lt (Nat.lt_of_lt_of_le hpl fr_b11)))
  clear hX hz hE_42 hbb_42 hbb9_42 hbb10_42 hbb11_42 hbb14_42 hbb17_42 hbb18_42 hsx1_42 hsxs15_42 hsxs33_42
  refine tail_nil ?_
  refine wp_ret ?_
  refine res_two (V1 := Dg.val (pair (l.getLastD Dg.zero) ((bothS old (m - (half n)) (n - (half n)) false l.dropLast (ok && !l.isEmpty)).1))) (V2 := Dg.val (pair (l.getLastD Dg.zero) ((bothS old (m - (half n)) (n - (half n)) false l.dropLast (ok && !l.isEmpty)).2.1))) rfl hD_41 (ResIs.cell s10_41 hbb10_43 row_27 rfl rfl) (ResIs.cell s11_41 hbb11_43 row_27 rfl rfl) ?_
  refine ⟨by rw [bothS_hi1 h2 hhi, bothS_hi2 h2 hhi], hE_43, ?_⟩
  have hS' : StkAt 108 b p ((bothS old (m - (half n)) (n - (half n)) false l.dropLast (ok && !l.isEmpty)).2.2.1) ((bothS old (m - (half n)) (n - (half n)) false l.dropLast (ok && !l.isEmpty)).2.2.2) wd43 := ⟨_, hbb_43, hsxs33_43⟩
  rw [bothS_hi3 h2 hhi]
  exact hS'
theorem both_ (m n : Nat) (whole : Bool) (old : Dg) (l : List Dg) (ok : Bool) (b p : Nat) (w0 : World) (hL : Laid w0) (hb0 : ¬ (0 = b)) (hS : StkAt 108 b p l ok w0) (hpb : p ≠ b) (hpl : p < w0.heap.size) (h1 : 1 ≤ m) (hm : m ≤ n) (hnn : n ≤ 100000) (hn : l.length ≤ 100000) :
    GivesW Tryd.prog 70 #[Value.pointer (some ⟨b, 0, none⟩), i64 ((m : Nat) : Int), i64 ((n : Nat) : Int), Value.bool (whole), Dg.val (old)] w0 b (Value.tuple #[Dg.val (bothS old m n whole l ok).1, Dg.val (bothS old m n whole l ok).2.1]) (StkAt 108 b p (bothS old m n whole l ok).2.2.1 (bothS old m n whole l ok).2.2.2) := both__r _ m n whole old l ok b p w0 hL hb0 hS hpb hpl h1 hm hnn hn rfl

theorem both_I (m n : Int) (whole : Bool) (old : Dg) (l : List Dg) (ok : Bool) (b p : Nat) (w0 : World) (hL : Laid w0) (hb0 : ¬ (0 = b)) (hS : StkAt 108 b p l ok w0) (hpb : p ≠ b) (hpl : p < w0.heap.size) (h1 : 1 ≤ m) (hm : m ≤ n) (hnn : n ≤ 100000) (hn : l.length ≤ 100000) :
    GivesW Tryd.prog 70 #[Value.pointer (some ⟨b, 0, none⟩), i64 (m), i64 (n), Value.bool (whole), Dg.val (old)] w0 b (Value.tuple #[Dg.val (bothS old m.toNat n.toNat whole l ok).1, Dg.val (bothS old m.toNat n.toNat whole l ok).2.1]) (StkAt 108 b p (bothS old m.toNat n.toNat whole l ok).2.2.1 (bothS old m.toNat n.toNat whole l ok).2.2.2) := by
  obtain ⟨j, rfl⟩ : ∃ j : Nat, m = j := ⟨m.toNat, by omega⟩
  obtain ⟨k, rfl⟩ : ∃ k : Nat, n = k := ⟨n.toNat, by omega⟩
  exact both_ j k whole old l ok b p w0 hL hb0 hS hpb hpl (by omega) (by omega) (by omega) hn

end Go.Proofs.YtijfjpbahepegaaDoor
