/- The walks of functions of the program: printed. -/
import Derived.Test.YtijfjpbahepegaaDoorG10
set_option maxRecDepth 100000
namespace Go.Proofs.YtijfjpbahepegaaDoor
open Go Go.RowKit Sk Sd
theorem headOfLaw (a b : Head) (w0 : World) (hL : Laid w0) :
    Gives Tryd.prog 4 #[Value.agg #[i64 (a.size), w32 (a.root).a, w32 (a.root).b, w32 (a.root).c, w32 (a.root).d], Value.agg #[i64 (b.size), w32 (b.root).a, w32 (b.root).b, w32 (b.root).c, w32 (b.root).d]] w0 (Pr.ex (Value.bool true)) := by
  refine enter (N := 31) Tryd.func4 rfl rfl ?_
  intro a0 hN_0 hD_0 hA
  have s0_0 : get a0 0 = Value.agg #[i64 (a.size), w32 (a.root).a, w32 (a.root).b, w32 (a.root).c, w32 (a.root).d] := hA 0 _ rfl
  have s1_0 : get a0 1 = Value.agg #[i64 (b.size), w32 (b.root).a, w32 (b.root).b, w32 (b.root).c, w32 (b.root).d] := hA 1 _ rfl
  clear hA
  have hE_0 : Ext w0 w0 := Ext.refl w0
  refine wp_seq ?_
  refine region_lex [2, 3] [(2, Pr.box' w0.heap.size 29 [i64 (a.size), w32 (a.root).a, w32 (a.root).b, w32 (a.root).c, w32 (a.root).d]), (3, Pr.box' w0.heap.size 29 [i64 (b.size), w32 (b.root).a, w32 (b.root).b, w32 (b.root).c, w32 (b.root).d]), (4, Pr.ex (Value.bool (false)))] 3 hN_0 hD_0 (by kernel_rfl) (by kernel_rfl) ?_ ?_
  · refine Asks.cons ?_ (Asks.cons ?_ (Asks.cons ?_ (Asks.zero _)))
    · refine Ask.fresh rfl rfl ?_
      intro aq wq hNq hO hR hT
      exact does_box (V := Value.agg #[i64 (a.size), w32 (a.root).a, w32 (a.root).b, w32 (a.root).c, w32 (a.root).d]) ((hO 0 rfl).trans s0_0) (fun b w2 he hlo hb => ⟨he, ⟨b, rfl, Nat.le_trans hR.size' hlo, hb⟩, ⟨b, rfl, hlo, hb.lt⟩⟩)
    · refine Ask.fresh rfl rfl ?_
      intro aq wq hNq hO hR hT
      exact does_box (V := Value.agg #[i64 (b.size), w32 (b.root).a, w32 (b.root).b, w32 (b.root).c, w32 (b.root).d]) ((hO 1 rfl).trans s1_0) (fun b w2 he hlo hb => ⟨he, ⟨b, rfl, Nat.le_trans hR.size' hlo, hb⟩, ⟨b, rfl, hlo, hb.lt⟩⟩)
    · refine Ask.plain rfl rfl ?_
      intro aq wq hNq hO hR hT
      exact does_assign (V := Value.bool (false)) rfl ⟨Ext.refl _, rfl⟩
  intro a1 wd1 hN_1 hD_1 hO hR hA hU
  obtain ⟨t2, t3, _, _⟩ := hA
  have hE_1 := hE_0.trans hR
  obtain ⟨b2, s2_1, lo_b2, hbb2_1⟩ := t2
  have fr_b2 : w0.heap.size ≤ b2 := Nat.le_trans hE_0.size' lo_b2
  obtain ⟨b3, s3_1, lo_b3, hbb3_1⟩ := t3
  have fr_b3 : w0.heap.size ≤ b3 := Nat.le_trans hE_0.size' lo_b3
  obtain ⟨u0, ⟨u1, _⟩⟩ := hU
  have ne_b2_b3 : b2 ≠ b3 := fun e => u0 3 (by decide) (by rw [s2_1, s3_1, e])
  clear hE_0 hN_0 hD_0 s0_0 s1_0
  refine tail_nil ?_
  refine wp_seq ?_
  refine wp_seq ?_
  refine region_lex [] [(7, Pr.ex (Value.bool (true))), (8, Pr.ex (Value.bool (false)))] 2 hN_1 hD_1 (by kernel_rfl) (by kernel_rfl) ?_ ?_
  · refine Asks.cons ?_ (Asks.cons ?_ (Asks.zero _))
    · refine Ask.plain rfl rfl ?_
      intro aq wq hNq hO hR hT
      exact does_ret (vs := #[]) call_12 args0 rfl ((alive43 wq (hL.ext (hE_1.trans hR))).mono fun v w2 h => ⟨h.2, h.1⟩)
    · refine Ask.plain rfl rfl ?_
      intro aq wq hNq hO hR hT
      exact does_not (B := true) (hT 7 rfl rfl) ⟨Ext.refl _, rfl⟩
  intro a2 wd2 hN_2 hD_2 hO hR hA hU
  obtain ⟨_, t8, _⟩ := hA
  have hE_2 := hE_1.trans hR
  have s2_2 := (hO 2 rfl).trans s2_1
  have s3_2 := (hO 3 rfl).trans s3_1
  have hbb2_2 := hbb2_1.ext' hR
  have hbb3_2 := hbb3_1.ext' hR
  have s8_2 : get a2 8 = Value.bool (false) := t8
  clear hE_1 hN_1 hD_1 s2_1 s3_1 hbb2_1 hbb3_1
  refine tail_nil ?_
  refine wp_ifF s8_2 ?_
  refine wp_skip ?_
  refine wp_seq ?_
  refine region_any [5, 6] [(9, Pr.ex (Value.agg #[i64 (a.size), w32 (a.root).a, w32 (a.root).b, w32 (a.root).c, w32 (a.root).d])), (10, Pr.ex (Dg.val (headOf a))), (11, Pr.ex (Value.agg #[i64 (b.size), w32 (b.root).a, w32 (b.root).b, w32 (b.root).c, w32 (b.root).d])), (12, Pr.ex (Dg.val (headOf b))), (5, Pr.box' wd2.heap.size 27 [w32 (Dg.zero).a, w32 (Dg.zero).b, w32 (Dg.zero).c, w32 (Dg.zero).d]), (6, Pr.box' wd2.heap.size 27 [w32 (Dg.zero).a, w32 (Dg.zero).b, w32 (Dg.zero).c, w32 (Dg.zero).d])] 6 mixed hN_2 hD_2 (by kernel_rfl) (by kernel_rfl) (by kernel_rfl) ?_ ?_
  · refine Asks.cons ?_ (Asks.cons ?_ (Asks.cons ?_ (Asks.cons ?_ (Asks.cons ?_ (Asks.cons ?_ (Asks.zero _))))))
    · refine Ask.plain rfl rfl ?_
      intro aq wq hNq hO hR hT
      replace hR := (Ext.drew _).trans hR
      exact does_loadD (o := 0) (n := 5) (mid := [i64 (a.size), w32 (a.root).a, w32 (a.root).b, w32 (a.root).c, w32 (a.root).d]) ((hO 2 rfl).trans s2_2) (hbb2_2.ext' hR) rfl rfl (Nat.le_of_ble_eq_true rfl) row_29 rfl ⟨Ext.refl _, rfl⟩
    · refine Ask.plain rfl rfl ?_
      intro aq wq hNq hO hR hT
      replace hR := (Ext.drew _).trans hR
      exact does_ret (vs := #[Value.agg #[i64 (a.size), w32 (a.root).a, w32 (a.root).b, w32 (a.root).c, w32 (a.root).d]]) call_16 (args1 (hT 9 rfl rfl)) rfl ((headOf_ a wq (hL.ext (hE_2.trans hR))).mono fun v w2 h => ⟨h.2, h.1⟩)
    · refine Ask.plain rfl rfl ?_
      intro aq wq hNq hO hR hT
      replace hR := (Ext.drew _).trans hR
      exact does_loadD (o := 0) (n := 5) (mid := [i64 (b.size), w32 (b.root).a, w32 (b.root).b, w32 (b.root).c, w32 (b.root).d]) ((hO 3 rfl).trans s3_2) (hbb3_2.ext' hR) rfl rfl (Nat.le_of_ble_eq_true rfl) row_29 rfl ⟨Ext.refl _, rfl⟩
    · refine Ask.plain rfl rfl ?_
      intro aq wq hNq hO hR hT
      replace hR := (Ext.drew _).trans hR
      exact does_ret (vs := #[Value.agg #[i64 (b.size), w32 (b.root).a, w32 (b.root).b, w32 (b.root).c, w32 (b.root).d]]) call_16 (args1 (hT 11 rfl rfl)) rfl ((headOf_ b wq (hL.ext (hE_2.trans hR))).mono fun v w2 h => ⟨h.2, h.1⟩)
    · refine Ask.fresh rfl rfl ?_
      intro aq wq hNq hO hR hT
      replace hR := (Ext.drew _).trans hR
      exact does_alloc zero_27 (fun b w2 he hlo hb => ⟨he, ⟨b, rfl, Nat.le_trans hR.size' hlo, hb⟩, ⟨b, rfl, hlo, hb.lt⟩⟩)
    · refine Ask.fresh rfl rfl ?_
      intro aq wq hNq hO hR hT
      replace hR := (Ext.drew _).trans hR
      exact does_alloc zero_27 (fun b w2 he hlo hb => ⟨he, ⟨b, rfl, Nat.le_trans hR.size' hlo, hb⟩, ⟨b, rfl, hlo, hb.lt⟩⟩)
  intro a3 wd3 hN_3 hD_3 hO hR hA hU
  obtain ⟨_, t10, _, t12, t5, t6, _⟩ := hA
  have hE_3 := hE_2.trans hR
  have s2_3 := (hO 2 rfl).trans s2_2
  have s3_3 := (hO 3 rfl).trans s3_2
  have hbb2_3 := hbb2_2.ext' hR
  have hbb3_3 := hbb3_2.ext' hR
  have s10_3 : get a3 10 = Dg.val (headOf a) := t10
  have s12_3 : get a3 12 = Dg.val (headOf b) := t12
  obtain ⟨b5, s5_3, lo_b5, hbb5_3⟩ := t5
  have ne_b2_b5 : b2 ≠ b5 := fun e => Nat.lt_irrefl _ (Nat.lt_of_lt_of_le hbb2_2.lt (e ▸ lo_b5))
  have ne_b3_b5 : b3 ≠ b5 := fun e => Nat.lt_irrefl _ (Nat.lt_of_lt_of_le hbb3_2.lt (e ▸ lo_b5))
  have fr_b5 : w0.heap.size ≤ b5 := Nat.le_trans hE_2.size' lo_b5
  obtain ⟨b6, s6_3, lo_b6, hbb6_3⟩ := t6
  have ne_b2_b6 : b2 ≠ b6 := fun e => Nat.lt_irrefl _ (Nat.lt_of_lt_of_le hbb2_2.lt (e ▸ lo_b6))
  have ne_b3_b6 : b3 ≠ b6 := fun e => Nat.lt_irrefl _ (Nat.lt_of_lt_of_le hbb3_2.lt (e ▸ lo_b6))
  have fr_b6 : w0.heap.size ≤ b6 := Nat.le_trans hE_2.size' lo_b6
  obtain ⟨u0, ⟨u1, _⟩⟩ := hU
  have ne_b5_b6 : b5 ≠ b6 := fun e => u0 6 (by decide) (by rw [s5_3, s6_3, e])
  clear hE_2 hN_2 hD_2 s2_2 s3_2 s8_2 hbb2_2 hbb3_2
  refine tail_none rfl rfl (does_storeD (o := 0) (n := 4) (cs' := [w32 (headOf a).a, w32 (headOf a).b, w32 (headOf a).c, w32 (headOf a).d]) (V := Dg.val (headOf a)) s5_3 s10_3 hbb5_3 (Nat.le_of_ble_eq_true rfl) rfl siz_27 rfl rfl (fun wd4 hX hz hbb5_4 => ?_))
  have hE_4 := hE_3.since hX (fun k e => e ▸ fr_b5)
  have hbb2_4 := hbb2_3.ext hX ne_b2_b5
  have hbb3_4 := hbb3_3.ext hX ne_b3_b5
  have hbb6_4 := hbb6_3.ext hX ne_b5_b6.symm
  clear hX hz hE_3 hbb2_3 hbb3_3 hbb5_3 hbb6_3
  refine tail_none rfl rfl (does_storeD (o := 0) (n := 4) (cs' := [w32 (headOf b).a, w32 (headOf b).b, w32 (headOf b).c, w32 (headOf b).d]) (V := Dg.val (headOf b)) s6_3 s12_3 hbb6_4 (Nat.le_of_ble_eq_true rfl) rfl siz_27 rfl rfl (fun wd5 hX hz hbb6_5 => ?_))
  have hE_5 := hE_4.since hX (fun k e => e ▸ fr_b6)
  have hbb2_5 := hbb2_4.ext hX ne_b2_b6
  have hbb3_5 := hbb3_4.ext hX ne_b3_b6
  have hbb5_5 := hbb5_4.ext hX ne_b5_b6
  clear hX hz hE_4 hbb2_4 hbb3_4 hbb5_4 hbb6_4
  refine tail_nil ?_
  refine wp_seq ?_
  refine wp_seq ?_
  refine region_any [] [(13, Pr.ex (Dg.val (headOf a))), (14, Pr.ex (Value.agg #[i64 (a.size), w32 (a.root).a, w32 (a.root).b, w32 (a.root).c, w32 (a.root).d])), (15, Pr.ex (Dg.val (headOf a))), (16, Pr.ex (Value.bool (!decide (headOf a = headOf a)))), (17, Pr.ex (Value.bool (!decide (headOf a = headOf a)))), (18, Pr.ifb (!(!decide (headOf a = headOf a))) (Pr.ex (Dg.val (headOf b)))), (19, Pr.ifb (!(!decide (headOf a = headOf a))) (Pr.ex (Value.agg #[i64 (b.size), w32 (b.root).a, w32 (b.root).b, w32 (b.root).c, w32 (b.root).d]))), (20, Pr.ifb (!(!decide (headOf a = headOf a))) (Pr.ex (Dg.val (headOf b)))), (21, Pr.ifb (!(!decide (headOf a = headOf a))) (Pr.ex (Value.bool (!decide (headOf b = headOf b))))), (22, Pr.ex (Value.bool ((!decide (headOf a = headOf a)) || (!decide (headOf b = headOf b)))))] 10 mixed hN_3 hD_3 (by kernel_rfl) (by kernel_rfl) (by kernel_rfl) ?_ ?_
  · refine Asks.cons ?_ (Asks.cons ?_ (Asks.cons ?_ (Asks.cons ?_ (Asks.cons ?_ (Asks.cons ?_ (Asks.cons ?_ (Asks.cons ?_ (Asks.cons ?_ (Asks.cons ?_ (Asks.zero _))))))))))
    · refine Ask.plain rfl rfl ?_
      intro aq wq hNq hO hR hT
      replace hR := (Ext.drew _).trans hR
      exact does_loadD (o := 0) (n := 4) (mid := [w32 (headOf a).a, w32 (headOf a).b, w32 (headOf a).c, w32 (headOf a).d]) ((hO 5 rfl).trans s5_3) (hbb5_5.ext' hR) rfl rfl (Nat.le_of_ble_eq_true rfl) row_27 rfl ⟨Ext.refl _, rfl⟩
    · refine Ask.plain rfl rfl ?_
      intro aq wq hNq hO hR hT
      replace hR := (Ext.drew _).trans hR
      exact does_loadD (o := 0) (n := 5) (mid := [i64 (a.size), w32 (a.root).a, w32 (a.root).b, w32 (a.root).c, w32 (a.root).d]) ((hO 2 rfl).trans s2_3) (hbb2_5.ext' hR) rfl rfl (Nat.le_of_ble_eq_true rfl) row_29 rfl ⟨Ext.refl _, rfl⟩
    · refine Ask.plain rfl rfl ?_
      intro aq wq hNq hO hR hT
      replace hR := (Ext.drew _).trans hR
      exact does_ret (vs := #[Value.agg #[i64 (a.size), w32 (a.root).a, w32 (a.root).b, w32 (a.root).c, w32 (a.root).d]]) call_17 (args1 (hT 14 rfl rfl)) rfl ((headOfR a wq).mono fun v w2 h => ⟨h.2, h.1⟩)
    · refine Ask.plain rfl rfl ?_
      intro aq wq hNq hO hR hT
      replace hR := (Ext.drew _).trans hR
      exact does_neT (a := headOf a) (b := headOf a) eq_27 (hT 13 rfl rfl) (hT 15 rfl rfl) ⟨Ext.refl _, rfl⟩
    · refine Ask.plain rfl rfl ?_
      intro aq wq hNq hO hR hT
      replace hR := (Ext.drew _).trans hR
      exact does_move (V := Value.bool (!decide (headOf a = headOf a))) (hT 16 rfl rfl) ⟨Ext.refl _, rfl⟩
    · refine Ask.guarded (B := !decide (headOf a = headOf a)) (want := false) (t := 17) rfl rfl rfl rfl (by decide) (fun aq wq hO hR hT => hT 17 rfl rfl) (fun hG aq wq hNq hO hR hT => ?_) (fun hno _ hc => absurd (bn hc) hno)
      replace hG := nb hG
      replace hR := (Ext.drew _).trans hR
      exact does_loadD (o := 0) (n := 4) (mid := [w32 (headOf b).a, w32 (headOf b).b, w32 (headOf b).c, w32 (headOf b).d]) ((hO 6 rfl).trans s6_3) (hbb6_5.ext' hR) rfl rfl (Nat.le_of_ble_eq_true rfl) row_27 rfl ⟨Ext.refl _, fun _ => rfl⟩
    · refine Ask.guarded (B := !decide (headOf a = headOf a)) (want := false) (t := 17) rfl rfl rfl rfl (by decide) (fun aq wq hO hR hT => hT 17 rfl rfl) (fun hG aq wq hNq hO hR hT => ?_) (fun hno _ hc => absurd (bn hc) hno)
      replace hG := nb hG
      replace hR := (Ext.drew _).trans hR
      exact does_loadD (o := 0) (n := 5) (mid := [i64 (b.size), w32 (b.root).a, w32 (b.root).b, w32 (b.root).c, w32 (b.root).d]) ((hO 3 rfl).trans s3_3) (hbb3_5.ext' hR) rfl rfl (Nat.le_of_ble_eq_true rfl) row_29 rfl ⟨Ext.refl _, fun _ => rfl⟩
    · refine Ask.guarded (B := !decide (headOf a = headOf a)) (want := false) (t := 17) rfl rfl rfl rfl (by decide) (fun aq wq hO hR hT => hT 17 rfl rfl) (fun hG aq wq hNq hO hR hT => ?_) (fun hno _ hc => absurd (bn hc) hno)
      replace hG := nb hG
      replace hR := (Ext.drew _).trans hR
      exact does_ret (vs := #[Value.agg #[i64 (b.size), w32 (b.root).a, w32 (b.root).b, w32 (b.root).c, w32 (b.root).d]]) call_17 (args1 (hT 19 rfl rfl (hG))) rfl ((headOfR b wq).mono fun v w2 h => ⟨h.2, fun _ => h.1⟩)
    · refine Ask.guarded (B := !decide (headOf a = headOf a)) (want := false) (t := 17) rfl rfl rfl rfl (by decide) (fun aq wq hO hR hT => hT 17 rfl rfl) (fun hG aq wq hNq hO hR hT => ?_) (fun hno _ hc => absurd (bn hc) hno)
      replace hG := nb hG
      replace hR := (Ext.drew _).trans hR
      exact does_neT (a := headOf b) (b := headOf b) eq_27 (hT 18 rfl rfl (hG)) (hT 20 rfl rfl (hG)) ⟨Ext.refl _, fun _ => rfl⟩
    · refine Ask.plain rfl rfl ?_
      intro aq wq hNq hO hR hT
      replace hR := (Ext.drew _).trans hR
      exact does_or (B := !decide (headOf a = headOf a)) (X := !decide (headOf b = headOf b)) (hT 17 rfl rfl) rfl (fun hB => (hT 21 rfl rfl (nb hB))) ⟨Ext.refl _, rfl⟩
  intro a6 wd6 hN_6 hD_6 hO hR hA hU
  obtain ⟨_, _, _, _, _, _, _, _, _, t22, _⟩ := hA
  have hE_6 := hE_5.trans hR
  have s2_6 := (hO 2 rfl).trans s2_3
  have s3_6 := (hO 3 rfl).trans s3_3
  have s5_6 := (hO 5 rfl).trans s5_3
  have s6_6 := (hO 6 rfl).trans s6_3
  have hbb2_6 := hbb2_5.ext' hR
  have hbb3_6 := hbb3_5.ext' hR
  have hbb5_6 := hbb5_5.ext' hR
  have hbb6_6 := hbb6_5.ext' hR
  have s22_6 : get a6 22 = Value.bool ((!decide (headOf a = headOf a)) || (!decide (headOf b = headOf b))) := t22
  clear hE_5 hN_3 hD_3 s2_3 s3_3 s5_3 s6_3 s10_3 s12_3 hbb2_5 hbb3_5 hbb5_5 hbb6_5
  refine tail_nil ?_
  refine wp_if (B := (!decide (headOf a = headOf a)) || (!decide (headOf b = headOf b))) s22_6 (fun hc0 => ?_) (fun hc0 => ?_)
  · -- T 0
    simp at hc0
  refine wp_skip ?_
  refine wp_seq ?_
  refine region_lex [] [(23, Pr.ex (Value.agg #[i64 (a.size), w32 (a.root).a, w32 (a.root).b, w32 (a.root).c, w32 (a.root).d])), (24, Pr.ex (Value.agg #[i64 (b.size), w32 (b.root).a, w32 (b.root).b, w32 (b.root).c, w32 (b.root).d])), (25, Pr.ex (Value.bool (!decide ((⟨a.size, a.root⟩ : Head) = (⟨b.size, b.root⟩ : Head))))), (26, Pr.ex (Value.bool (!decide ((⟨a.size, a.root⟩ : Head) = (⟨b.size, b.root⟩ : Head))))), (27, Pr.ifb (!(!decide ((⟨a.size, a.root⟩ : Head) = (⟨b.size, b.root⟩ : Head)))) (Pr.ex (Dg.val (headOf a)))), (28, Pr.ifb (!(!decide ((⟨a.size, a.root⟩ : Head) = (⟨b.size, b.root⟩ : Head)))) (Pr.ex (Dg.val (headOf b)))), (29, Pr.ifb (!(!decide ((⟨a.size, a.root⟩ : Head) = (⟨b.size, b.root⟩ : Head)))) (Pr.ex (Value.bool (decide (headOf a = headOf b))))), (30, Pr.ex (Value.bool ((!decide ((⟨a.size, a.root⟩ : Head) = (⟨b.size, b.root⟩ : Head))) || (decide (headOf a = headOf b))))), (4, Pr.ex (Value.bool ((!decide ((⟨a.size, a.root⟩ : Head) = (⟨b.size, b.root⟩ : Head))) || (decide (headOf a = headOf b)))))] 9 hN_6 hD_6 (by kernel_rfl) (by kernel_rfl) ?_ ?_
  · refine Asks.cons ?_ (Asks.cons ?_ (Asks.cons ?_ (Asks.cons ?_ (Asks.cons ?_ (Asks.cons ?_ (Asks.cons ?_ (Asks.cons ?_ (Asks.cons ?_ (Asks.zero _)))))))))
    · refine Ask.plain rfl rfl ?_
      intro aq wq hNq hO hR hT
      exact does_loadD (o := 0) (n := 5) (mid := [i64 (a.size), w32 (a.root).a, w32 (a.root).b, w32 (a.root).c, w32 (a.root).d]) ((hO 2 rfl).trans s2_6) (hbb2_6.ext' hR) rfl rfl (Nat.le_of_ble_eq_true rfl) row_29 rfl ⟨Ext.refl _, rfl⟩
    · refine Ask.plain rfl rfl ?_
      intro aq wq hNq hO hR hT
      exact does_loadD (o := 0) (n := 5) (mid := [i64 (b.size), w32 (b.root).a, w32 (b.root).b, w32 (b.root).c, w32 (b.root).d]) ((hO 3 rfl).trans s3_6) (hbb3_6.ext' hR) rfl rfl (Nat.le_of_ble_eq_true rfl) row_29 rfl ⟨Ext.refl _, rfl⟩
    · refine Ask.plain rfl rfl ?_
      intro aq wq hNq hO hR hT
      exact does_neT (a := (⟨a.size, a.root⟩ : Head)) (b := (⟨b.size, b.root⟩ : Head)) eq_29 (hT 23 rfl rfl) (hT 24 rfl rfl) ⟨Ext.refl _, rfl⟩
    · refine Ask.plain rfl rfl ?_
      intro aq wq hNq hO hR hT
      exact does_move (V := Value.bool (!decide ((⟨a.size, a.root⟩ : Head) = (⟨b.size, b.root⟩ : Head)))) (hT 25 rfl rfl) ⟨Ext.refl _, rfl⟩
    · refine Ask.guarded (B := !decide ((⟨a.size, a.root⟩ : Head) = (⟨b.size, b.root⟩ : Head))) (want := false) (t := 26) rfl rfl rfl rfl (by decide) (fun aq wq hO hR hT => hT 26 rfl rfl) (fun hG aq wq hNq hO hR hT => ?_) (fun hno _ hc => absurd (bn hc) hno)
      replace hG := nb hG
      exact does_loadD (o := 0) (n := 4) (mid := [w32 (headOf a).a, w32 (headOf a).b, w32 (headOf a).c, w32 (headOf a).d]) ((hO 5 rfl).trans s5_6) (hbb5_6.ext' hR) rfl rfl (Nat.le_of_ble_eq_true rfl) row_27 rfl ⟨Ext.refl _, fun _ => rfl⟩
    · refine Ask.guarded (B := !decide ((⟨a.size, a.root⟩ : Head) = (⟨b.size, b.root⟩ : Head))) (want := false) (t := 26) rfl rfl rfl rfl (by decide) (fun aq wq hO hR hT => hT 26 rfl rfl) (fun hG aq wq hNq hO hR hT => ?_) (fun hno _ hc => absurd (bn hc) hno)
      replace hG := nb hG
      exact does_loadD (o := 0) (n := 4) (mid := [w32 (headOf b).a, w32 (headOf b).b, w32 (headOf b).c, w32 (headOf b).d]) ((hO 6 rfl).trans s6_6) (hbb6_6.ext' hR) rfl rfl (Nat.le_of_ble_eq_true rfl) row_27 rfl ⟨Ext.refl _, fun _ => rfl⟩
    · refine Ask.guarded (B := !decide ((⟨a.size, a.root⟩ : Head) = (⟨b.size, b.root⟩ : Head))) (want := false) (t := 26) rfl rfl rfl rfl (by decide) (fun aq wq hO hR hT => hT 26 rfl rfl) (fun hG aq wq hNq hO hR hT => ?_) (fun hno _ hc => absurd (bn hc) hno)
      replace hG := nb hG
      exact does_eqT (a := headOf a) (b := headOf b) eq_27 (hT 27 rfl rfl (hG)) (hT 28 rfl rfl (hG)) ⟨Ext.refl _, fun _ => rfl⟩
    · refine Ask.plain rfl rfl ?_
      intro aq wq hNq hO hR hT
      exact does_or (B := !decide ((⟨a.size, a.root⟩ : Head) = (⟨b.size, b.root⟩ : Head))) (X := decide (headOf a = headOf b)) (hT 26 rfl rfl) rfl (fun hB => (hT 29 rfl rfl (nb hB))) ⟨Ext.refl _, rfl⟩
    · refine Ask.plain rfl rfl ?_
      intro aq wq hNq hO hR hT
      exact does_assign (V := Value.bool ((!decide ((⟨a.size, a.root⟩ : Head) = (⟨b.size, b.root⟩ : Head))) || (decide (headOf a = headOf b)))) (hT 30 rfl rfl) ⟨Ext.refl _, rfl⟩
  intro a7 wd7 hN_7 hD_7 hO hR hA hU
  obtain ⟨_, _, _, _, _, _, _, _, t4, _⟩ := hA
  have hE_7 := hE_6.trans hR
  have hbb2_7 := hbb2_6.ext' hR
  have hbb3_7 := hbb3_6.ext' hR
  have hbb5_7 := hbb5_6.ext' hR
  have hbb6_7 := hbb6_6.ext' hR
  have s4_7 : get a7 4 = Value.bool ((!decide ((⟨a.size, a.root⟩ : Head) = (⟨b.size, b.root⟩ : Head))) || (decide (headOf a = headOf b))) := t4
  clear hE_6 hN_6 hD_6 s2_6 s3_6 s5_6 s6_6 s22_6 hbb2_6 hbb3_6 hbb5_6 hbb6_6
  refine tail_nil ?_
  refine wp_ret ?_
  refine res_one (V := Value.bool ((!decide ((⟨a.size, a.root⟩ : Head) = (⟨b.size, b.root⟩ : Head))) || (decide (headOf a = headOf b)))) rfl hD_7 s4_7 ?_
  exact ⟨congrArg Value.bool (headOf_law a b), hE_7⟩

end Go.Proofs.YtijfjpbahepegaaDoor
