/- The walks of functions of the program: printed. -/
import Derived.Test.YtijfjpbahepegaaDoorG9
set_option maxRecDepth 100000
namespace Go.Proofs.YtijfjpbahepegaaDoor
open Go Go.RowKit Sk Sd
theorem headLost (items : List (List UInt8)) (x1 : Value) (h : Head) (w0 : World) (hL : Laid w0) (hx1 : SlT Str 0 0 items x1 w0) :
    Gives Tryd.prog 3 #[Value.agg #[x1], Value.agg #[i64 (h.size), w32 (h.root).a, w32 (h.root).b, w32 (h.root).c, w32 (h.root).d]] w0 (Pr.ex (Value.bool true)) := by
  refine enter (N := 17) Tryd.func3 rfl rfl ?_
  intro a0 hN_0 hD_0 hA
  have s0_0 : get a0 0 = Value.agg #[x1] := hA 0 _ rfl
  have s1_0 : get a0 1 = Value.agg #[i64 (h.size), w32 (h.root).a, w32 (h.root).b, w32 (h.root).c, w32 (h.root).d] := hA 1 _ rfl
  clear hA
  have hE_0 : Ext w0 w0 := Ext.refl w0
  have hsx1_0 := hx1.close
  refine wp_seq ?_
  refine region_lex [2, 3] [(2, Pr.box' w0.heap.size 24 [x1]), (3, Pr.box' w0.heap.size 29 [i64 (h.size), w32 (h.root).a, w32 (h.root).b, w32 (h.root).c, w32 (h.root).d]), (4, Pr.ex (Value.bool (false)))] 3 hN_0 hD_0 (by kernel_rfl) (by kernel_rfl) ?_ ?_
  · refine Asks.cons ?_ (Asks.cons ?_ (Asks.cons ?_ (Asks.zero _)))
    · refine Ask.fresh rfl rfl ?_
      intro aq wq hNq hO hR hT
      exact does_box (V := Value.agg #[x1]) ((hO 0 rfl).trans s0_0) (fun b w2 he hlo hb => ⟨he, ⟨b, rfl, Nat.le_trans hR.size' hlo, hb⟩, ⟨b, rfl, hlo, hb.lt⟩⟩)
    · refine Ask.fresh rfl rfl ?_
      intro aq wq hNq hO hR hT
      exact does_box (V := Value.agg #[i64 (h.size), w32 (h.root).a, w32 (h.root).b, w32 (h.root).c, w32 (h.root).d]) ((hO 1 rfl).trans s1_0) (fun b w2 he hlo hb => ⟨he, ⟨b, rfl, Nat.le_trans hR.size' hlo, hb⟩, ⟨b, rfl, hlo, hb.lt⟩⟩)
    · refine Ask.plain rfl rfl ?_
      intro aq wq hNq hO hR hT
      exact does_assign (V := Value.bool (false)) rfl ⟨Ext.refl _, rfl⟩
  intro a1 wd1 hN_1 hD_1 hO hR hA hU
  obtain ⟨t2, t3, _, _⟩ := hA
  have hE_1 := hE_0.trans hR
  have hsx1_1 := hsx1_0.ext' hR
  obtain ⟨b2, s2_1, lo_b2, hbb2_1⟩ := t2
  have nb_x1_b2 := SlT.old hsx1_0 lo_b2
  have fr_b2 : w0.heap.size ≤ b2 := Nat.le_trans hE_0.size' lo_b2
  obtain ⟨b3, s3_1, lo_b3, hbb3_1⟩ := t3
  have nb_x1_b3 := SlT.old hsx1_0 lo_b3
  have fr_b3 : w0.heap.size ≤ b3 := Nat.le_trans hE_0.size' lo_b3
  obtain ⟨u0, ⟨u1, _⟩⟩ := hU
  have ne_b2_b3 : b2 ≠ b3 := fun e => u0 3 (by decide) (by rw [s2_1, s3_1, e])
  clear hE_0 hN_0 hD_0 s0_0 s1_0 hsx1_0
  refine tail_nil ?_
  refine wp_seq ?_
  refine wp_seq ?_
  refine region_lex [] [(5, Pr.ex (Value.bool (true))), (6, Pr.ex (Value.bool (false)))] 2 hN_1 hD_1 (by kernel_rfl) (by kernel_rfl) ?_ ?_
  · refine Asks.cons ?_ (Asks.cons ?_ (Asks.zero _))
    · refine Ask.plain rfl rfl ?_
      intro aq wq hNq hO hR hT
      exact does_ret (vs := #[]) call_12 args0 rfl ((alive43 wq (hL.ext (hE_1.trans hR))).mono fun v w2 h => ⟨h.2, h.1⟩)
    · refine Ask.plain rfl rfl ?_
      intro aq wq hNq hO hR hT
      exact does_not (B := true) (hT 5 rfl rfl) ⟨Ext.refl _, rfl⟩
  intro a2 wd2 hN_2 hD_2 hO hR hA hU
  obtain ⟨_, t6, _⟩ := hA
  have hE_2 := hE_1.trans hR
  have s2_2 := (hO 2 rfl).trans s2_1
  have s3_2 := (hO 3 rfl).trans s3_1
  have hbb2_2 := hbb2_1.ext' hR
  have hbb3_2 := hbb3_1.ext' hR
  have hsx1_2 := hsx1_1.ext' hR
  have s6_2 : get a2 6 = Value.bool (false) := t6
  clear hE_1 hN_1 hD_1 s2_1 s3_1 hbb2_1 hbb3_1 hsx1_1
  refine tail_nil ?_
  refine wp_ifF s6_2 ?_
  refine wp_skip ?_
  refine wp_seq ?_
  refine wp_seq ?_
  refine region_lex [] [(7, Pr.ex (Value.agg #[x1])), (8, Pr.ex (Value.bool (few items 20 300 && right items))), (9, Pr.ex (Value.bool (!(few items 20 300 && right items))))] 3 hN_2 hD_2 (by kernel_rfl) (by kernel_rfl) ?_ ?_
  · refine Asks.cons ?_ (Asks.cons ?_ (Asks.cons ?_ (Asks.zero _)))
    · refine Ask.plain rfl rfl ?_
      intro aq wq hNq hO hR hT
      exact does_loadD (o := 0) (n := 1) (mid := [x1]) ((hO 2 rfl).trans s2_2) (hbb2_2.ext' hR) rfl rfl (Nat.le_of_ble_eq_true rfl) row_24 rfl ⟨Ext.refl _, rfl⟩
    · refine Ask.plain rfl rfl ?_
      intro aq wq hNq hO hR hT
      exact does_ret (vs := #[Value.agg #[x1]]) call_13 (args1 (hT 7 rfl rfl)) rfl ((few43 (items) (x1) wq ((hsx1_2.ext' hR).wide (Nat.zero_le _) (.inl rfl))).mono fun v w2 h => ⟨h.2, h.1⟩)
    · refine Ask.plain rfl rfl ?_
      intro aq wq hNq hO hR hT
      exact does_not (B := few items 20 300 && right items) (hT 8 rfl rfl) ⟨Ext.refl _, rfl⟩
  intro a3 wd3 hN_3 hD_3 hO hR hA hU
  obtain ⟨_, _, t9, _⟩ := hA
  have hE_3 := hE_2.trans hR
  have s2_3 := (hO 2 rfl).trans s2_2
  have s3_3 := (hO 3 rfl).trans s3_2
  have hbb2_3 := hbb2_2.ext' hR
  have hbb3_3 := hbb3_2.ext' hR
  have hsx1_3 := hsx1_2.ext' hR
  have s9_3 : get a3 9 = Value.bool (!(few items 20 300 && right items)) := t9
  clear hE_2 hN_2 hD_2 s2_2 s3_2 s6_2 hbb2_2 hbb3_2 hsx1_2
  refine tail_nil ?_
  refine wp_if (B := !(few items 20 300 && right items)) s9_3 (fun hc0 => ?_) (fun hc0 => ?_)
  · -- T 0
    refine wp_seq ?_
    refine region_lex [] [(4, Pr.ex (Value.bool (true)))] 1 hN_3 hD_3 (by kernel_rfl) (by kernel_rfl) ?_ ?_
    · refine Asks.cons ?_ (Asks.zero _)
      · refine Ask.plain rfl rfl ?_
        intro aq wq hNq hO hR hT
        exact does_assign (V := Value.bool (true)) rfl ⟨Ext.refl _, rfl⟩
    intro a4 wd4 hN_4 hD_4 hO hR hA hU
    obtain ⟨t4, _⟩ := hA
    have hE_4 := hE_3.trans hR
    have hbb2_4 := hbb2_3.ext' hR
    have hbb3_4 := hbb3_3.ext' hR
    have hsx1_4 := hsx1_3.ext' hR
    have s4_4 : get a4 4 = Value.bool (true) := t4
    clear hE_3 hN_3 hD_3 s2_3 s3_3 s9_3 hbb2_3 hbb3_3 hsx1_3
    refine tail_nil ?_
    refine wp_ret ?_
    refine res_one (V := Value.bool (true)) rfl hD_4 s4_4 ?_
    exact ⟨rfl, hE_4⟩
  have hf := Bool.and_eq_true_iff.1 (bn' hc0)
  have hs := few_hs hf.1 (by decide)
  have hn := few_hn hf.1 (by decide)
  refine wp_skip ?_
  refine wp_seq ?_
  refine region_any [] [(10, Pr.ex (Value.agg #[x1])), (11, Pr.ex (Value.agg #[i64 (h.size), w32 (h.root).a, w32 (h.root).b, w32 (h.root).c, w32 (h.root).d])), (12, Pr.ex (i64 ((lost items h : Nat) : Int))), (13, Pr.ex (Value.agg #[x1])), (14, Pr.ex (Value.agg #[i64 (h.size), w32 (h.root).a, w32 (h.root).b, w32 (h.root).c, w32 (h.root).d])), (15, Pr.ex (i64 ((lost items h : Nat) : Int))), (16, Pr.ex (Value.bool (decide (((lost items h : Nat) : Int) = ((lost items h : Nat) : Int))))), (4, Pr.ex (Value.bool (decide (((lost items h : Nat) : Int) = ((lost items h : Nat) : Int)))))] 8 mixed hN_3 hD_3 (by kernel_rfl) (by kernel_rfl) (by kernel_rfl) ?_ ?_
  · refine Asks.cons ?_ (Asks.cons ?_ (Asks.cons ?_ (Asks.cons ?_ (Asks.cons ?_ (Asks.cons ?_ (Asks.cons ?_ (Asks.cons ?_ (Asks.zero _))))))))
    · refine Ask.plain rfl rfl ?_
      intro aq wq hNq hO hR hT
      replace hR := (Ext.drew _).trans hR
      exact does_loadD (o := 0) (n := 1) (mid := [x1]) ((hO 2 rfl).trans s2_3) (hbb2_3.ext' hR) rfl rfl (Nat.le_of_ble_eq_true rfl) row_24 rfl ⟨Ext.refl _, rfl⟩
    · refine Ask.plain rfl rfl ?_
      intro aq wq hNq hO hR hT
      replace hR := (Ext.drew _).trans hR
      exact does_loadD (o := 0) (n := 5) (mid := [i64 (h.size), w32 (h.root).a, w32 (h.root).b, w32 (h.root).c, w32 (h.root).d]) ((hO 3 rfl).trans s3_3) (hbb3_3.ext' hR) rfl rfl (Nat.le_of_ble_eq_true rfl) row_29 rfl ⟨Ext.refl _, rfl⟩
    · refine Ask.plain rfl rfl ?_
      intro aq wq hNq hO hR hT
      replace hR := (Ext.drew _).trans hR
      exact does_ret (vs := #[Value.agg #[x1], Value.agg #[i64 (h.size), w32 (h.root).a, w32 (h.root).b, w32 (h.root).c, w32 (h.root).d]]) call_14 (args2 (hT 10 rfl rfl) (hT 11 rfl rfl)) rfl ((lost_ (items) (x1) h wq (hL.ext (hE_3.trans hR)) ((hsx1_3.ext' hR).wide (Nat.zero_le _) (.inl rfl)) hs hn).mono fun v w2 h => ⟨h.2, h.1⟩)
    · refine Ask.plain rfl rfl ?_
      intro aq wq hNq hO hR hT
      replace hR := (Ext.drew _).trans hR
      exact does_loadD (o := 0) (n := 1) (mid := [x1]) ((hO 2 rfl).trans s2_3) (hbb2_3.ext' hR) rfl rfl (Nat.le_of_ble_eq_true rfl) row_24 rfl ⟨Ext.refl _, rfl⟩
    · refine Ask.plain rfl rfl ?_
      intro aq wq hNq hO hR hT
      replace hR := (Ext.drew _).trans hR
      exact does_loadD (o := 0) (n := 5) (mid := [i64 (h.size), w32 (h.root).a, w32 (h.root).b, w32 (h.root).c, w32 (h.root).d]) ((hO 3 rfl).trans s3_3) (hbb3_3.ext' hR) rfl rfl (Nat.le_of_ble_eq_true rfl) row_29 rfl ⟨Ext.refl _, rfl⟩
    · refine Ask.plain rfl rfl ?_
      intro aq wq hNq hO hR hT
      replace hR := (Ext.drew _).trans hR
      exact does_ret (vs := #[Value.agg #[x1], Value.agg #[i64 (h.size), w32 (h.root).a, w32 (h.root).b, w32 (h.root).c, w32 (h.root).d]]) call_15 (args2 (hT 13 rfl rfl) (hT 14 rfl rfl)) rfl ((lostR (items) (x1) h wq ((hsx1_3.ext' hR).wide (Nat.zero_le _) (.inl rfl)) hs hn).mono fun v w2 h => ⟨h.2, h.1⟩)
    · refine Ask.plain rfl rfl ?_
      intro aq wq hNq hO hR hT
      replace hR := (Ext.drew _).trans hR
      exact does_eql (a := ((lost items h : Nat) : Int)) (b := ((lost items h : Nat) : Int)) (hT 12 rfl rfl) (hT 15 rfl rfl) ⟨Ext.refl _, rfl⟩
    · refine Ask.plain rfl rfl ?_
      intro aq wq hNq hO hR hT
      replace hR := (Ext.drew _).trans hR
      exact does_assign (V := Value.bool (decide (((lost items h : Nat) : Int) = ((lost items h : Nat) : Int)))) (hT 16 rfl rfl) ⟨Ext.refl _, rfl⟩
  intro a5 wd5 hN_5 hD_5 hO hR hA hU
  obtain ⟨_, _, _, _, _, _, _, t4, _⟩ := hA
  have hE_5 := hE_3.trans hR
  have hbb2_5 := hbb2_3.ext' hR
  have hbb3_5 := hbb3_3.ext' hR
  have hsx1_5 := hsx1_3.ext' hR
  have s4_5 : get a5 4 = Value.bool (decide (((lost items h : Nat) : Int) = ((lost items h : Nat) : Int))) := t4
  clear hE_3 hN_3 hD_3 s2_3 s3_3 s9_3 hbb2_3 hbb3_3 hsx1_3
  refine tail_nil ?_
  refine wp_ret ?_
  refine res_one (V := Value.bool (decide (((lost items h : Nat) : Int) = ((lost items h : Nat) : Int)))) rfl hD_5 s4_5 ?_
  exact ⟨by show Value.bool _ = Value.bool true; simp, hE_5⟩

end Go.Proofs.YtijfjpbahepegaaDoor
