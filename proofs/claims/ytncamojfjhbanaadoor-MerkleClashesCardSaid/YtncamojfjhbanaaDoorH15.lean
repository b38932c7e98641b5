/- The walks of functions of the program: printed. -/
import Derived.Test.YtncamojfjhbanaaDoorK
import Derived.Test.YtncamojfjhbanaaDoorG3
import Derived.Test.YtncamojfjhbanaaDoorG7
import Derived.Test.YtncamojfjhbanaaDoorG13
import Derived.Test.YtncamojfjhbanaaDoorG41
import Derived.Test.YtncamojfjhbanaaDoorG52
import Derived.Test.YtncamojfjhbanaaDoorG53
import Derived.Test.YtncamojfjhbanaaDoorF0
set_option maxRecDepth 100000
namespace Go.Proofs.YtncamojfjhbanaaDoor
open Go Go.RowKit Sk Sd
theorem call_10 : Callable Tryd.prog 10 := ⟨_, Tryd.func10, by kernel_rfl, rfl⟩
theorem call_13 : Callable Tryd.prog 13 := ⟨_, Tryd.func13, by kernel_rfl, rfl⟩
theorem arr_32 : ArrIs Tryd.prog 32 2 24 4 := ⟨Tryd.underlying32, by kernel_rfl⟩
theorem clashesLaw (a b : List Dg) (x1 x2 : Value) (w0 : World) (hL : Laid w0) (hx1 : SlT DG 0 0 a x1 w0) (hx2 : SlT DG 0 0 b x2 w0) :
    Gives Tryd.prog 4 #[x1, x2] w0 (Pr.ex (Value.bool true)) := by
  refine enter (N := 89) Tryd.func4 rfl rfl ?_
  intro a0 hN_0 hD_0 hA
  have s0_0 : get a0 0 = x1 := hA 0 _ rfl
  have s1_0 : get a0 1 = x2 := hA 1 _ rfl
  clear hA
  have hE_0 : Ext w0 w0 := Ext.refl w0
  have hsx1_0 := hx1.close
  have hsx2_0 := hx2.close
  refine wp_seq ?_
  refine region_lex [] [(4, Pr.ex (Value.bool (false)))] 1 hN_0 hD_0 (by kernel_rfl) (by kernel_rfl) ?_ ?_
  · refine Asks.cons ?_ (Asks.zero _)
    · refine Ask.plain rfl rfl ?_
      intro aq wq hNq hO hR hT
      exact does_assign (V := Value.bool (false)) rfl ⟨Ext.refl _, rfl⟩
  intro a1 wd1 hN_1 hD_1 hO hR hA hU
  obtain ⟨_, _⟩ := hA
  have hE_1 := hE_0.trans hR
  have s0_1 := (hO 0 rfl).trans s0_0
  have s1_1 := (hO 1 rfl).trans s1_0
  have hsx1_1 := hsx1_0.ext' hR
  have hsx2_1 := hsx2_0.ext' hR
  clear hE_0 hN_0 hD_0 s0_0 s1_0 hsx1_0 hsx2_0
  refine tail_nil ?_
  refine wp_seq ?_
  refine wp_seq ?_
  refine region_lex [] [(11, Pr.ex (Value.bool (true))), (12, Pr.ex (Value.bool (false)))] 2 hN_1 hD_1 (by kernel_rfl) (by kernel_rfl) ?_ ?_
  · refine Asks.cons ?_ (Asks.cons ?_ (Asks.zero _))
    · refine Ask.plain rfl rfl ?_
      intro aq wq hNq hO hR hT
      exact does_ret (vs := #[]) call_10 args0 rfl ((alive04 wq (hL.ext (hE_1.trans hR))).mono fun v w2 h => ⟨h.2, h.1⟩)
    · refine Ask.plain rfl rfl ?_
      intro aq wq hNq hO hR hT
      exact does_not (B := true) (hT 11 rfl rfl) ⟨Ext.refl _, rfl⟩
  intro a2 wd2 hN_2 hD_2 hO hR hA hU
  obtain ⟨_, t12, _⟩ := hA
  have hE_2 := hE_1.trans hR
  have s0_2 := (hO 0 rfl).trans s0_1
  have s1_2 := (hO 1 rfl).trans s1_1
  have hsx1_2 := hsx1_1.ext' hR
  have hsx2_2 := hsx2_1.ext' hR
  have s12_2 : get a2 12 = Value.bool (false) := t12
  clear hE_1 hN_1 hD_1 s0_1 s1_1 hsx1_1 hsx2_1
  refine tail_nil ?_
  refine wp_ifF s12_2 ?_
  refine wp_skip ?_
  refine wp_seq ?_
  refine wp_seq ?_
  refine region_lex [] [(13, Pr.ex (x1)), (14, Pr.ex (i64 ((a.length : Nat) : Int))), (15, Pr.ex (Value.bool (decide (((20 : Nat) : Int) < ((a.length : Nat) : Int))))), (16, Pr.ex (Value.bool (decide (((20 : Nat) : Int) < ((a.length : Nat) : Int))))), (17, Pr.ifb (!(decide (((20 : Nat) : Int) < ((a.length : Nat) : Int)))) (Pr.ex (x2))), (18, Pr.ifb (!(decide (((20 : Nat) : Int) < ((a.length : Nat) : Int)))) (Pr.ex (i64 ((b.length : Nat) : Int)))), (19, Pr.ifb (!(decide (((20 : Nat) : Int) < ((a.length : Nat) : Int)))) (Pr.ex (Value.bool (decide (((20 : Nat) : Int) < ((b.length : Nat) : Int)))))), (20, Pr.ex (Value.bool ((decide (((20 : Nat) : Int) < ((a.length : Nat) : Int))) || (decide (((20 : Nat) : Int) < ((b.length : Nat) : Int))))))] 8 hN_2 hD_2 (by kernel_rfl) (by kernel_rfl) ?_ ?_
  · refine Asks.cons ?_ (Asks.cons ?_ (Asks.cons ?_ (Asks.cons ?_ (Asks.cons ?_ (Asks.cons ?_ (Asks.cons ?_ (Asks.cons ?_ (Asks.zero _))))))))
    · refine Ask.plain rfl rfl ?_
      intro aq wq hNq hO hR hT
      exact does_move (V := x1) ((hO 0 rfl).trans s0_2) ⟨Ext.refl _, rfl⟩
    · refine Ask.plain rfl rfl ?_
      intro aq wq hNq hO hR hT
      exact does_len (T := DG) (xs := a) sli_27 (SlT.at (hT 13 rfl rfl) (hsx1_2.ext' hR)) ⟨Ext.refl _, rfl⟩
    · refine Ask.plain rfl rfl ?_
      intro aq wq hNq hO hR hT
      exact does_gtr (a := ((a.length : Nat) : Int)) (b := ((20 : Nat) : Int)) (hT 14 rfl rfl) rfl ⟨Ext.refl _, rfl⟩
    · refine Ask.plain rfl rfl ?_
      intro aq wq hNq hO hR hT
      exact does_move (V := Value.bool (decide (((20 : Nat) : Int) < ((a.length : Nat) : Int)))) (hT 15 rfl rfl) ⟨Ext.refl _, rfl⟩
    · refine Ask.guarded (B := decide (((20 : Nat) : Int) < ((a.length : Nat) : Int))) (want := false) (t := 16) rfl rfl rfl rfl (by decide) (fun aq wq hO hR hT => hT 16 rfl rfl) (fun hG aq wq hNq hO hR hT => ?_) (fun hno _ => fun hc => absurd (bn hc) hno)
      replace hG := nb hG
      exact does_move (V := x2) ((hO 1 rfl).trans s1_2) ⟨Ext.refl _, fun _ => rfl⟩
    · refine Ask.guarded (B := decide (((20 : Nat) : Int) < ((a.length : Nat) : Int))) (want := false) (t := 16) rfl rfl rfl rfl (by decide) (fun aq wq hO hR hT => hT 16 rfl rfl) (fun hG aq wq hNq hO hR hT => ?_) (fun hno _ => fun hc => absurd (bn hc) hno)
      replace hG := nb hG
      exact does_len (T := DG) (xs := b) sli_27 (SlT.at (hT 17 rfl rfl hG) (hsx2_2.ext' hR)) ⟨Ext.refl _, fun _ => rfl⟩
    · refine Ask.guarded (B := decide (((20 : Nat) : Int) < ((a.length : Nat) : Int))) (want := false) (t := 16) rfl rfl rfl rfl (by decide) (fun aq wq hO hR hT => hT 16 rfl rfl) (fun hG aq wq hNq hO hR hT => ?_) (fun hno _ => fun hc => absurd (bn hc) hno)
      replace hG := nb hG
      exact does_gtr (a := ((b.length : Nat) : Int)) (b := ((20 : Nat) : Int)) (hT 18 rfl rfl hG) rfl ⟨Ext.refl _, fun _ => rfl⟩
    · refine Ask.plain rfl rfl ?_
      intro aq wq hNq hO hR hT
      exact does_or (B := decide (((20 : Nat) : Int) < ((a.length : Nat) : Int))) (X := decide (((20 : Nat) : Int) < ((b.length : Nat) : Int))) (hT 16 rfl rfl) rfl (fun hB => (hT 19 rfl rfl (nb hB))) ⟨Ext.refl _, rfl⟩
  intro a3 wd3 hN_3 hD_3 hO hR hA hU
  obtain ⟨_, _, _, _, _, _, _, t20, _⟩ := hA
  have hE_3 := hE_2.trans hR
  have s0_3 := (hO 0 rfl).trans s0_2
  have s1_3 := (hO 1 rfl).trans s1_2
  have hsx1_3 := hsx1_2.ext' hR
  have hsx2_3 := hsx2_2.ext' hR
  have s20_3 : get a3 20 = Value.bool ((decide (((20 : Nat) : Int) < ((a.length : Nat) : Int))) || (decide (((20 : Nat) : Int) < ((b.length : Nat) : Int)))) := t20
  clear hE_2 hN_2 hD_2 s0_2 s1_2 s12_2 hsx1_2 hsx2_2
  refine tail_nil ?_
  refine wp_if (B := (decide (((20 : Nat) : Int) < ((a.length : Nat) : Int))) || (decide (((20 : Nat) : Int) < ((b.length : Nat) : Int)))) s20_3 (fun hc0 => ?_) (fun hc0 => ?_)
  · -- T 0
    refine wp_seq ?_
    refine region_lex [] [(4, Pr.ex (Value.bool (true)))] 1 hN_3 hD_3 (by kernel_rfl) (by kernel_rfl) ?_ ?_
    · refine Asks.cons ?_ (Asks.zero _)
      · refine Ask.plain rfl rfl ?_
        intro aq wq hNq hO hR hT
        exact does_assign (V := Value.bool (true)) rfl ⟨Ext.refl _, rfl⟩
    intro a4 wd4 hN_4 hD_4 hO hR hA hU
    obtain ⟨t4, _⟩ := hA
    have hE_4 := hE_3.trans hR
    have hsx1_4 := hsx1_3.ext' hR
    have hsx2_4 := hsx2_3.ext' hR
    have s4_4 : get a4 4 = Value.bool (true) := t4
    clear hE_3 hN_3 hD_3 s0_3 s1_3 s20_3 hsx1_3 hsx2_3
    refine tail_nil ?_
    refine wp_ret ?_
    refine res_one (V := Value.bool (true)) rfl hD_4 s4_4 ?_
    exact ⟨rfl, hE_4⟩
  obtain ⟨ha, hb⟩ : ((a.length : Nat) : Int) ≤ 20 ∧ ((b.length : Nat) : Int) ≤ 20 := by simpa using hc0
  refine wp_skip ?_
  refine wp_seq ?_
  refine region_lex [5, 6] [(22, Pr.ex (x1)), (23, Pr.ex (x2)), (24, Pr.ex (Value.tuple #[Value.agg #[w32 ((clash a b).1.1).a, w32 ((clash a b).1.1).b, w32 ((clash a b).1.1).c, w32 ((clash a b).1.1).d, w32 ((clash a b).1.2).a, w32 ((clash a b).1.2).b, w32 ((clash a b).1.2).c, w32 ((clash a b).1.2).d], Value.agg #[w32 ((clash a b).2.1.1).a, w32 ((clash a b).2.1.1).b, w32 ((clash a b).2.1.1).c, w32 ((clash a b).2.1.1).d, w32 ((clash a b).2.1.2).a, w32 ((clash a b).2.1.2).b, w32 ((clash a b).2.1.2).c, w32 ((clash a b).2.1.2).d], Value.bool ((clash a b).2.2)])), (21, Pr.ex (Value.tuple #[Value.agg #[w32 ((clash a b).1.1).a, w32 ((clash a b).1.1).b, w32 ((clash a b).1.1).c, w32 ((clash a b).1.1).d, w32 ((clash a b).1.2).a, w32 ((clash a b).1.2).b, w32 ((clash a b).1.2).c, w32 ((clash a b).1.2).d], Value.agg #[w32 ((clash a b).2.1.1).a, w32 ((clash a b).2.1.1).b, w32 ((clash a b).2.1.1).c, w32 ((clash a b).2.1.1).d, w32 ((clash a b).2.1.2).a, w32 ((clash a b).2.1.2).b, w32 ((clash a b).2.1.2).c, w32 ((clash a b).2.1.2).d], Value.bool ((clash a b).2.2)])), (25, Pr.ex (Value.agg #[w32 ((clash a b).1.1).a, w32 ((clash a b).1.1).b, w32 ((clash a b).1.1).c, w32 ((clash a b).1.1).d, w32 ((clash a b).1.2).a, w32 ((clash a b).1.2).b, w32 ((clash a b).1.2).c, w32 ((clash a b).1.2).d])), (26, Pr.ex (Value.agg #[w32 ((clash a b).2.1.1).a, w32 ((clash a b).2.1.1).b, w32 ((clash a b).2.1.1).c, w32 ((clash a b).2.1.1).d, w32 ((clash a b).2.1.2).a, w32 ((clash a b).2.1.2).b, w32 ((clash a b).2.1.2).c, w32 ((clash a b).2.1.2).d])), (27, Pr.ex (Value.bool ((clash a b).2.2))), (5, Pr.box' wd3.heap.size 32 [w32 (Dg.zero).a, w32 (Dg.zero).b, w32 (Dg.zero).c, w32 (Dg.zero).d, w32 (Dg.zero).a, w32 (Dg.zero).b, w32 (Dg.zero).c, w32 (Dg.zero).d]), (6, Pr.box' wd3.heap.size 32 [w32 (Dg.zero).a, w32 (Dg.zero).b, w32 (Dg.zero).c, w32 (Dg.zero).d, w32 (Dg.zero).a, w32 (Dg.zero).b, w32 (Dg.zero).c, w32 (Dg.zero).d])] 9 hN_3 hD_3 (by kernel_rfl) (by kernel_rfl) ?_ ?_
  · refine Asks.cons ?_ (Asks.cons ?_ (Asks.cons ?_ (Asks.cons ?_ (Asks.cons ?_ (Asks.cons ?_ (Asks.cons ?_ (Asks.cons ?_ (Asks.cons ?_ (Asks.zero _)))))))))
    · refine Ask.plain rfl rfl ?_
      intro aq wq hNq hO hR hT
      exact does_move (V := x1) ((hO 0 rfl).trans s0_3) ⟨Ext.refl _, rfl⟩
    · refine Ask.plain rfl rfl ?_
      intro aq wq hNq hO hR hT
      exact does_move (V := x2) ((hO 1 rfl).trans s1_3) ⟨Ext.refl _, rfl⟩
    · refine Ask.plain rfl rfl ?_
      intro aq wq hNq hO hR hT
      exact does_ret (vs := #[x1, x2]) call_13 (args2 (hT 22 rfl rfl) (hT 23 rfl rfl)) rfl ((clash_ a b (x1) (x2) wq (hL.ext (hE_3.trans hR)) ((hsx1_3.ext' hR).wide (Nat.zero_le _) (.inl rfl)) ((hsx2_3.ext' hR).wide (Nat.zero_le _) (.inl rfl)) (by omega) (by omega)).mono fun v w2 h => ⟨h.2, h.1⟩)
    · refine Ask.plain rfl rfl ?_
      intro aq wq hNq hO hR hT
      exact does_move (V := Value.tuple #[Value.agg #[w32 ((clash a b).1.1).a, w32 ((clash a b).1.1).b, w32 ((clash a b).1.1).c, w32 ((clash a b).1.1).d, w32 ((clash a b).1.2).a, w32 ((clash a b).1.2).b, w32 ((clash a b).1.2).c, w32 ((clash a b).1.2).d], Value.agg #[w32 ((clash a b).2.1.1).a, w32 ((clash a b).2.1.1).b, w32 ((clash a b).2.1.1).c, w32 ((clash a b).2.1.1).d, w32 ((clash a b).2.1.2).a, w32 ((clash a b).2.1.2).b, w32 ((clash a b).2.1.2).c, w32 ((clash a b).2.1.2).d], Value.bool ((clash a b).2.2)]) (hT 24 rfl rfl) ⟨Ext.refl _, rfl⟩
    · refine Ask.plain rfl rfl ?_
      intro aq wq hNq hO hR hT
      exact does_extract (V := Value.agg #[w32 ((clash a b).1.1).a, w32 ((clash a b).1.1).b, w32 ((clash a b).1.1).c, w32 ((clash a b).1.1).d, w32 ((clash a b).1.2).a, w32 ((clash a b).1.2).b, w32 ((clash a b).1.2).c, w32 ((clash a b).1.2).d]) (hT 21 rfl rfl) rfl ⟨Ext.refl _, rfl⟩
    · refine Ask.plain rfl rfl ?_
      intro aq wq hNq hO hR hT
      exact does_extract (V := Value.agg #[w32 ((clash a b).2.1.1).a, w32 ((clash a b).2.1.1).b, w32 ((clash a b).2.1.1).c, w32 ((clash a b).2.1.1).d, w32 ((clash a b).2.1.2).a, w32 ((clash a b).2.1.2).b, w32 ((clash a b).2.1.2).c, w32 ((clash a b).2.1.2).d]) (hT 21 rfl rfl) rfl ⟨Ext.refl _, rfl⟩
    · refine Ask.plain rfl rfl ?_
      intro aq wq hNq hO hR hT
      exact does_extract (V := Value.bool ((clash a b).2.2)) (hT 21 rfl rfl) rfl ⟨Ext.refl _, rfl⟩
    · refine Ask.fresh rfl rfl ?_
      intro aq wq hNq hO hR hT
      exact does_alloc zero_32 (fun b w2 he hlo hb => ⟨he, ⟨b, rfl, Nat.le_trans hR.size' hlo, hb⟩, ⟨b, rfl, hlo, hb.lt⟩⟩)
    · refine Ask.fresh rfl rfl ?_
      intro aq wq hNq hO hR hT
      exact does_alloc zero_32 (fun b w2 he hlo hb => ⟨he, ⟨b, rfl, Nat.le_trans hR.size' hlo, hb⟩, ⟨b, rfl, hlo, hb.lt⟩⟩)
  intro a5 wd5 hN_5 hD_5 hO hR hA hU
  obtain ⟨_, _, _, _, t25, t26, t27, t5, t6, _⟩ := hA
  have hE_5 := hE_3.trans hR
  have s0_5 := (hO 0 rfl).trans s0_3
  have s1_5 := (hO 1 rfl).trans s1_3
  have hsx1_5 := hsx1_3.ext' hR
  have hsx2_5 := hsx2_3.ext' hR
  have s25_5 : get a5 25 = Value.agg #[w32 ((clash a b).1.1).a, w32 ((clash a b).1.1).b, w32 ((clash a b).1.1).c, w32 ((clash a b).1.1).d, w32 ((clash a b).1.2).a, w32 ((clash a b).1.2).b, w32 ((clash a b).1.2).c, w32 ((clash a b).1.2).d] := t25
  have s26_5 : get a5 26 = Value.agg #[w32 ((clash a b).2.1.1).a, w32 ((clash a b).2.1.1).b, w32 ((clash a b).2.1.1).c, w32 ((clash a b).2.1.1).d, w32 ((clash a b).2.1.2).a, w32 ((clash a b).2.1.2).b, w32 ((clash a b).2.1.2).c, w32 ((clash a b).2.1.2).d] := t26
  have s27_5 : get a5 27 = Value.bool ((clash a b).2.2) := t27
  obtain ⟨b5, s5_5, lo_b5, hbb5_5⟩ := t5
  have nb_x1_b5 := SlT.old hsx1_3 lo_b5
  have nb_x2_b5 := SlT.old hsx2_3 lo_b5
  have fr_b5 : w0.heap.size ≤ b5 := Nat.le_trans hE_3.size' lo_b5
  obtain ⟨b6, s6_5, lo_b6, hbb6_5⟩ := t6
  have nb_x1_b6 := SlT.old hsx1_3 lo_b6
  have nb_x2_b6 := SlT.old hsx2_3 lo_b6
  have fr_b6 : w0.heap.size ≤ b6 := Nat.le_trans hE_3.size' lo_b6
  obtain ⟨u0, ⟨u1, _⟩⟩ := hU
  have ne_b5_b6 : b5 ≠ b6 := fun e => u0 6 (by decide) (by rw [s5_5, s6_5, e])
  clear hE_3 hN_3 hD_3 s0_3 s1_3 s20_3 hsx1_3 hsx2_3
  refine tail_none rfl rfl (does_storeD (o := 0) (n := 8) (cs' := [w32 ((clash a b).1.1).a, w32 ((clash a b).1.1).b, w32 ((clash a b).1.1).c, w32 ((clash a b).1.1).d, w32 ((clash a b).1.2).a, w32 ((clash a b).1.2).b, w32 ((clash a b).1.2).c, w32 ((clash a b).1.2).d]) (V := Value.agg #[w32 ((clash a b).1.1).a, w32 ((clash a b).1.1).b, w32 ((clash a b).1.1).c, w32 ((clash a b).1.1).d, w32 ((clash a b).1.2).a, w32 ((clash a b).1.2).b, w32 ((clash a b).1.2).c, w32 ((clash a b).1.2).d]) s5_5 s25_5 hbb5_5 (Nat.le_of_ble_eq_true rfl) rfl siz_32 rfl rfl (fun wd6 hX hz hbb5_6 => ?_))
  have hE_6 := hE_5.since hX (fun k e => e ▸ fr_b5)
  have hbb6_6 := hbb6_5.ext hX ne_b5_b6.symm
  have hsx1_6 := SlT.over hsx1_5 hX nb_x1_b5
  have hsx2_6 := SlT.over hsx2_5 hX nb_x2_b5
  clear hX hz hE_5 hbb5_5 hbb6_5 hsx1_5 hsx2_5
  refine tail_none rfl rfl (does_storeD (o := 0) (n := 8) (cs' := [w32 ((clash a b).2.1.1).a, w32 ((clash a b).2.1.1).b, w32 ((clash a b).2.1.1).c, w32 ((clash a b).2.1.1).d, w32 ((clash a b).2.1.2).a, w32 ((clash a b).2.1.2).b, w32 ((clash a b).2.1.2).c, w32 ((clash a b).2.1.2).d]) (V := Value.agg #[w32 ((clash a b).2.1.1).a, w32 ((clash a b).2.1.1).b, w32 ((clash a b).2.1.1).c, w32 ((clash a b).2.1.1).d, w32 ((clash a b).2.1.2).a, w32 ((clash a b).2.1.2).b, w32 ((clash a b).2.1.2).c, w32 ((clash a b).2.1.2).d]) s6_5 s26_5 hbb6_6 (Nat.le_of_ble_eq_true rfl) rfl siz_32 rfl rfl (fun wd7 hX hz hbb6_7 => ?_))
  have hE_7 := hE_6.since hX (fun k e => e ▸ fr_b6)
  have hbb5_7 := hbb5_6.ext hX ne_b5_b6
  have hsx1_7 := SlT.over hsx1_6 hX nb_x1_b6
  have hsx2_7 := SlT.over hsx2_6 hX nb_x2_b6
  clear hX hz hE_6 hbb5_6 hbb6_6 hsx1_6 hsx2_6
  refine tail_put rfl rfl hN_5 hD_5 (by decide) (does_assign (V := Value.bool ((clash a b).2.2)) s27_5 (fun a8 hN_8 hD_8 hv hO => ?_))
  have s7_8 := hv
  have s0_8 := (hO 0 rfl).trans s0_5
  have s1_8 := (hO 1 rfl).trans s1_5
  have s5_8 := (hO 5 rfl).trans s5_5
  have s6_8 := (hO 6 rfl).trans s6_5
  clear hO hv hN_5 hD_5 s0_5 s1_5 s5_5 s6_5 s25_5 s26_5 s27_5
  refine tail_nil ?_
  refine wp_seq ?_
  refine region_lex [8, 9] [(29, Pr.ex (x1)), (30, Pr.ex (x2)), (31, Pr.ex (Value.tuple #[Value.agg #[w32 ((clash a b).1.1).a, w32 ((clash a b).1.1).b, w32 ((clash a b).1.1).c, w32 ((clash a b).1.1).d, w32 ((clash a b).1.2).a, w32 ((clash a b).1.2).b, w32 ((clash a b).1.2).c, w32 ((clash a b).1.2).d], Value.agg #[w32 ((clash a b).2.1.1).a, w32 ((clash a b).2.1.1).b, w32 ((clash a b).2.1.1).c, w32 ((clash a b).2.1.1).d, w32 ((clash a b).2.1.2).a, w32 ((clash a b).2.1.2).b, w32 ((clash a b).2.1.2).c, w32 ((clash a b).2.1.2).d], Value.bool ((clash a b).2.2)])), (28, Pr.ex (Value.tuple #[Value.agg #[w32 ((clash a b).1.1).a, w32 ((clash a b).1.1).b, w32 ((clash a b).1.1).c, w32 ((clash a b).1.1).d, w32 ((clash a b).1.2).a, w32 ((clash a b).1.2).b, w32 ((clash a b).1.2).c, w32 ((clash a b).1.2).d], Value.agg #[w32 ((clash a b).2.1.1).a, w32 ((clash a b).2.1.1).b, w32 ((clash a b).2.1.1).c, w32 ((clash a b).2.1.1).d, w32 ((clash a b).2.1.2).a, w32 ((clash a b).2.1.2).b, w32 ((clash a b).2.1.2).c, w32 ((clash a b).2.1.2).d], Value.bool ((clash a b).2.2)])), (32, Pr.ex (Value.agg #[w32 ((clash a b).1.1).a, w32 ((clash a b).1.1).b, w32 ((clash a b).1.1).c, w32 ((clash a b).1.1).d, w32 ((clash a b).1.2).a, w32 ((clash a b).1.2).b, w32 ((clash a b).1.2).c, w32 ((clash a b).1.2).d])), (33, Pr.ex (Value.agg #[w32 ((clash a b).2.1.1).a, w32 ((clash a b).2.1.1).b, w32 ((clash a b).2.1.1).c, w32 ((clash a b).2.1.1).d, w32 ((clash a b).2.1.2).a, w32 ((clash a b).2.1.2).b, w32 ((clash a b).2.1.2).c, w32 ((clash a b).2.1.2).d])), (34, Pr.ex (Value.bool ((clash a b).2.2))), (8, Pr.box' wd7.heap.size 32 [w32 (Dg.zero).a, w32 (Dg.zero).b, w32 (Dg.zero).c, w32 (Dg.zero).d, w32 (Dg.zero).a, w32 (Dg.zero).b, w32 (Dg.zero).c, w32 (Dg.zero).d]), (9, Pr.box' wd7.heap.size 32 [w32 (Dg.zero).a, w32 (Dg.zero).b, w32 (Dg.zero).c, w32 (Dg.zero).d, w32 (Dg.zero).a, w32 (Dg.zero).b, w32 (Dg.zero).c, w32 (Dg.zero).d])] 9 hN_8 hD_8 (by kernel_rfl) (by kernel_rfl) ?_ ?_
  · refine Asks.cons ?_ (Asks.cons ?_ (Asks.cons ?_ (Asks.cons ?_ (Asks.cons ?_ (Asks.cons ?_ (Asks.cons ?_ (Asks.cons ?_ (Asks.cons ?_ (Asks.zero _)))))))))
    · refine Ask.plain rfl rfl ?_
      intro aq wq hNq hO hR hT
      exact does_move (V := x1) ((hO 0 rfl).trans s0_8) ⟨Ext.refl _, rfl⟩
    · refine Ask.plain rfl rfl ?_
      intro aq wq hNq hO hR hT
      exact does_move (V := x2) ((hO 1 rfl).trans s1_8) ⟨Ext.refl _, rfl⟩
    · refine Ask.plain rfl rfl ?_
      intro aq wq hNq hO hR hT
      exact does_ret (vs := #[x1, x2]) call_14 (args2 (hT 29 rfl rfl) (hT 30 rfl rfl)) rfl ((clashR a b (x1) (x2) wq ((hsx1_7.ext' hR).wide (Nat.zero_le _) (.inl rfl)) ((hsx2_7.ext' hR).wide (Nat.zero_le _) (.inl rfl)) (by omega) (by omega)).mono fun v w2 h => ⟨h.2, h.1⟩)
    · refine Ask.plain rfl rfl ?_
      intro aq wq hNq hO hR hT
      exact does_move (V := Value.tuple #[Value.agg #[w32 ((clash a b).1.1).a, w32 ((clash a b).1.1).b, w32 ((clash a b).1.1).c, w32 ((clash a b).1.1).d, w32 ((clash a b).1.2).a, w32 ((clash a b).1.2).b, w32 ((clash a b).1.2).c, w32 ((clash a b).1.2).d], Value.agg #[w32 ((clash a b).2.1.1).a, w32 ((clash a b).2.1.1).b, w32 ((clash a b).2.1.1).c, w32 ((clash a b).2.1.1).d, w32 ((clash a b).2.1.2).a, w32 ((clash a b).2.1.2).b, w32 ((clash a b).2.1.2).c, w32 ((clash a b).2.1.2).d], Value.bool ((clash a b).2.2)]) (hT 31 rfl rfl) ⟨Ext.refl _, rfl⟩
    · refine Ask.plain rfl rfl ?_
      intro aq wq hNq hO hR hT
      exact does_extract (V := Value.agg #[w32 ((clash a b).1.1).a, w32 ((clash a b).1.1).b, w32 ((clash a b).1.1).c, w32 ((clash a b).1.1).d, w32 ((clash a b).1.2).a, w32 ((clash a b).1.2).b, w32 ((clash a b).1.2).c, w32 ((clash a b).1.2).d]) (hT 28 rfl rfl) rfl ⟨Ext.refl _, rfl⟩
    · refine Ask.plain rfl rfl ?_
      intro aq wq hNq hO hR hT
      exact does_extract (V := Value.agg #[w32 ((clash a b).2.1.1).a, w32 ((clash a b).2.1.1).b, w32 ((clash a b).2.1.1).c, w32 ((clash a b).2.1.1).d, w32 ((clash a b).2.1.2).a, w32 ((clash a b).2.1.2).b, w32 ((clash a b).2.1.2).c, w32 ((clash a b).2.1.2).d]) (hT 28 rfl rfl) rfl ⟨Ext.refl _, rfl⟩
    · refine Ask.plain rfl rfl ?_
      intro aq wq hNq hO hR hT
      exact does_extract (V := Value.bool ((clash a b).2.2)) (hT 28 rfl rfl) rfl ⟨Ext.refl _, rfl⟩
    · refine Ask.fresh rfl rfl ?_
      intro aq wq hNq hO hR hT
      exact does_alloc zero_32 (fun b w2 he hlo hb => ⟨he, ⟨b, rfl, Nat.le_trans hR.size' hlo, hb⟩, ⟨b, rfl, hlo, hb.lt⟩⟩)
    · refine Ask.fresh rfl rfl ?_
      intro aq wq hNq hO hR hT
      exact does_alloc zero_32 (fun b w2 he hlo hb => ⟨he, ⟨b, rfl, Nat.le_trans hR.size' hlo, hb⟩, ⟨b, rfl, hlo, hb.lt⟩⟩)
  intro a9 wd9 hN_9 hD_9 hO hR hA hU
  obtain ⟨_, _, _, _, t32, t33, t34, t8, t9, _⟩ := hA
  have hE_9 := hE_7.trans hR
  have s0_9 := (hO 0 rfl).trans s0_8
  have s1_9 := (hO 1 rfl).trans s1_8
  have s5_9 := (hO 5 rfl).trans s5_8
  have s6_9 := (hO 6 rfl).trans s6_8
  have s7_9 := (hO 7 rfl).trans s7_8
  have hbb5_9 := hbb5_7.ext' hR
  have hbb6_9 := hbb6_7.ext' hR
  have hsx1_9 := hsx1_7.ext' hR
  have hsx2_9 := hsx2_7.ext' hR
  have s32_9 : get a9 32 = Value.agg #[w32 ((clash a b).1.1).a, w32 ((clash a b).1.1).b, w32 ((clash a b).1.1).c, w32 ((clash a b).1.1).d, w32 ((clash a b).1.2).a, w32 ((clash a b).1.2).b, w32 ((clash a b).1.2).c, w32 ((clash a b).1.2).d] := t32
  have s33_9 : get a9 33 = Value.agg #[w32 ((clash a b).2.1.1).a, w32 ((clash a b).2.1.1).b, w32 ((clash a b).2.1.1).c, w32 ((clash a b).2.1.1).d, w32 ((clash a b).2.1.2).a, w32 ((clash a b).2.1.2).b, w32 ((clash a b).2.1.2).c, w32 ((clash a b).2.1.2).d] := t33
  have s34_9 : get a9 34 = Value.bool ((clash a b).2.2) := t34
  obtain ⟨b8, s8_9, lo_b8, hbb8_9⟩ := t8
  have ne_b5_b8 : b5 ≠ b8 := fun e => Nat.lt_irrefl _ (Nat.lt_of_lt_of_le hbb5_7.lt (e ▸ lo_b8))
  have ne_b6_b8 : b6 ≠ b8 := fun e => Nat.lt_irrefl _ (Nat.lt_of_lt_of_le hbb6_7.lt (e ▸ lo_b8))
  have nb_x1_b8 := SlT.old hsx1_7 lo_b8
  have nb_x2_b8 := SlT.old hsx2_7 lo_b8
  have fr_b8 : w0.heap.size ≤ b8 := Nat.le_trans hE_7.size' lo_b8
  obtain ⟨b9, s9_9, lo_b9, hbb9_9⟩ := t9
  have ne_b5_b9 : b5 ≠ b9 := fun e => Nat.lt_irrefl _ (Nat.lt_of_lt_of_le hbb5_7.lt (e ▸ lo_b9))
  have ne_b6_b9 : b6 ≠ b9 := fun e => Nat.lt_irrefl _ (Nat.lt_of_lt_of_le hbb6_7.lt (e ▸ lo_b9))
  have nb_x1_b9 := SlT.old hsx1_7 lo_b9
  have nb_x2_b9 := SlT.old hsx2_7 lo_b9
  have fr_b9 : w0.heap.size ≤ b9 := Nat.le_trans hE_7.size' lo_b9
  obtain ⟨u0, ⟨u1, _⟩⟩ := hU
  have ne_b8_b9 : b8 ≠ b9 := fun e => u0 9 (by decide) (by rw [s8_9, s9_9, e])
  clear hE_7 hN_8 hD_8 s0_8 s1_8 s5_8 s6_8 s7_8 hbb5_7 hbb6_7 hsx1_7 hsx2_7
  refine tail_none rfl rfl (does_storeD (o := 0) (n := 8) (cs' := [w32 ((clash a b).1.1).a, w32 ((clash a b).1.1).b, w32 ((clash a b).1.1).c, w32 ((clash a b).1.1).d, w32 ((clash a b).1.2).a, w32 ((clash a b).1.2).b, w32 ((clash a b).1.2).c, w32 ((clash a b).1.2).d]) (V := Value.agg #[w32 ((clash a b).1.1).a, w32 ((clash a b).1.1).b, w32 ((clash a b).1.1).c, w32 ((clash a b).1.1).d, w32 ((clash a b).1.2).a, w32 ((clash a b).1.2).b, w32 ((clash a b).1.2).c, w32 ((clash a b).1.2).d]) s8_9 s32_9 hbb8_9 (Nat.le_of_ble_eq_true rfl) rfl siz_32 rfl rfl (fun wd10 hX hz hbb8_10 => ?_))
  have hE_10 := hE_9.since hX (fun k e => e ▸ fr_b8)
  have hbb5_10 := hbb5_9.ext hX ne_b5_b8
  have hbb6_10 := hbb6_9.ext hX ne_b6_b8
  have hbb9_10 := hbb9_9.ext hX ne_b8_b9.symm
  have hsx1_10 := SlT.over hsx1_9 hX nb_x1_b8
  have hsx2_10 := SlT.over hsx2_9 hX nb_x2_b8
  clear hX hz hE_9 hbb5_9 hbb6_9 hbb8_9 hbb9_9 hsx1_9 hsx2_9
  refine tail_none rfl rfl (does_storeD (o := 0) (n := 8) (cs' := [w32 ((clash a b).2.1.1).a, w32 ((clash a b).2.1.1).b, w32 ((clash a b).2.1.1).c, w32 ((clash a b).2.1.1).d, w32 ((clash a b).2.1.2).a, w32 ((clash a b).2.1.2).b, w32 ((clash a b).2.1.2).c, w32 ((clash a b).2.1.2).d]) (V := Value.agg #[w32 ((clash a b).2.1.1).a, w32 ((clash a b).2.1.1).b, w32 ((clash a b).2.1.1).c, w32 ((clash a b).2.1.1).d, w32 ((clash a b).2.1.2).a, w32 ((clash a b).2.1.2).b, w32 ((clash a b).2.1.2).c, w32 ((clash a b).2.1.2).d]) s9_9 s33_9 hbb9_10 (Nat.le_of_ble_eq_true rfl) rfl siz_32 rfl rfl (fun wd11 hX hz hbb9_11 => ?_))
  have hE_11 := hE_10.since hX (fun k e => e ▸ fr_b9)
  have hbb5_11 := hbb5_10.ext hX ne_b5_b9
  have hbb6_11 := hbb6_10.ext hX ne_b6_b9
  have hbb8_11 := hbb8_10.ext hX ne_b8_b9
  have hsx1_11 := SlT.over hsx1_10 hX nb_x1_b9
  have hsx2_11 := SlT.over hsx2_10 hX nb_x2_b9
  clear hX hz hE_10 hbb5_10 hbb6_10 hbb8_10 hbb9_10 hsx1_10 hsx2_10
  refine tail_put rfl rfl hN_9 hD_9 (by decide) (does_assign (V := Value.bool ((clash a b).2.2)) s34_9 (fun a12 hN_12 hD_12 hv hO => ?_))
  have s10_12 := hv
  have s0_12 := (hO 0 rfl).trans s0_9
  have s1_12 := (hO 1 rfl).trans s1_9
  have s5_12 := (hO 5 rfl).trans s5_9
  have s6_12 := (hO 6 rfl).trans s6_9
  have s7_12 := (hO 7 rfl).trans s7_9
  have s8_12 := (hO 8 rfl).trans s8_9
  have s9_12 := (hO 9 rfl).trans s9_9
  clear hO hv hN_9 hD_9 s0_9 s1_9 s5_9 s6_9 s7_9 s8_9 s9_9 s32_9 s33_9 s34_9
  refine tail_nil ?_
  refine wp_seq ?_
  refine wp_seq ?_
  refine region_lex [] [(35, Pr.ex (Value.agg #[w32 ((clash a b).1.1).a, w32 ((clash a b).1.1).b, w32 ((clash a b).1.1).c, w32 ((clash a b).1.1).d, w32 ((clash a b).1.2).a, w32 ((clash a b).1.2).b, w32 ((clash a b).1.2).c, w32 ((clash a b).1.2).d])), (36, Pr.ex (Value.agg #[w32 ((clash a b).1.1).a, w32 ((clash a b).1.1).b, w32 ((clash a b).1.1).c, w32 ((clash a b).1.1).d, w32 ((clash a b).1.2).a, w32 ((clash a b).1.2).b, w32 ((clash a b).1.2).c, w32 ((clash a b).1.2).d])), (37, Pr.ex (Value.bool (!decide ((((clash a b).1.1, (clash a b).1.2) : Two) = (((clash a b).1.1, (clash a b).1.2) : Two))))), (38, Pr.ex (Value.bool (!decide ((((clash a b).1.1, (clash a b).1.2) : Two) = (((clash a b).1.1, (clash a b).1.2) : Two))))), (39, Pr.ifb (!(!decide ((((clash a b).1.1, (clash a b).1.2) : Two) = (((clash a b).1.1, (clash a b).1.2) : Two)))) (Pr.ex (Value.agg #[w32 ((clash a b).2.1.1).a, w32 ((clash a b).2.1.1).b, w32 ((clash a b).2.1.1).c, w32 ((clash a b).2.1.1).d, w32 ((clash a b).2.1.2).a, w32 ((clash a b).2.1.2).b, w32 ((clash a b).2.1.2).c, w32 ((clash a b).2.1.2).d]))), (40, Pr.ifb (!(!decide ((((clash a b).1.1, (clash a b).1.2) : Two) = (((clash a b).1.1, (clash a b).1.2) : Two)))) (Pr.ex (Value.agg #[w32 ((clash a b).2.1.1).a, w32 ((clash a b).2.1.1).b, w32 ((clash a b).2.1.1).c, w32 ((clash a b).2.1.1).d, w32 ((clash a b).2.1.2).a, w32 ((clash a b).2.1.2).b, w32 ((clash a b).2.1.2).c, w32 ((clash a b).2.1.2).d]))), (41, Pr.ifb (!(!decide ((((clash a b).1.1, (clash a b).1.2) : Two) = (((clash a b).1.1, (clash a b).1.2) : Two)))) (Pr.ex (Value.bool (!decide ((((clash a b).2.1.1, (clash a b).2.1.2) : Two) = (((clash a b).2.1.1, (clash a b).2.1.2) : Two)))))), (42, Pr.ex (Value.bool ((!decide ((((clash a b).1.1, (clash a b).1.2) : Two) = (((clash a b).1.1, (clash a b).1.2) : Two))) || (!decide ((((clash a b).2.1.1, (clash a b).2.1.2) : Two) = (((clash a b).2.1.1, (clash a b).2.1.2) : Two)))))), (43, Pr.ex (Value.bool ((!decide ((((clash a b).1.1, (clash a b).1.2) : Two) = (((clash a b).1.1, (clash a b).1.2) : Two))) || (!decide ((((clash a b).2.1.1, (clash a b).2.1.2) : Two) = (((clash a b).2.1.1, (clash a b).2.1.2) : Two)))))), (44, Pr.ifb (!((!decide ((((clash a b).1.1, (clash a b).1.2) : Two) = (((clash a b).1.1, (clash a b).1.2) : Two))) || (!decide ((((clash a b).2.1.1, (clash a b).2.1.2) : Two) = (((clash a b).2.1.1, (clash a b).2.1.2) : Two))))) (Pr.ex (Value.bool ((clash a b).2.2)))), (45, Pr.ifb (!((!decide ((((clash a b).1.1, (clash a b).1.2) : Two) = (((clash a b).1.1, (clash a b).1.2) : Two))) || (!decide ((((clash a b).2.1.1, (clash a b).2.1.2) : Two) = (((clash a b).2.1.1, (clash a b).2.1.2) : Two))))) (Pr.ex (Value.bool ((clash a b).2.2)))), (46, Pr.ifb (!((!decide ((((clash a b).1.1, (clash a b).1.2) : Two) = (((clash a b).1.1, (clash a b).1.2) : Two))) || (!decide ((((clash a b).2.1.1, (clash a b).2.1.2) : Two) = (((clash a b).2.1.1, (clash a b).2.1.2) : Two))))) (Pr.ex (Value.bool (!(((clash a b).2.2) == ((clash a b).2.2)))))), (47, Pr.ex (Value.bool (((!decide ((((clash a b).1.1, (clash a b).1.2) : Two) = (((clash a b).1.1, (clash a b).1.2) : Two))) || (!decide ((((clash a b).2.1.1, (clash a b).2.1.2) : Two) = (((clash a b).2.1.1, (clash a b).2.1.2) : Two)))) || (!(((clash a b).2.2) == ((clash a b).2.2))))))] 13 hN_12 hD_12 (by kernel_rfl) (by kernel_rfl) ?_ ?_
  · refine Asks.cons ?_ (Asks.cons ?_ (Asks.cons ?_ (Asks.cons ?_ (Asks.cons ?_ (Asks.cons ?_ (Asks.cons ?_ (Asks.cons ?_ (Asks.cons ?_ (Asks.cons ?_ (Asks.cons ?_ (Asks.cons ?_ (Asks.cons ?_ (Asks.zero _)))))))))))))
    · refine Ask.plain rfl rfl ?_
      intro aq wq hNq hO hR hT
      exact does_loadD (o := 0) (n := 8) (mid := [w32 ((clash a b).1.1).a, w32 ((clash a b).1.1).b, w32 ((clash a b).1.1).c, w32 ((clash a b).1.1).d, w32 ((clash a b).1.2).a, w32 ((clash a b).1.2).b, w32 ((clash a b).1.2).c, w32 ((clash a b).1.2).d]) ((hO 5 rfl).trans s5_12) (hbb5_11.ext' hR) rfl rfl (Nat.le_of_ble_eq_true rfl) row_32 rfl ⟨Ext.refl _, rfl⟩
    · refine Ask.plain rfl rfl ?_
      intro aq wq hNq hO hR hT
      exact does_loadD (o := 0) (n := 8) (mid := [w32 ((clash a b).1.1).a, w32 ((clash a b).1.1).b, w32 ((clash a b).1.1).c, w32 ((clash a b).1.1).d, w32 ((clash a b).1.2).a, w32 ((clash a b).1.2).b, w32 ((clash a b).1.2).c, w32 ((clash a b).1.2).d]) ((hO 8 rfl).trans s8_12) (hbb8_11.ext' hR) rfl rfl (Nat.le_of_ble_eq_true rfl) row_32 rfl ⟨Ext.refl _, rfl⟩
    · refine Ask.plain rfl rfl ?_
      intro aq wq hNq hO hR hT
      exact does_neT (a := (((clash a b).1.1, (clash a b).1.2) : Two)) (b := (((clash a b).1.1, (clash a b).1.2) : Two)) eq_32 (hT 35 rfl rfl) (hT 36 rfl rfl) ⟨Ext.refl _, rfl⟩
    · refine Ask.plain rfl rfl ?_
      intro aq wq hNq hO hR hT
      exact does_move (V := Value.bool (!decide ((((clash a b).1.1, (clash a b).1.2) : Two) = (((clash a b).1.1, (clash a b).1.2) : Two)))) (hT 37 rfl rfl) ⟨Ext.refl _, rfl⟩
    · refine Ask.guarded (B := !decide ((((clash a b).1.1, (clash a b).1.2) : Two) = (((clash a b).1.1, (clash a b).1.2) : Two))) (want := false) (t := 38) rfl rfl rfl rfl (by decide) (fun aq wq hO hR hT => hT 38 rfl rfl) (fun hG aq wq hNq hO hR hT => ?_) (fun hno _ => fun hc => absurd (bn hc) hno)
      replace hG := nb hG
      exact does_loadD (o := 0) (n := 8) (mid := [w32 ((clash a b).2.1.1).a, w32 ((clash a b).2.1.1).b, w32 ((clash a b).2.1.1).c, w32 ((clash a b).2.1.1).d, w32 ((clash a b).2.1.2).a, w32 ((clash a b).2.1.2).b, w32 ((clash a b).2.1.2).c, w32 ((clash a b).2.1.2).d]) ((hO 6 rfl).trans s6_12) (hbb6_11.ext' hR) rfl rfl (Nat.le_of_ble_eq_true rfl) row_32 rfl ⟨Ext.refl _, fun _ => rfl⟩
    · refine Ask.guarded (B := !decide ((((clash a b).1.1, (clash a b).1.2) : Two) = (((clash a b).1.1, (clash a b).1.2) : Two))) (want := false) (t := 38) rfl rfl rfl rfl (by decide) (fun aq wq hO hR hT => hT 38 rfl rfl) (fun hG aq wq hNq hO hR hT => ?_) (fun hno _ => fun hc => absurd (bn hc) hno)
      replace hG := nb hG
      exact does_loadD (o := 0) (n := 8) (mid := [w32 ((clash a b).2.1.1).a, w32 ((clash a b).2.1.1).b, w32 ((clash a b).2.1.1).c, w32 ((clash a b).2.1.1).d, w32 ((clash a b).2.1.2).a, w32 ((clash a b).2.1.2).b, w32 ((clash a b).2.1.2).c, w32 ((clash a b).2.1.2).d]) ((hO 9 rfl).trans s9_12) (hbb9_11.ext' hR) rfl rfl (Nat.le_of_ble_eq_true rfl) row_32 rfl ⟨Ext.refl _, fun _ => rfl⟩
    · refine Ask.guarded (B := !decide ((((clash a b).1.1, (clash a b).1.2) : Two) = (((clash a b).1.1, (clash a b).1.2) : Two))) (want := false) (t := 38) rfl rfl rfl rfl (by decide) (fun aq wq hO hR hT => hT 38 rfl rfl) (fun hG aq wq hNq hO hR hT => ?_) (fun hno _ => fun hc => absurd (bn hc) hno)
      replace hG := nb hG
      exact does_neT (a := (((clash a b).2.1.1, (clash a b).2.1.2) : Two)) (b := (((clash a b).2.1.1, (clash a b).2.1.2) : Two)) eq_32 (hT 39 rfl rfl hG) (hT 40 rfl rfl hG) ⟨Ext.refl _, fun _ => rfl⟩
    · refine Ask.plain rfl rfl ?_
      intro aq wq hNq hO hR hT
      exact does_or (B := !decide ((((clash a b).1.1, (clash a b).1.2) : Two) = (((clash a b).1.1, (clash a b).1.2) : Two))) (X := !decide ((((clash a b).2.1.1, (clash a b).2.1.2) : Two) = (((clash a b).2.1.1, (clash a b).2.1.2) : Two))) (hT 38 rfl rfl) rfl (fun hB => (hT 41 rfl rfl (nb hB))) ⟨Ext.refl _, rfl⟩
    · refine Ask.plain rfl rfl ?_
      intro aq wq hNq hO hR hT
      exact does_move (V := Value.bool ((!decide ((((clash a b).1.1, (clash a b).1.2) : Two) = (((clash a b).1.1, (clash a b).1.2) : Two))) || (!decide ((((clash a b).2.1.1, (clash a b).2.1.2) : Two) = (((clash a b).2.1.1, (clash a b).2.1.2) : Two))))) (hT 42 rfl rfl) ⟨Ext.refl _, rfl⟩
    · refine Ask.guarded (B := (!decide ((((clash a b).1.1, (clash a b).1.2) : Two) = (((clash a b).1.1, (clash a b).1.2) : Two))) || (!decide ((((clash a b).2.1.1, (clash a b).2.1.2) : Two) = (((clash a b).2.1.1, (clash a b).2.1.2) : Two)))) (want := false) (t := 43) rfl rfl rfl rfl (by decide) (fun aq wq hO hR hT => hT 43 rfl rfl) (fun hG aq wq hNq hO hR hT => ?_) (fun hno _ => fun hc => absurd (bn hc) hno)
      replace hG := nb hG
      exact does_move (V := Value.bool ((clash a b).2.2)) ((hO 7 rfl).trans s7_12) ⟨Ext.refl _, fun _ => rfl⟩
    · refine Ask.guarded (B := (!decide ((((clash a b).1.1, (clash a b).1.2) : Two) = (((clash a b).1.1, (clash a b).1.2) : Two))) || (!decide ((((clash a b).2.1.1, (clash a b).2.1.2) : Two) = (((clash a b).2.1.1, (clash a b).2.1.2) : Two)))) (want := false) (t := 43) rfl rfl rfl rfl (by decide) (fun aq wq hO hR hT => hT 43 rfl rfl) (fun hG aq wq hNq hO hR hT => ?_) (fun hno _ => fun hc => absurd (bn hc) hno)
      replace hG := nb hG
      exact does_move (V := Value.bool ((clash a b).2.2)) ((hO 10 rfl).trans s10_12) ⟨Ext.refl _, fun _ => rfl⟩
    · refine Ask.guarded (B := (!decide ((((clash a b).1.1, (clash a b).1.2) : Two) = (((clash a b).1.1, (clash a b).1.2) : Two))) || (!decide ((((clash a b).2.1.1, (clash a b).2.1.2) : Two) = (((clash a b).2.1.1, (clash a b).2.1.2) : Two)))) (want := false) (t := 43) rfl rfl rfl rfl (by decide) (fun aq wq hO hR hT => hT 43 rfl rfl) (fun hG aq wq hNq hO hR hT => ?_) (fun hno _ => fun hc => absurd (bn hc) hno)
      replace hG := nb hG
      exact does_neB Tryd.underlying4 (hT 44 rfl rfl hG) (hT 45 rfl rfl hG) ⟨Ext.refl _, fun _ => rfl⟩
    · refine Ask.plain rfl rfl ?_
      intro aq wq hNq hO hR hT
      exact does_or (B := (!decide ((((clash a b).1.1, (clash a b).1.2) : Two) = (((clash a b).1.1, (clash a b).1.2) : Two))) || (!decide ((((clash a b).2.1.1, (clash a b).2.1.2) : Two) = (((clash a b).2.1.1, (clash a b).2.1.2) : Two)))) (X := !(((clash a b).2.2) == ((clash a b).2.2))) (hT 43 rfl rfl) rfl (fun hB => (hT 46 rfl rfl (nb hB))) ⟨Ext.refl _, rfl⟩
  intro a13 wd13 hN_13 hD_13 hO hR hA hU
  obtain ⟨_, _, _, _, _, _, _, _, _, _, _, _, t47, _⟩ := hA
  have hE_13 := hE_11.trans hR
  have s0_13 := (hO 0 rfl).trans s0_12
  have s1_13 := (hO 1 rfl).trans s1_12
  have s5_13 := (hO 5 rfl).trans s5_12
  have s6_13 := (hO 6 rfl).trans s6_12
  have s7_13 := (hO 7 rfl).trans s7_12
  have hbb5_13 := hbb5_11.ext' hR
  have hbb6_13 := hbb6_11.ext' hR
  have hbb8_13 := hbb8_11.ext' hR
  have hbb9_13 := hbb9_11.ext' hR
  have hsx1_13 := hsx1_11.ext' hR
  have hsx2_13 := hsx2_11.ext' hR
  have s47_13 : get a13 47 = Value.bool (((!decide ((((clash a b).1.1, (clash a b).1.2) : Two) = (((clash a b).1.1, (clash a b).1.2) : Two))) || (!decide ((((clash a b).2.1.1, (clash a b).2.1.2) : Two) = (((clash a b).2.1.1, (clash a b).2.1.2) : Two)))) || (!(((clash a b).2.2) == ((clash a b).2.2)))) := t47
  clear hE_11 hN_12 hD_12 s0_12 s1_12 s5_12 s6_12 s7_12 s8_12 s9_12 s10_12 hbb5_11 hbb6_11 hbb8_11 hbb9_11 hsx1_11 hsx2_11
  refine tail_nil ?_
  refine wp_if (B := ((!decide ((((clash a b).1.1, (clash a b).1.2) : Two) = (((clash a b).1.1, (clash a b).1.2) : Two))) || (!decide ((((clash a b).2.1.1, (clash a b).2.1.2) : Two) = (((clash a b).2.1.1, (clash a b).2.1.2) : Two)))) || (!(((clash a b).2.2) == ((clash a b).2.2)))) s47_13 (fun hc1 => ?_) (fun hc1 => ?_)
  · -- T 1
    simp at hc1
  refine wp_skip ?_
  refine wp_seq ?_
  refine wp_seq ?_
  refine region_lex [] [(48, Pr.ex (x1)), (49, Pr.ex (x2)), (50, Pr.ex (Value.bool (decide (a = b)))), (51, Pr.ex (Value.bool (decide (a = b)))), (52, Pr.ifb (!(decide (a = b))) (Pr.ex (x1))), (53, Pr.ifb (!(decide (a = b))) (Pr.ex (i64 ((a.length : Nat) : Int)))), (54, Pr.ifb (!(decide (a = b))) (Pr.ex (x2))), (55, Pr.ifb (!(decide (a = b))) (Pr.ex (i64 ((b.length : Nat) : Int)))), (56, Pr.ifb (!(decide (a = b))) (Pr.ex (Value.bool (!decide (((a.length : Nat) : Int) = ((b.length : Nat) : Int)))))), (57, Pr.ex (Value.bool ((decide (a = b)) || (!decide (((a.length : Nat) : Int) = ((b.length : Nat) : Int))))))] 10 hN_13 hD_13 (by kernel_rfl) (by kernel_rfl) ?_ ?_
  · refine Asks.cons ?_ (Asks.cons ?_ (Asks.cons ?_ (Asks.cons ?_ (Asks.cons ?_ (Asks.cons ?_ (Asks.cons ?_ (Asks.cons ?_ (Asks.cons ?_ (Asks.cons ?_ (Asks.zero _))))))))))
    · refine Ask.plain rfl rfl ?_
      intro aq wq hNq hO hR hT
      exact does_move (V := x1) ((hO 0 rfl).trans s0_13) ⟨Ext.refl _, rfl⟩
    · refine Ask.plain rfl rfl ?_
      intro aq wq hNq hO hR hT
      exact does_move (V := x2) ((hO 1 rfl).trans s1_13) ⟨Ext.refl _, rfl⟩
    · refine Ask.plain rfl rfl ?_
      intro aq wq hNq hO hR hT
      exact does_ret (vs := #[x1, x2]) call_15 (args2 (hT 48 rfl rfl) (hT 49 rfl rfl)) rfl ((same_ (a) (b) (x1) (x2) wq ((hsx1_13.ext' hR).wide (Nat.zero_le _) (.inl rfl)) ((hsx2_13.ext' hR).wide (Nat.zero_le _) (.inl rfl)) (by omega)).mono fun v w2 h => ⟨h.2, h.1⟩)
    · refine Ask.plain rfl rfl ?_
      intro aq wq hNq hO hR hT
      exact does_move (V := Value.bool (decide (a = b))) (hT 50 rfl rfl) ⟨Ext.refl _, rfl⟩
    · refine Ask.guarded (B := decide (a = b)) (want := false) (t := 51) rfl rfl rfl rfl (by decide) (fun aq wq hO hR hT => hT 51 rfl rfl) (fun hG aq wq hNq hO hR hT => ?_) (fun hno _ => fun hc => absurd (bn hc) hno)
      replace hG := nb hG
      exact does_move (V := x1) ((hO 0 rfl).trans s0_13) ⟨Ext.refl _, fun _ => rfl⟩
    · refine Ask.guarded (B := decide (a = b)) (want := false) (t := 51) rfl rfl rfl rfl (by decide) (fun aq wq hO hR hT => hT 51 rfl rfl) (fun hG aq wq hNq hO hR hT => ?_) (fun hno _ => fun hc => absurd (bn hc) hno)
      replace hG := nb hG
      exact does_len (T := DG) (xs := a) sli_27 (SlT.at (hT 52 rfl rfl hG) (hsx1_13.ext' hR)) ⟨Ext.refl _, fun _ => rfl⟩
    · refine Ask.guarded (B := decide (a = b)) (want := false) (t := 51) rfl rfl rfl rfl (by decide) (fun aq wq hO hR hT => hT 51 rfl rfl) (fun hG aq wq hNq hO hR hT => ?_) (fun hno _ => fun hc => absurd (bn hc) hno)
      replace hG := nb hG
      exact does_move (V := x2) ((hO 1 rfl).trans s1_13) ⟨Ext.refl _, fun _ => rfl⟩
    · refine Ask.guarded (B := decide (a = b)) (want := false) (t := 51) rfl rfl rfl rfl (by decide) (fun aq wq hO hR hT => hT 51 rfl rfl) (fun hG aq wq hNq hO hR hT => ?_) (fun hno _ => fun hc => absurd (bn hc) hno)
      replace hG := nb hG
      exact does_len (T := DG) (xs := b) sli_27 (SlT.at (hT 54 rfl rfl hG) (hsx2_13.ext' hR)) ⟨Ext.refl _, fun _ => rfl⟩
    · refine Ask.guarded (B := decide (a = b)) (want := false) (t := 51) rfl rfl rfl rfl (by decide) (fun aq wq hO hR hT => hT 51 rfl rfl) (fun hG aq wq hNq hO hR hT => ?_) (fun hno _ => fun hc => absurd (bn hc) hno)
      replace hG := nb hG
      exact does_neq (a := ((a.length : Nat) : Int)) (b := ((b.length : Nat) : Int)) (hT 53 rfl rfl hG) (hT 55 rfl rfl hG) ⟨Ext.refl _, fun _ => rfl⟩
    · refine Ask.plain rfl rfl ?_
      intro aq wq hNq hO hR hT
      exact does_or (B := decide (a = b)) (X := !decide (((a.length : Nat) : Int) = ((b.length : Nat) : Int))) (hT 51 rfl rfl) rfl (fun hB => (hT 56 rfl rfl (nb hB))) ⟨Ext.refl _, rfl⟩
  intro a14 wd14 hN_14 hD_14 hO hR hA hU
  obtain ⟨_, _, _, _, _, _, _, _, _, t57, _⟩ := hA
  have hE_14 := hE_13.trans hR
  have s0_14 := (hO 0 rfl).trans s0_13
  have s1_14 := (hO 1 rfl).trans s1_13
  have s5_14 := (hO 5 rfl).trans s5_13
  have s6_14 := (hO 6 rfl).trans s6_13
  have s7_14 := (hO 7 rfl).trans s7_13
  have hbb5_14 := hbb5_13.ext' hR
  have hbb6_14 := hbb6_13.ext' hR
  have hbb8_14 := hbb8_13.ext' hR
  have hbb9_14 := hbb9_13.ext' hR
  have hsx1_14 := hsx1_13.ext' hR
  have hsx2_14 := hsx2_13.ext' hR
  have s57_14 : get a14 57 = Value.bool ((decide (a = b)) || (!decide (((a.length : Nat) : Int) = ((b.length : Nat) : Int)))) := t57
  clear hE_13 hN_13 hD_13 s0_13 s1_13 s5_13 s6_13 s7_13 s47_13 hbb5_13 hbb6_13 hbb8_13 hbb9_13 hsx1_13 hsx2_13
  refine tail_nil ?_
  refine wp_if (B := (decide (a = b)) || (!decide (((a.length : Nat) : Int) = ((b.length : Nat) : Int)))) s57_14 (fun hc2 => ?_) (fun hc2 => ?_)
  · -- T 2
    refine wp_seq ?_
    refine region_lex [] [(58, Pr.ex (Value.bool ((clash a b).2.2))), (59, Pr.ex (Value.bool (!((clash a b).2.2)))), (4, Pr.ex (Value.bool (!((clash a b).2.2))))] 3 hN_14 hD_14 (by kernel_rfl) (by kernel_rfl) ?_ ?_
    · refine Asks.cons ?_ (Asks.cons ?_ (Asks.cons ?_ (Asks.zero _)))
      · refine Ask.plain rfl rfl ?_
        intro aq wq hNq hO hR hT
        exact does_move (V := Value.bool ((clash a b).2.2)) ((hO 7 rfl).trans s7_14) ⟨Ext.refl _, rfl⟩
      · refine Ask.plain rfl rfl ?_
        intro aq wq hNq hO hR hT
        exact does_not (B := (clash a b).2.2) (hT 58 rfl rfl) ⟨Ext.refl _, rfl⟩
      · refine Ask.plain rfl rfl ?_
        intro aq wq hNq hO hR hT
        exact does_assign (V := Value.bool (!((clash a b).2.2))) (hT 59 rfl rfl) ⟨Ext.refl _, rfl⟩
    intro a15 wd15 hN_15 hD_15 hO hR hA hU
    obtain ⟨_, _, t4, _⟩ := hA
    have hE_15 := hE_14.trans hR
    have hbb5_15 := hbb5_14.ext' hR
    have hbb6_15 := hbb6_14.ext' hR
    have hbb8_15 := hbb8_14.ext' hR
    have hbb9_15 := hbb9_14.ext' hR
    have hsx1_15 := hsx1_14.ext' hR
    have hsx2_15 := hsx2_14.ext' hR
    have s4_15 : get a15 4 = Value.bool (!((clash a b).2.2)) := t4
    clear hE_14 hN_14 hD_14 s0_14 s1_14 s5_14 s6_14 s7_14 s57_14 hbb5_14 hbb6_14 hbb8_14 hbb9_14 hsx1_14 hsx2_14
    refine tail_nil ?_
    refine wp_ret ?_
    refine res_one (V := Value.bool (!((clash a b).2.2))) rfl hD_15 s4_15 ?_
    exact ⟨congrArg Value.bool (clashes_no hc2), hE_15⟩
  refine wp_skip ?_
  refine wp_seq ?_
  refine region_any [] [(60, Pr.ex (Value.bool ((clash a b).2.2))), (61, Pr.ex (x1)), (62, Pr.ex (Dg.val (root a))), (63, Pr.ex (x2)), (64, Pr.ex (Dg.val (root b))), (65, Pr.ex (Value.bool (decide (root a = root b)))), (66, Pr.ex (Value.bool ((((clash a b).2.2) == (decide (root a = root b)))))), (67, Pr.ex (Value.bool ((((clash a b).2.2) == (decide (root a = root b)))))), (68, Pr.ifb ((((clash a b).2.2) == (decide (root a = root b)))) (Pr.ex (Value.bool ((clash a b).2.2)))), (69, Pr.ifb ((((clash a b).2.2) == (decide (root a = root b)))) (Pr.ex (Value.bool (!((clash a b).2.2))))), (70, Pr.ifu ((((clash a b).2.2) == (decide (root a = root b)))) (Pr.ex (Value.bool (!((clash a b).2.2))))), (71, Pr.ifb (((((clash a b).2.2) == (decide (root a = root b)))) && (!(!((clash a b).2.2)))) (Pr.ex (Value.agg #[w32 ((clash a b).1.1).a, w32 ((clash a b).1.1).b, w32 ((clash a b).1.1).c, w32 ((clash a b).1.1).d, w32 ((clash a b).1.2).a, w32 ((clash a b).1.2).b, w32 ((clash a b).1.2).c, w32 ((clash a b).1.2).d]))), (72, Pr.ifb (((((clash a b).2.2) == (decide (root a = root b)))) && (!(!((clash a b).2.2)))) (Pr.ex (Value.agg #[w32 ((clash a b).2.1.1).a, w32 ((clash a b).2.1.1).b, w32 ((clash a b).2.1.1).c, w32 ((clash a b).2.1.1).d, w32 ((clash a b).2.1.2).a, w32 ((clash a b).2.1.2).b, w32 ((clash a b).2.1.2).c, w32 ((clash a b).2.1.2).d]))), (73, Pr.ifb (((((clash a b).2.2) == (decide (root a = root b)))) && (!(!((clash a b).2.2)))) (Pr.ex (Value.bool (!decide ((((clash a b).1.1, (clash a b).1.2) : Two) = (((clash a b).2.1.1, (clash a b).2.1.2) : Two)))))), (74, Pr.ifu (((((clash a b).2.2) == (decide (root a = root b)))) && (!(!((clash a b).2.2)))) (Pr.ex (Value.bool (!decide ((((clash a b).1.1, (clash a b).1.2) : Two) = (((clash a b).2.1.1, (clash a b).2.1.2) : Two)))))), (75, Pr.ifb ((((((clash a b).2.2) == (decide (root a = root b)))) && (!(!((clash a b).2.2)))) && (!decide ((((clash a b).1.1, (clash a b).1.2) : Two) = (((clash a b).2.1.1, (clash a b).2.1.2) : Two)))) (Pr.ex (Value.pointer (some ⟨b5, 0, none⟩)))), (76, Pr.ifb ((((((clash a b).2.2) == (decide (root a = root b)))) && (!(!((clash a b).2.2)))) && (!decide ((((clash a b).1.1, (clash a b).1.2) : Two) = (((clash a b).2.1.1, (clash a b).2.1.2) : Two)))) (Pr.ex (Dg.val ((clash a b).1.1)))), (77, Pr.ifb ((((((clash a b).2.2) == (decide (root a = root b)))) && (!(!((clash a b).2.2)))) && (!decide ((((clash a b).1.1, (clash a b).1.2) : Two) = (((clash a b).2.1.1, (clash a b).2.1.2) : Two)))) (Pr.ex (Value.pointer (some ⟨b5, 4, none⟩)))), (78, Pr.ifb ((((((clash a b).2.2) == (decide (root a = root b)))) && (!(!((clash a b).2.2)))) && (!decide ((((clash a b).1.1, (clash a b).1.2) : Two) = (((clash a b).2.1.1, (clash a b).2.1.2) : Two)))) (Pr.ex (Dg.val ((clash a b).1.2)))), (79, Pr.ifb ((((((clash a b).2.2) == (decide (root a = root b)))) && (!(!((clash a b).2.2)))) && (!decide ((((clash a b).1.1, (clash a b).1.2) : Two) = (((clash a b).2.1.1, (clash a b).2.1.2) : Two)))) (Pr.ex (Dg.val (pair ((clash a b).1.1) ((clash a b).1.2))))), (80, Pr.ifb ((((((clash a b).2.2) == (decide (root a = root b)))) && (!(!((clash a b).2.2)))) && (!decide ((((clash a b).1.1, (clash a b).1.2) : Two) = (((clash a b).2.1.1, (clash a b).2.1.2) : Two)))) (Pr.ex (Value.pointer (some ⟨b6, 0, none⟩)))), (81, Pr.ifb ((((((clash a b).2.2) == (decide (root a = root b)))) && (!(!((clash a b).2.2)))) && (!decide ((((clash a b).1.1, (clash a b).1.2) : Two) = (((clash a b).2.1.1, (clash a b).2.1.2) : Two)))) (Pr.ex (Dg.val ((clash a b).2.1.1)))), (82, Pr.ifb ((((((clash a b).2.2) == (decide (root a = root b)))) && (!(!((clash a b).2.2)))) && (!decide ((((clash a b).1.1, (clash a b).1.2) : Two) = (((clash a b).2.1.1, (clash a b).2.1.2) : Two)))) (Pr.ex (Value.pointer (some ⟨b6, 4, none⟩)))), (83, Pr.ifb ((((((clash a b).2.2) == (decide (root a = root b)))) && (!(!((clash a b).2.2)))) && (!decide ((((clash a b).1.1, (clash a b).1.2) : Two) = (((clash a b).2.1.1, (clash a b).2.1.2) : Two)))) (Pr.ex (Dg.val ((clash a b).2.1.2)))), (84, Pr.ifb ((((((clash a b).2.2) == (decide (root a = root b)))) && (!(!((clash a b).2.2)))) && (!decide ((((clash a b).1.1, (clash a b).1.2) : Two) = (((clash a b).2.1.1, (clash a b).2.1.2) : Two)))) (Pr.ex (Dg.val (pair ((clash a b).2.1.1) ((clash a b).2.1.2))))), (85, Pr.ifb ((((((clash a b).2.2) == (decide (root a = root b)))) && (!(!((clash a b).2.2)))) && (!decide ((((clash a b).1.1, (clash a b).1.2) : Two) = (((clash a b).2.1.1, (clash a b).2.1.2) : Two)))) (Pr.ex (Value.bool (decide (pair ((clash a b).1.1) ((clash a b).1.2) = pair ((clash a b).2.1.1) ((clash a b).2.1.2)))))), (86, Pr.ifb (((((clash a b).2.2) == (decide (root a = root b)))) && (!(!((clash a b).2.2)))) (Pr.ex (Value.bool ((!decide ((((clash a b).1.1, (clash a b).1.2) : Two) = (((clash a b).2.1.1, (clash a b).2.1.2) : Two))) && (decide (pair ((clash a b).1.1) ((clash a b).1.2) = pair ((clash a b).2.1.1) ((clash a b).2.1.2))))))), (87, Pr.ifb ((((clash a b).2.2) == (decide (root a = root b)))) (Pr.ex (Value.bool ((!((clash a b).2.2)) || ((!decide ((((clash a b).1.1, (clash a b).1.2) : Two) = (((clash a b).2.1.1, (clash a b).2.1.2) : Two))) && (decide (pair ((clash a b).1.1) ((clash a b).1.2) = pair ((clash a b).2.1.1) ((clash a b).2.1.2)))))))), (88, Pr.ex (Value.bool (((((clash a b).2.2) == (decide (root a = root b)))) && ((!((clash a b).2.2)) || ((!decide ((((clash a b).1.1, (clash a b).1.2) : Two) = (((clash a b).2.1.1, (clash a b).2.1.2) : Two))) && (decide (pair ((clash a b).1.1) ((clash a b).1.2) = pair ((clash a b).2.1.1) ((clash a b).2.1.2)))))))), (4, Pr.ex (Value.bool (((((clash a b).2.2) == (decide (root a = root b)))) && ((!((clash a b).2.2)) || ((!decide ((((clash a b).1.1, (clash a b).1.2) : Two) = (((clash a b).2.1.1, (clash a b).2.1.2) : Two))) && (decide (pair ((clash a b).1.1) ((clash a b).1.2) = pair ((clash a b).2.1.1) ((clash a b).2.1.2))))))))] 30 mixed hN_14 hD_14 (by kernel_rfl) (by kernel_rfl) (by kernel_rfl) ?_ ?_
  · refine Asks.cons ?_ (Asks.cons ?_ (Asks.cons ?_ (Asks.cons ?_ (Asks.cons ?_ (Asks.cons ?_ (Asks.cons ?_ (Asks.cons ?_ (Asks.cons ?_ (Asks.cons ?_ (Asks.cons ?_ (Asks.cons ?_ (Asks.cons ?_ (Asks.cons ?_ (Asks.cons ?_ (Asks.cons ?_ (Asks.cons ?_ (Asks.cons ?_ (Asks.cons ?_ (Asks.cons ?_ (Asks.cons ?_ (Asks.cons ?_ (Asks.cons ?_ (Asks.cons ?_ (Asks.cons ?_ (Asks.cons ?_ (Asks.cons ?_ (Asks.cons ?_ (Asks.cons ?_ (Asks.cons ?_ (Asks.zero _))))))))))))))))))))))))))))))
    · refine Ask.plain rfl rfl ?_
      intro aq wq hNq hO hR hT
      replace hR := (Ext.drew _).trans hR
      exact does_move (V := Value.bool ((clash a b).2.2)) ((hO 7 rfl).trans s7_14) ⟨Ext.refl _, rfl⟩
    · refine Ask.plain rfl rfl ?_
      intro aq wq hNq hO hR hT
      replace hR := (Ext.drew _).trans hR
      exact does_move (V := x1) ((hO 0 rfl).trans s0_14) ⟨Ext.refl _, rfl⟩
    · refine Ask.plain rfl rfl ?_
      intro aq wq hNq hO hR hT
      replace hR := (Ext.drew _).trans hR
      exact does_ret (vs := #[x1]) call_16 (args1 (hT 61 rfl rfl)) rfl ((root_ (a) (x1) wq (hL.ext (hE_14.trans hR)) ((hsx1_14.ext' hR).wide (Nat.zero_le _) (.inl rfl)) (by omega)).mono fun v w2 h => ⟨h.2, h.1⟩)
    · refine Ask.plain rfl rfl ?_
      intro aq wq hNq hO hR hT
      replace hR := (Ext.drew _).trans hR
      exact does_move (V := x2) ((hO 1 rfl).trans s1_14) ⟨Ext.refl _, rfl⟩
    · refine Ask.plain rfl rfl ?_
      intro aq wq hNq hO hR hT
      replace hR := (Ext.drew _).trans hR
      exact does_ret (vs := #[x2]) call_16 (args1 (hT 63 rfl rfl)) rfl ((root_ (b) (x2) wq (hL.ext (hE_14.trans hR)) ((hsx2_14.ext' hR).wide (Nat.zero_le _) (.inl rfl)) (by omega)).mono fun v w2 h => ⟨h.2, h.1⟩)
    · refine Ask.plain rfl rfl ?_
      intro aq wq hNq hO hR hT
      replace hR := (Ext.drew _).trans hR
      exact does_eqT (a := root a) (b := root b) eq_24 (hT 62 rfl rfl) (hT 64 rfl rfl) ⟨Ext.refl _, rfl⟩
    · refine Ask.plain rfl rfl ?_
      intro aq wq hNq hO hR hT
      replace hR := (Ext.drew _).trans hR
      exact does_eqB Tryd.underlying4 (hT 60 rfl rfl) (hT 65 rfl rfl) ⟨Ext.refl _, rfl⟩
    · refine Ask.plain rfl rfl ?_
      intro aq wq hNq hO hR hT
      replace hR := (Ext.drew _).trans hR
      exact does_move (V := Value.bool ((((clash a b).2.2) == (decide (root a = root b))))) (hT 66 rfl rfl) ⟨Ext.refl _, rfl⟩
    · refine Ask.guarded (B := (((clash a b).2.2) == (decide (root a = root b)))) (want := true) (t := 67) rfl rfl rfl rfl (by decide) (fun aq wq hO hR hT => hT 67 rfl rfl) (fun hG aq wq hNq hO hR hT => ?_) (fun hno _ => fun hc => absurd hc hno)
      replace hR := (Ext.drew _).trans hR
      exact does_move (V := Value.bool ((clash a b).2.2)) ((hO 7 rfl).trans s7_14) ⟨Ext.refl _, fun _ => rfl⟩
    · refine Ask.guarded (B := (((clash a b).2.2) == (decide (root a = root b)))) (want := true) (t := 67) rfl rfl rfl rfl (by decide) (fun aq wq hO hR hT => hT 67 rfl rfl) (fun hG aq wq hNq hO hR hT => ?_) (fun hno _ => fun hc => absurd hc hno)
      replace hR := (Ext.drew _).trans hR
      exact does_not (B := (clash a b).2.2) (hT 68 rfl rfl hG) ⟨Ext.refl _, fun _ => rfl⟩
    · refine Ask.guarded (B := (((clash a b).2.2) == (decide (root a = root b)))) (want := true) (t := 67) rfl rfl rfl rfl (by decide) (fun aq wq hO hR hT => hT 67 rfl rfl) (fun hG aq wq hNq hO hR hT => ?_) (fun hno _ => ⟨fun hc => absurd hc hno, fun _ => rfl⟩)
      replace hR := (Ext.drew _).trans hR
      exact does_move (V := Value.bool (!((clash a b).2.2))) (hT 69 rfl rfl hG) ⟨Ext.refl _, fun _ => rfl, fun hc => (by rw [hG] at hc; cases hc)⟩
    · refine Ask.guarded2 (C := (((clash a b).2.2) == (decide (root a = root b)))) (B := !((clash a b).2.2)) (want := false) (t := 70) rfl rfl rfl rfl (by decide) (fun aq wq hO hR hT => hT 70 rfl rfl) (fun hC hG aq wq hNq hO hR hT => ?_) (fun hno _ => fun hc => absurd ⟨andl hc, bn (andr hc)⟩ hno)
      replace hG := andi hC (nb hG)
      replace hR := (Ext.drew _).trans hR
      exact does_loadD (o := 0) (n := 8) (mid := [w32 ((clash a b).1.1).a, w32 ((clash a b).1.1).b, w32 ((clash a b).1.1).c, w32 ((clash a b).1.1).d, w32 ((clash a b).1.2).a, w32 ((clash a b).1.2).b, w32 ((clash a b).1.2).c, w32 ((clash a b).1.2).d]) ((hO 5 rfl).trans s5_14) (hbb5_14.ext' hR) rfl rfl (Nat.le_of_ble_eq_true rfl) row_32 rfl ⟨Ext.refl _, fun _ => rfl⟩
    · refine Ask.guarded2 (C := (((clash a b).2.2) == (decide (root a = root b)))) (B := !((clash a b).2.2)) (want := false) (t := 70) rfl rfl rfl rfl (by decide) (fun aq wq hO hR hT => hT 70 rfl rfl) (fun hC hG aq wq hNq hO hR hT => ?_) (fun hno _ => fun hc => absurd ⟨andl hc, bn (andr hc)⟩ hno)
      replace hG := andi hC (nb hG)
      replace hR := (Ext.drew _).trans hR
      exact does_loadD (o := 0) (n := 8) (mid := [w32 ((clash a b).2.1.1).a, w32 ((clash a b).2.1.1).b, w32 ((clash a b).2.1.1).c, w32 ((clash a b).2.1.1).d, w32 ((clash a b).2.1.2).a, w32 ((clash a b).2.1.2).b, w32 ((clash a b).2.1.2).c, w32 ((clash a b).2.1.2).d]) ((hO 6 rfl).trans s6_14) (hbb6_14.ext' hR) rfl rfl (Nat.le_of_ble_eq_true rfl) row_32 rfl ⟨Ext.refl _, fun _ => rfl⟩
    · refine Ask.guarded2 (C := (((clash a b).2.2) == (decide (root a = root b)))) (B := !((clash a b).2.2)) (want := false) (t := 70) rfl rfl rfl rfl (by decide) (fun aq wq hO hR hT => hT 70 rfl rfl) (fun hC hG aq wq hNq hO hR hT => ?_) (fun hno _ => fun hc => absurd ⟨andl hc, bn (andr hc)⟩ hno)
      replace hG := andi hC (nb hG)
      replace hR := (Ext.drew _).trans hR
      exact does_neT (a := (((clash a b).1.1, (clash a b).1.2) : Two)) (b := (((clash a b).2.1.1, (clash a b).2.1.2) : Two)) eq_32 (hT 71 rfl rfl hG) (hT 72 rfl rfl hG) ⟨Ext.refl _, fun _ => rfl⟩
    · refine Ask.guarded2 (C := (((clash a b).2.2) == (decide (root a = root b)))) (B := !((clash a b).2.2)) (want := false) (t := 70) rfl rfl rfl rfl (by decide) (fun aq wq hO hR hT => hT 70 rfl rfl) (fun hC hG aq wq hNq hO hR hT => ?_) (fun hno _ => ⟨fun hc => absurd ⟨andl hc, bn (andr hc)⟩ hno, fun _ => rfl⟩)
      replace hG := andi hC (nb hG)
      replace hR := (Ext.drew _).trans hR
      exact does_move (V := Value.bool (!decide ((((clash a b).1.1, (clash a b).1.2) : Two) = (((clash a b).2.1.1, (clash a b).2.1.2) : Two)))) (hT 73 rfl rfl hG) ⟨Ext.refl _, fun _ => rfl, fun hc => (by rw [hG] at hc; cases hc)⟩
    · refine Ask.guarded2 (C := ((((clash a b).2.2) == (decide (root a = root b)))) && (!(!((clash a b).2.2)))) (B := !decide ((((clash a b).1.1, (clash a b).1.2) : Two) = (((clash a b).2.1.1, (clash a b).2.1.2) : Two))) (want := true) (t := 74) rfl rfl rfl rfl (by decide) (fun aq wq hO hR hT => hT 74 rfl rfl) (fun hC hG aq wq hNq hO hR hT => ?_) (fun hno _ => fun hc => absurd ⟨andl hc, andr hc⟩ hno)
      replace hG := andi hC hG
      replace hR := (Ext.drew _).trans hR
      exact does_indexArr (k := .i64) (i := 0) (o' := 0) arr_32 ((hO 5 rfl).trans s5_14) rfl (by decide) (by decide) rfl ⟨Ext.refl _, fun _ => rfl⟩
    · refine Ask.guarded2 (C := ((((clash a b).2.2) == (decide (root a = root b)))) && (!(!((clash a b).2.2)))) (B := !decide ((((clash a b).1.1, (clash a b).1.2) : Two) = (((clash a b).2.1.1, (clash a b).2.1.2) : Two))) (want := true) (t := 74) rfl rfl rfl rfl (by decide) (fun aq wq hO hR hT => hT 74 rfl rfl) (fun hC hG aq wq hNq hO hR hT => ?_) (fun hno _ => fun hc => absurd ⟨andl hc, andr hc⟩ hno)
      replace hG := andi hC hG
      replace hR := (Ext.drew _).trans hR
      exact does_loadD (o := 0) (n := 4) (mid := [w32 ((clash a b).1.1).a, w32 ((clash a b).1.1).b, w32 ((clash a b).1.1).c, w32 ((clash a b).1.1).d]) (hT 75 rfl rfl hG) (hbb5_14.ext' hR) rfl rfl (Nat.le_of_ble_eq_true rfl) row_24 rfl ⟨Ext.refl _, fun _ => rfl⟩
    · refine Ask.guarded2 (C := ((((clash a b).2.2) == (decide (root a = root b)))) && (!(!((clash a b).2.2)))) (B := !decide ((((clash a b).1.1, (clash a b).1.2) : Two) = (((clash a b).2.1.1, (clash a b).2.1.2) : Two))) (want := true) (t := 74) rfl rfl rfl rfl (by decide) (fun aq wq hO hR hT => hT 74 rfl rfl) (fun hC hG aq wq hNq hO hR hT => ?_) (fun hno _ => fun hc => absurd ⟨andl hc, andr hc⟩ hno)
      replace hG := andi hC hG
      replace hR := (Ext.drew _).trans hR
      exact does_indexArr (k := .i64) (i := 1) (o' := 4) arr_32 ((hO 5 rfl).trans s5_14) rfl (by decide) (by decide) rfl ⟨Ext.refl _, fun _ => rfl⟩
    · refine Ask.guarded2 (C := ((((clash a b).2.2) == (decide (root a = root b)))) && (!(!((clash a b).2.2)))) (B := !decide ((((clash a b).1.1, (clash a b).1.2) : Two) = (((clash a b).2.1.1, (clash a b).2.1.2) : Two))) (want := true) (t := 74) rfl rfl rfl rfl (by decide) (fun aq wq hO hR hT => hT 74 rfl rfl) (fun hC hG aq wq hNq hO hR hT => ?_) (fun hno _ => fun hc => absurd ⟨andl hc, andr hc⟩ hno)
      replace hG := andi hC hG
      replace hR := (Ext.drew _).trans hR
      exact does_loadD (o := 4) (n := 4) (mid := [w32 ((clash a b).1.2).a, w32 ((clash a b).1.2).b, w32 ((clash a b).1.2).c, w32 ((clash a b).1.2).d]) (hT 77 rfl rfl hG) (hbb5_14.ext' hR) rfl rfl (Nat.le_of_ble_eq_true rfl) row_24 rfl ⟨Ext.refl _, fun _ => rfl⟩
    · refine Ask.guarded2 (C := ((((clash a b).2.2) == (decide (root a = root b)))) && (!(!((clash a b).2.2)))) (B := !decide ((((clash a b).1.1, (clash a b).1.2) : Two) = (((clash a b).2.1.1, (clash a b).2.1.2) : Two))) (want := true) (t := 74) rfl rfl rfl rfl (by decide) (fun aq wq hO hR hT => hT 74 rfl rfl) (fun hC hG aq wq hNq hO hR hT => ?_) (fun hno _ => fun hc => absurd ⟨andl hc, andr hc⟩ hno)
      replace hG := andi hC hG
      replace hR := (Ext.drew _).trans hR
      exact does_ret (vs := #[Dg.val ((clash a b).1.1), Dg.val ((clash a b).1.2)]) call_17 (args2 (hT 76 rfl rfl hG) (hT 78 rfl rfl hG)) rfl ((pairR ((clash a b).1.1) ((clash a b).1.2) wq).mono fun v w2 h => ⟨h.2, fun _ => h.1⟩)
    · refine Ask.guarded2 (C := ((((clash a b).2.2) == (decide (root a = root b)))) && (!(!((clash a b).2.2)))) (B := !decide ((((clash a b).1.1, (clash a b).1.2) : Two) = (((clash a b).2.1.1, (clash a b).2.1.2) : Two))) (want := true) (t := 74) rfl rfl rfl rfl (by decide) (fun aq wq hO hR hT => hT 74 rfl rfl) (fun hC hG aq wq hNq hO hR hT => ?_) (fun hno _ => fun hc => absurd ⟨andl hc, andr hc⟩ hno)
      replace hG := andi hC hG
      replace hR := (Ext.drew _).trans hR
      exact does_indexArr (k := .i64) (i := 0) (o' := 0) arr_32 ((hO 6 rfl).trans s6_14) rfl (by decide) (by decide) rfl ⟨Ext.refl _, fun _ => rfl⟩
    · refine Ask.guarded2 (C := ((((clash a b).2.2) == (decide (root a = root b)))) && (!(!((clash a b).2.2)))) (B := !decide ((((clash a b).1.1, (clash a b).1.2) : Two) = (((clash a b).2.1.1, (clash a b).2.1.2) : Two))) (want := true) (t := 74) rfl rfl rfl rfl (by decide) (fun aq wq hO hR hT => hT 74 rfl rfl) (fun hC hG aq wq hNq hO hR hT => ?_) (fun hno _ => fun hc => absurd ⟨andl hc, andr hc⟩ hno)
      replace hG := andi hC hG
      replace hR := (Ext.drew _).trans hR
      exact does_loadD (o := 0) (n := 4) (mid := [w32 ((clash a b).2.1.1).a, w32 ((clash a b).2.1.1).b, w32 ((clash a b).2.1.1).c, w32 ((clash a b).2.1.1).d]) (hT 80 rfl rfl hG) (hbb6_14.ext' hR) rfl rfl (Nat.le_of_ble_eq_true rfl) row_24 rfl ⟨Ext.refl _, fun _ => rfl⟩
    · refine Ask.guarded2 (C := ((((clash a b).2.2) == (decide (root a = root b)))) && (!(!((clash a b).2.2)))) (B := !decide ((((clash a b).1.1, (clash a b).1.2) : Two) = (((clash a b).2.1.1, (clash a b).2.1.2) : Two))) (want := true) (t := 74) rfl rfl rfl rfl (by decide) (fun aq wq hO hR hT => hT 74 rfl rfl) (fun hC hG aq wq hNq hO hR hT => ?_) (fun hno _ => fun hc => absurd ⟨andl hc, andr hc⟩ hno)
      replace hG := andi hC hG
      replace hR := (Ext.drew _).trans hR
      exact does_indexArr (k := .i64) (i := 1) (o' := 4) arr_32 ((hO 6 rfl).trans s6_14) rfl (by decide) (by decide) rfl ⟨Ext.refl _, fun _ => rfl⟩
    · refine Ask.guarded2 (C := ((((clash a b).2.2) == (decide (root a = root b)))) && (!(!((clash a b).2.2)))) (B := !decide ((((clash a b).1.1, (clash a b).1.2) : Two) = (((clash a b).2.1.1, (clash a b).2.1.2) : Two))) (want := true) (t := 74) rfl rfl rfl rfl (by decide) (fun aq wq hO hR hT => hT 74 rfl rfl) (fun hC hG aq wq hNq hO hR hT => ?_) (fun hno _ => fun hc => absurd ⟨andl hc, andr hc⟩ hno)
      replace hG := andi hC hG
      replace hR := (Ext.drew _).trans hR
      exact does_loadD (o := 4) (n := 4) (mid := [w32 ((clash a b).2.1.2).a, w32 ((clash a b).2.1.2).b, w32 ((clash a b).2.1.2).c, w32 ((clash a b).2.1.2).d]) (hT 82 rfl rfl hG) (hbb6_14.ext' hR) rfl rfl (Nat.le_of_ble_eq_true rfl) row_24 rfl ⟨Ext.refl _, fun _ => rfl⟩
    · refine Ask.guarded2 (C := ((((clash a b).2.2) == (decide (root a = root b)))) && (!(!((clash a b).2.2)))) (B := !decide ((((clash a b).1.1, (clash a b).1.2) : Two) = (((clash a b).2.1.1, (clash a b).2.1.2) : Two))) (want := true) (t := 74) rfl rfl rfl rfl (by decide) (fun aq wq hO hR hT => hT 74 rfl rfl) (fun hC hG aq wq hNq hO hR hT => ?_) (fun hno _ => fun hc => absurd ⟨andl hc, andr hc⟩ hno)
      replace hG := andi hC hG
      replace hR := (Ext.drew _).trans hR
      exact does_ret (vs := #[Dg.val ((clash a b).2.1.1), Dg.val ((clash a b).2.1.2)]) call_17 (args2 (hT 81 rfl rfl hG) (hT 83 rfl rfl hG)) rfl ((pairR ((clash a b).2.1.1) ((clash a b).2.1.2) wq).mono fun v w2 h => ⟨h.2, fun _ => h.1⟩)
    · refine Ask.guarded2 (C := ((((clash a b).2.2) == (decide (root a = root b)))) && (!(!((clash a b).2.2)))) (B := !decide ((((clash a b).1.1, (clash a b).1.2) : Two) = (((clash a b).2.1.1, (clash a b).2.1.2) : Two))) (want := true) (t := 74) rfl rfl rfl rfl (by decide) (fun aq wq hO hR hT => hT 74 rfl rfl) (fun hC hG aq wq hNq hO hR hT => ?_) (fun hno _ => fun hc => absurd ⟨andl hc, andr hc⟩ hno)
      replace hG := andi hC hG
      replace hR := (Ext.drew _).trans hR
      exact does_eqT (a := pair ((clash a b).1.1) ((clash a b).1.2)) (b := pair ((clash a b).2.1.1) ((clash a b).2.1.2)) eq_24 (hT 79 rfl rfl hG) (hT 84 rfl rfl hG) ⟨Ext.refl _, fun _ => rfl⟩
    · refine Ask.guarded2 (C := (((clash a b).2.2) == (decide (root a = root b)))) (B := !((clash a b).2.2)) (want := false) (t := 70) rfl rfl rfl rfl (by decide) (fun aq wq hO hR hT => hT 70 rfl rfl) (fun hC hG aq wq hNq hO hR hT => ?_) (fun hno _ => fun hc => absurd ⟨andl hc, bn (andr hc)⟩ hno)
      replace hG := andi hC (nb hG)
      replace hR := (Ext.drew _).trans hR
      exact does_and (B := !decide ((((clash a b).1.1, (clash a b).1.2) : Two) = (((clash a b).2.1.1, (clash a b).2.1.2) : Two))) (X := decide (pair ((clash a b).1.1) ((clash a b).1.2) = pair ((clash a b).2.1.1) ((clash a b).2.1.2))) (And.left (hT 74 rfl rfl) hG) (fun hB => (hT 85 rfl rfl (andi hG hB))) rfl ⟨Ext.refl _, fun _ => rfl⟩
    · refine Ask.guarded (B := (((clash a b).2.2) == (decide (root a = root b)))) (want := true) (t := 67) rfl rfl rfl rfl (by decide) (fun aq wq hO hR hT => hT 67 rfl rfl) (fun hG aq wq hNq hO hR hT => ?_) (fun hno _ => fun hc => absurd hc hno)
      replace hR := (Ext.drew _).trans hR
      exact does_or (B := !((clash a b).2.2)) (X := (!decide ((((clash a b).1.1, (clash a b).1.2) : Two) = (((clash a b).2.1.1, (clash a b).2.1.2) : Two))) && (decide (pair ((clash a b).1.1) ((clash a b).1.2) = pair ((clash a b).2.1.1) ((clash a b).2.1.2)))) (And.left (hT 70 rfl rfl) hG) rfl (fun hB => (hT 86 rfl rfl (andi hG (nb hB)))) ⟨Ext.refl _, fun _ => rfl⟩
    · refine Ask.plain rfl rfl ?_
      intro aq wq hNq hO hR hT
      replace hR := (Ext.drew _).trans hR
      exact does_and (B := (((clash a b).2.2) == (decide (root a = root b)))) (X := (!((clash a b).2.2)) || ((!decide ((((clash a b).1.1, (clash a b).1.2) : Two) = (((clash a b).2.1.1, (clash a b).2.1.2) : Two))) && (decide (pair ((clash a b).1.1) ((clash a b).1.2) = pair ((clash a b).2.1.1) ((clash a b).2.1.2))))) (hT 67 rfl rfl) (fun hB => (hT 87 rfl rfl hB)) rfl ⟨Ext.refl _, rfl⟩
    · refine Ask.plain rfl rfl ?_
      intro aq wq hNq hO hR hT
      replace hR := (Ext.drew _).trans hR
      exact does_assign (V := Value.bool (((((clash a b).2.2) == (decide (root a = root b)))) && ((!((clash a b).2.2)) || ((!decide ((((clash a b).1.1, (clash a b).1.2) : Two) = (((clash a b).2.1.1, (clash a b).2.1.2) : Two))) && (decide (pair ((clash a b).1.1) ((clash a b).1.2) = pair ((clash a b).2.1.1) ((clash a b).2.1.2))))))) (hT 88 rfl rfl) ⟨Ext.refl _, rfl⟩
  intro a16 wd16 hN_16 hD_16 hO hR hA hU
  obtain ⟨_, _, _, _, _, _, _, _, _, _, _, _, _, _, _, _, _, _, _, _, _, _, _, _, _, _, _, _, _, t4, _⟩ := hA
  have hE_16 := hE_14.trans hR
  have hbb5_16 := hbb5_14.ext' hR
  have hbb6_16 := hbb6_14.ext' hR
  have hbb8_16 := hbb8_14.ext' hR
  have hbb9_16 := hbb9_14.ext' hR
  have hsx1_16 := hsx1_14.ext' hR
  have hsx2_16 := hsx2_14.ext' hR
  have s4_16 : get a16 4 = Value.bool (((((clash a b).2.2) == (decide (root a = root b)))) && ((!((clash a b).2.2)) || ((!decide ((((clash a b).1.1, (clash a b).1.2) : Two) = (((clash a b).2.1.1, (clash a b).2.1.2) : Two))) && (decide (pair ((clash a b).1.1) ((clash a b).1.2) = pair ((clash a b).2.1.1) ((clash a b).2.1.2)))))) := t4
  clear hE_14 hN_14 hD_14 s0_14 s1_14 s5_14 s6_14 s7_14 s57_14 hbb5_14 hbb6_14 hbb8_14 hbb9_14 hsx1_14 hsx2_14
  refine tail_nil ?_
  refine wp_ret ?_
  refine res_one (V := Value.bool (((((clash a b).2.2) == (decide (root a = root b)))) && ((!((clash a b).2.2)) || ((!decide ((((clash a b).1.1, (clash a b).1.2) : Two) = (((clash a b).2.1.1, (clash a b).2.1.2) : Two))) && (decide (pair ((clash a b).1.1) ((clash a b).1.2) = pair ((clash a b).2.1.1) ((clash a b).2.1.2))))))) rfl hD_16 s4_16 ?_
  exact ⟨congrArg Value.bool (clashes_law hc2), hE_16⟩

end Go.Proofs.YtncamojfjhbanaaDoor
