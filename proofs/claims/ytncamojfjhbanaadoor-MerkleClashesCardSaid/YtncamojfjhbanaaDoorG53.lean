/- The walks of functions of the program: printed. -/
import Derived.Test.YtncamojfjhbanaaDoorK
import Derived.Test.YtncamojfjhbanaaDoorG3
import Derived.Test.YtncamojfjhbanaaDoorG7
import Derived.Test.YtncamojfjhbanaaDoorG13
import Derived.Test.YtncamojfjhbanaaDoorF0
set_option maxRecDepth 100000
namespace Go.Proofs.YtncamojfjhbanaaDoor
open Go Go.RowKit Sk Sd
theorem clashR_r : ∀ (N : Nat) (a b : List Dg) (x1 x2 : Value) (w0 : World) (hx1 : SlT DG 0 0 a x1 w0) (hx2 : SlT DG 0 0 b x2 w0) (hn : a.length ≤ 100000) (hn2 : b.length ≤ 100000) (hN : a.length = N),
    Gives Tryd.prog 14 #[x1, x2] w0 (Pr.ex (Value.tuple #[twoVal (clash a b).1, twoVal (clash a b).2.1, Value.bool (clash a b).2.2])) := by
  intro N
  induction N using Nat.strongRecOn with
  | _ N ih =>
    intro a b x1 x2 w0 hx1 hx2 hn hn2 hN
    refine enter (N := 83) Tryd.func14 rfl rfl ?_
    intro a0 hN_0 hD_0 hA
    have s0_0 : get a0 0 = x1 := hA 0 _ rfl
    have s1_0 : get a0 1 = x2 := hA 1 _ rfl
    clear hA
    have hE_0 : Ext w0 w0 := Ext.refl w0
    have hsx1_0 := hx1.close
    have hsx2_0 := hx2.close
    refine wp_seq ?_
    refine region_lex [4, 5] [(4, Pr.box' w0.heap.size 32 [w32 (Dg.zero).a, w32 (Dg.zero).b, w32 (Dg.zero).c, w32 (Dg.zero).d, w32 (Dg.zero).a, w32 (Dg.zero).b, w32 (Dg.zero).c, w32 (Dg.zero).d]), (5, Pr.box' w0.heap.size 32 [w32 (Dg.zero).a, w32 (Dg.zero).b, w32 (Dg.zero).c, w32 (Dg.zero).d, w32 (Dg.zero).a, w32 (Dg.zero).b, w32 (Dg.zero).c, w32 (Dg.zero).d]), (6, Pr.ex (Value.bool (false)))] 3 hN_0 hD_0 (by kernel_rfl) (by kernel_rfl) ?_ ?_
    · refine Asks.cons ?_ (Asks.cons ?_ (Asks.cons ?_ (Asks.zero _)))
      · refine Ask.fresh rfl rfl ?_
        intro aq wq hNq hO hR hT
        exact does_alloc zero_32 (fun b w2 he hlo hb => ⟨he, ⟨b, rfl, Nat.le_trans hR.size' hlo, hb⟩, ⟨b, rfl, hlo, hb.lt⟩⟩)
      · refine Ask.fresh rfl rfl ?_
        intro aq wq hNq hO hR hT
        exact does_alloc zero_32 (fun b w2 he hlo hb => ⟨he, ⟨b, rfl, Nat.le_trans hR.size' hlo, hb⟩, ⟨b, rfl, hlo, hb.lt⟩⟩)
      · refine Ask.plain rfl rfl ?_
        intro aq wq hNq hO hR hT
        exact does_assign (V := Value.bool (false)) rfl ⟨Ext.refl _, rfl⟩
    intro a1 wd1 hN_1 hD_1 hO hR hA hU
    obtain ⟨t4, t5, _, _⟩ := hA
    have hE_1 := hE_0.trans hR
    have s0_1 := (hO 0 rfl).trans s0_0
    have s1_1 := (hO 1 rfl).trans s1_0
    have hsx1_1 := hsx1_0.ext' hR
    have hsx2_1 := hsx2_0.ext' hR
    obtain ⟨b4, s4_1, lo_b4, hbb4_1⟩ := t4
    have nb_x1_b4 := SlT.old hsx1_0 lo_b4
    have nb_x2_b4 := SlT.old hsx2_0 lo_b4
    have fr_b4 : w0.heap.size ≤ b4 := Nat.le_trans hE_0.size' lo_b4
    obtain ⟨b5, s5_1, lo_b5, hbb5_1⟩ := t5
    have nb_x1_b5 := SlT.old hsx1_0 lo_b5
    have nb_x2_b5 := SlT.old hsx2_0 lo_b5
    have fr_b5 : w0.heap.size ≤ b5 := Nat.le_trans hE_0.size' lo_b5
    obtain ⟨u0, ⟨u1, _⟩⟩ := hU
    have ne_b4_b5 : b4 ≠ b5 := fun e => u0 5 (by decide) (by rw [s4_1, s5_1, e])
    clear hE_0 hN_0 hD_0 s0_0 s1_0 hsx1_0 hsx2_0
    refine tail_nil ?_
    refine wp_seq ?_
    refine wp_seq ?_
    refine region_lex [] [(10, Pr.ex (x1)), (11, Pr.ex (i64 ((a.length : Nat) : Int))), (12, Pr.ex (x2)), (13, Pr.ex (i64 ((b.length : Nat) : Int))), (14, Pr.ex (Value.bool (!decide (((a.length : Nat) : Int) = ((b.length : Nat) : Int))))), (15, Pr.ex (Value.bool (!decide (((a.length : Nat) : Int) = ((b.length : Nat) : Int))))), (16, Pr.ifb (!(!decide (((a.length : Nat) : Int) = ((b.length : Nat) : Int)))) (Pr.ex (x1))), (17, Pr.ifb (!(!decide (((a.length : Nat) : Int) = ((b.length : Nat) : Int)))) (Pr.ex (x2))), (18, Pr.ifb (!(!decide (((a.length : Nat) : Int) = ((b.length : Nat) : Int)))) (Pr.ex (Value.bool (decide (a = b))))), (19, Pr.ex (Value.bool ((!decide (((a.length : Nat) : Int) = ((b.length : Nat) : Int))) || (decide (a = b))))), (20, Pr.ex (Value.bool ((!decide (((a.length : Nat) : Int) = ((b.length : Nat) : Int))) || (decide (a = b))))), (21, Pr.ifb (!((!decide (((a.length : Nat) : Int) = ((b.length : Nat) : Int))) || (decide (a = b)))) (Pr.ex (x1))), (22, Pr.ifb (!((!decide (((a.length : Nat) : Int) = ((b.length : Nat) : Int))) || (decide (a = b)))) (Pr.ex (Dg.val (root a)))), (23, Pr.ifb (!((!decide (((a.length : Nat) : Int) = ((b.length : Nat) : Int))) || (decide (a = b)))) (Pr.ex (x2))), (24, Pr.ifb (!((!decide (((a.length : Nat) : Int) = ((b.length : Nat) : Int))) || (decide (a = b)))) (Pr.ex (Dg.val (root b)))), (25, Pr.ifb (!((!decide (((a.length : Nat) : Int) = ((b.length : Nat) : Int))) || (decide (a = b)))) (Pr.ex (Value.bool (!decide (root a = root b))))), (26, Pr.ex (Value.bool (((!decide (((a.length : Nat) : Int) = ((b.length : Nat) : Int))) || (decide (a = b))) || (!decide (root a = root b)))))] 17 hN_1 hD_1 (by kernel_rfl) (by kernel_rfl) ?_ ?_
    · refine Asks.cons ?_ (Asks.cons ?_ (Asks.cons ?_ (Asks.cons ?_ (Asks.cons ?_ (Asks.cons ?_ (Asks.cons ?_ (Asks.cons ?_ (Asks.cons ?_ (Asks.cons ?_ (Asks.cons ?_ (Asks.cons ?_ (Asks.cons ?_ (Asks.cons ?_ (Asks.cons ?_ (Asks.cons ?_ (Asks.cons ?_ (Asks.zero _)))))))))))))))))
      · refine Ask.plain rfl rfl ?_
        intro aq wq hNq hO hR hT
        exact does_move (V := x1) ((hO 0 rfl).trans s0_1) ⟨Ext.refl _, rfl⟩
      · refine Ask.plain rfl rfl ?_
        intro aq wq hNq hO hR hT
        exact does_len (T := DG) (xs := a) sli_27 (SlT.at (hT 10 rfl rfl) (hsx1_1.ext' hR)) ⟨Ext.refl _, rfl⟩
      · refine Ask.plain rfl rfl ?_
        intro aq wq hNq hO hR hT
        exact does_move (V := x2) ((hO 1 rfl).trans s1_1) ⟨Ext.refl _, rfl⟩
      · refine Ask.plain rfl rfl ?_
        intro aq wq hNq hO hR hT
        exact does_len (T := DG) (xs := b) sli_27 (SlT.at (hT 12 rfl rfl) (hsx2_1.ext' hR)) ⟨Ext.refl _, rfl⟩
      · refine Ask.plain rfl rfl ?_
        intro aq wq hNq hO hR hT
        exact does_neq (a := ((a.length : Nat) : Int)) (b := ((b.length : Nat) : Int)) (hT 11 rfl rfl) (hT 13 rfl rfl) ⟨Ext.refl _, rfl⟩
      · refine Ask.plain rfl rfl ?_
        intro aq wq hNq hO hR hT
        exact does_move (V := Value.bool (!decide (((a.length : Nat) : Int) = ((b.length : Nat) : Int)))) (hT 14 rfl rfl) ⟨Ext.refl _, rfl⟩
      · refine Ask.guarded (B := !decide (((a.length : Nat) : Int) = ((b.length : Nat) : Int))) (want := false) (t := 15) rfl rfl rfl rfl (by decide) (fun aq wq hO hR hT => hT 15 rfl rfl) (fun hG aq wq hNq hO hR hT => ?_) (fun hno _ => fun hc => absurd (bn hc) hno)
        replace hG := nb hG
        exact does_move (V := x1) ((hO 0 rfl).trans s0_1) ⟨Ext.refl _, fun _ => rfl⟩
      · refine Ask.guarded (B := !decide (((a.length : Nat) : Int) = ((b.length : Nat) : Int))) (want := false) (t := 15) rfl rfl rfl rfl (by decide) (fun aq wq hO hR hT => hT 15 rfl rfl) (fun hG aq wq hNq hO hR hT => ?_) (fun hno _ => fun hc => absurd (bn hc) hno)
        replace hG := nb hG
        exact does_move (V := x2) ((hO 1 rfl).trans s1_1) ⟨Ext.refl _, fun _ => rfl⟩
      · refine Ask.guarded (B := !decide (((a.length : Nat) : Int) = ((b.length : Nat) : Int))) (want := false) (t := 15) rfl rfl rfl rfl (by decide) (fun aq wq hO hR hT => hT 15 rfl rfl) (fun hG aq wq hNq hO hR hT => ?_) (fun hno _ => fun hc => absurd (bn hc) hno)
        replace hG := nb hG
        exact does_ret (vs := #[x1, x2]) call_15 (args2 (hT 16 rfl rfl hG) (hT 17 rfl rfl hG)) rfl ((same_ (a) (b) (x1) (x2) wq ((hsx1_1.ext' hR).wide (Nat.zero_le _) (.inl rfl)) ((hsx2_1.ext' hR).wide (Nat.zero_le _) (.inl rfl)) (by first | omega | (simp only [List.length_take]; omega) | (simp only [List.length_drop]; omega))).mono fun v w2 h => ⟨h.2, fun _ => h.1⟩)
      · refine Ask.plain rfl rfl ?_
        intro aq wq hNq hO hR hT
        exact does_or (B := !decide (((a.length : Nat) : Int) = ((b.length : Nat) : Int))) (X := decide (a = b)) (hT 15 rfl rfl) rfl (fun hB => (hT 18 rfl rfl (nb hB))) ⟨Ext.refl _, rfl⟩
      · refine Ask.plain rfl rfl ?_
        intro aq wq hNq hO hR hT
        exact does_move (V := Value.bool ((!decide (((a.length : Nat) : Int) = ((b.length : Nat) : Int))) || (decide (a = b)))) (hT 19 rfl rfl) ⟨Ext.refl _, rfl⟩
      · refine Ask.guarded (B := (!decide (((a.length : Nat) : Int) = ((b.length : Nat) : Int))) || (decide (a = b))) (want := false) (t := 20) rfl rfl rfl rfl (by decide) (fun aq wq hO hR hT => hT 20 rfl rfl) (fun hG aq wq hNq hO hR hT => ?_) (fun hno _ => fun hc => absurd (bn hc) hno)
        replace hG := nb hG
        exact does_move (V := x1) ((hO 0 rfl).trans s0_1) ⟨Ext.refl _, fun _ => rfl⟩
      · refine Ask.guarded (B := (!decide (((a.length : Nat) : Int) = ((b.length : Nat) : Int))) || (decide (a = b))) (want := false) (t := 20) rfl rfl rfl rfl (by decide) (fun aq wq hO hR hT => hT 20 rfl rfl) (fun hG aq wq hNq hO hR hT => ?_) (fun hno _ => fun hc => absurd (bn hc) hno)
        replace hG := nb hG
        exact does_ret (vs := #[x1]) call_19 (args1 (hT 21 rfl rfl hG)) rfl ((rootR (a) (x1) wq ((hsx1_1.ext' hR).wide (Nat.zero_le _) (.inl rfl)) (by first | omega | (simp only [List.length_take]; omega) | (simp only [List.length_drop]; omega))).mono fun v w2 h => ⟨h.2, fun _ => h.1⟩)
      · refine Ask.guarded (B := (!decide (((a.length : Nat) : Int) = ((b.length : Nat) : Int))) || (decide (a = b))) (want := false) (t := 20) rfl rfl rfl rfl (by decide) (fun aq wq hO hR hT => hT 20 rfl rfl) (fun hG aq wq hNq hO hR hT => ?_) (fun hno _ => fun hc => absurd (bn hc) hno)
        replace hG := nb hG
        exact does_move (V := x2) ((hO 1 rfl).trans s1_1) ⟨Ext.refl _, fun _ => rfl⟩
      · refine Ask.guarded (B := (!decide (((a.length : Nat) : Int) = ((b.length : Nat) : Int))) || (decide (a = b))) (want := false) (t := 20) rfl rfl rfl rfl (by decide) (fun aq wq hO hR hT => hT 20 rfl rfl) (fun hG aq wq hNq hO hR hT => ?_) (fun hno _ => fun hc => absurd (bn hc) hno)
        replace hG := nb hG
        exact does_ret (vs := #[x2]) call_19 (args1 (hT 23 rfl rfl hG)) rfl ((rootR (b) (x2) wq ((hsx2_1.ext' hR).wide (Nat.zero_le _) (.inl rfl)) (by first | omega | (simp only [List.length_take]; omega) | (simp only [List.length_drop]; omega))).mono fun v w2 h => ⟨h.2, fun _ => h.1⟩)
      · refine Ask.guarded (B := (!decide (((a.length : Nat) : Int) = ((b.length : Nat) : Int))) || (decide (a = b))) (want := false) (t := 20) rfl rfl rfl rfl (by decide) (fun aq wq hO hR hT => hT 20 rfl rfl) (fun hG aq wq hNq hO hR hT => ?_) (fun hno _ => fun hc => absurd (bn hc) hno)
        replace hG := nb hG
        exact does_neT (a := root a) (b := root b) eq_24 (hT 22 rfl rfl hG) (hT 24 rfl rfl hG) ⟨Ext.refl _, fun _ => rfl⟩
      · refine Ask.plain rfl rfl ?_
        intro aq wq hNq hO hR hT
        exact does_or (B := (!decide (((a.length : Nat) : Int) = ((b.length : Nat) : Int))) || (decide (a = b))) (X := !decide (root a = root b)) (hT 20 rfl rfl) rfl (fun hB => (hT 25 rfl rfl (nb hB))) ⟨Ext.refl _, rfl⟩
    intro a2 wd2 hN_2 hD_2 hO hR hA hU
    obtain ⟨_, _, _, _, _, _, _, _, _, _, _, _, _, _, _, _, t26, _⟩ := hA
    have hE_2 := hE_1.trans hR
    have s0_2 := (hO 0 rfl).trans s0_1
    have s1_2 := (hO 1 rfl).trans s1_1
    have s4_2 := (hO 4 rfl).trans s4_1
    have s5_2 := (hO 5 rfl).trans s5_1
    have hbb4_2 := hbb4_1.ext' hR
    have hbb5_2 := hbb5_1.ext' hR
    have hsx1_2 := hsx1_1.ext' hR
    have hsx2_2 := hsx2_1.ext' hR
    have s26_2 : get a2 26 = Value.bool (((!decide (((a.length : Nat) : Int) = ((b.length : Nat) : Int))) || (decide (a = b))) || (!decide (root a = root b))) := t26
    clear hE_1 hN_1 hD_1 s0_1 s1_1 s4_1 s5_1 hbb4_1 hbb5_1 hsx1_1 hsx2_1
    refine tail_nil ?_
    refine wp_if (B := ((!decide (((a.length : Nat) : Int) = ((b.length : Nat) : Int))) || (decide (a = b))) || (!decide (root a = root b))) s26_2 (fun hc0 => ?_) (fun hc0 => ?_)
    · -- T 0
      refine wp_seq ?_
      refine region_lex [] [(27, Pr.ex (Value.agg #[w32 (Dg.zero).a, w32 (Dg.zero).b, w32 (Dg.zero).c, w32 (Dg.zero).d, w32 (Dg.zero).a, w32 (Dg.zero).b, w32 (Dg.zero).c, w32 (Dg.zero).d])), (28, Pr.ex (Value.agg #[w32 (Dg.zero).a, w32 (Dg.zero).b, w32 (Dg.zero).c, w32 (Dg.zero).d, w32 (Dg.zero).a, w32 (Dg.zero).b, w32 (Dg.zero).c, w32 (Dg.zero).d]))] 2 hN_2 hD_2 (by kernel_rfl) (by kernel_rfl) ?_ ?_
      · refine Asks.cons ?_ (Asks.cons ?_ (Asks.zero _))
        · refine Ask.plain rfl rfl ?_
          intro aq wq hNq hO hR hT
          exact does_build (vs := #[]) (V := Value.agg #[w32 (Dg.zero).a, w32 (Dg.zero).b, w32 (Dg.zero).c, w32 (Dg.zero).d, w32 (Dg.zero).a, w32 (Dg.zero).b, w32 (Dg.zero).c, w32 (Dg.zero).d]) parts0 (by kernel_rfl) ⟨Ext.refl _, rfl⟩
        · refine Ask.plain rfl rfl ?_
          intro aq wq hNq hO hR hT
          exact does_build (vs := #[]) (V := Value.agg #[w32 (Dg.zero).a, w32 (Dg.zero).b, w32 (Dg.zero).c, w32 (Dg.zero).d, w32 (Dg.zero).a, w32 (Dg.zero).b, w32 (Dg.zero).c, w32 (Dg.zero).d]) parts0 (by kernel_rfl) ⟨Ext.refl _, rfl⟩
      intro a3 wd3 hN_3 hD_3 hO hR hA hU
      obtain ⟨t27, t28, _⟩ := hA
      have hE_3 := hE_2.trans hR
      have s4_3 := (hO 4 rfl).trans s4_2
      have s5_3 := (hO 5 rfl).trans s5_2
      have hbb4_3 := hbb4_2.ext' hR
      have hbb5_3 := hbb5_2.ext' hR
      have hsx1_3 := hsx1_2.ext' hR
      have hsx2_3 := hsx2_2.ext' hR
      have s27_3 : get a3 27 = Value.agg #[w32 (Dg.zero).a, w32 (Dg.zero).b, w32 (Dg.zero).c, w32 (Dg.zero).d, w32 (Dg.zero).a, w32 (Dg.zero).b, w32 (Dg.zero).c, w32 (Dg.zero).d] := t27
      have s28_3 : get a3 28 = Value.agg #[w32 (Dg.zero).a, w32 (Dg.zero).b, w32 (Dg.zero).c, w32 (Dg.zero).d, w32 (Dg.zero).a, w32 (Dg.zero).b, w32 (Dg.zero).c, w32 (Dg.zero).d] := t28
      clear hE_2 hN_2 hD_2 s0_2 s1_2 s4_2 s5_2 s26_2 hbb4_2 hbb5_2 hsx1_2 hsx2_2
      refine tail_none rfl rfl (does_storeD (o := 0) (n := 8) (cs' := [w32 (Dg.zero).a, w32 (Dg.zero).b, w32 (Dg.zero).c, w32 (Dg.zero).d, w32 (Dg.zero).a, w32 (Dg.zero).b, w32 (Dg.zero).c, w32 (Dg.zero).d]) (V := Value.agg #[w32 (Dg.zero).a, w32 (Dg.zero).b, w32 (Dg.zero).c, w32 (Dg.zero).d, w32 (Dg.zero).a, w32 (Dg.zero).b, w32 (Dg.zero).c, w32 (Dg.zero).d]) s4_3 s27_3 hbb4_3 (Nat.le_of_ble_eq_true rfl) rfl siz_32 rfl rfl (fun wd4 hX hz hbb4_4 => ?_))
      have hE_4 := hE_3.since hX (fun k e => e ▸ fr_b4)
      have hbb5_4 := hbb5_3.ext hX ne_b4_b5.symm
      have hsx1_4 := SlT.over hsx1_3 hX nb_x1_b4
      have hsx2_4 := SlT.over hsx2_3 hX nb_x2_b4
      clear hX hz hE_3 hbb4_3 hbb5_3 hsx1_3 hsx2_3
      refine tail_none rfl rfl (does_storeD (o := 0) (n := 8) (cs' := [w32 (Dg.zero).a, w32 (Dg.zero).b, w32 (Dg.zero).c, w32 (Dg.zero).d, w32 (Dg.zero).a, w32 (Dg.zero).b, w32 (Dg.zero).c, w32 (Dg.zero).d]) (V := Value.agg #[w32 (Dg.zero).a, w32 (Dg.zero).b, w32 (Dg.zero).c, w32 (Dg.zero).d, w32 (Dg.zero).a, w32 (Dg.zero).b, w32 (Dg.zero).c, w32 (Dg.zero).d]) s5_3 s28_3 hbb5_4 (Nat.le_of_ble_eq_true rfl) rfl siz_32 rfl rfl (fun wd5 hX hz hbb5_5 => ?_))
      have hE_5 := hE_4.since hX (fun k e => e ▸ fr_b5)
      have hbb4_5 := hbb4_4.ext hX ne_b4_b5
      have hsx1_5 := SlT.over hsx1_4 hX nb_x1_b5
      have hsx2_5 := SlT.over hsx2_4 hX nb_x2_b5
      clear hX hz hE_4 hbb4_4 hbb5_4 hsx1_4 hsx2_4
      refine tail_put rfl rfl hN_3 hD_3 (by decide) (does_assign (V := Value.bool (false)) rfl (fun a6 hN_6 hD_6 hv hO => ?_))
      have s6_6 := hv
      have s4_6 := (hO 4 rfl).trans s4_3
      have s5_6 := (hO 5 rfl).trans s5_3
      clear hO hv hN_3 hD_3 s4_3 s5_3 s27_3 s28_3
      refine tail_nil ?_
      refine wp_ret ?_
      refine res_three (V1 := Value.agg #[w32 (Dg.zero).a, w32 (Dg.zero).b, w32 (Dg.zero).c, w32 (Dg.zero).d, w32 (Dg.zero).a, w32 (Dg.zero).b, w32 (Dg.zero).c, w32 (Dg.zero).d]) (V2 := Value.agg #[w32 (Dg.zero).a, w32 (Dg.zero).b, w32 (Dg.zero).c, w32 (Dg.zero).d, w32 (Dg.zero).a, w32 (Dg.zero).b, w32 (Dg.zero).c, w32 (Dg.zero).d]) (V3 := Value.bool (false)) rfl hD_6 (ResIs.cell s4_6 hbb4_5 row_32 rfl rfl) (ResIs.cell s5_6 hbb5_5 row_32 rfl rfl) s6_6 ?_
      obtain ⟨e1, e2, e3⟩ := prods (clash_no (clashT hc0))
      exact ⟨by show Value.tuple _ = Value.tuple _; rw [e1, e2, e3]; rfl, hE_5⟩
    have hpq := clashF hc0
    have h2 := unlike_two hpq.1 hpq.2.1 hpq.2.2
    have hh := half_lt h2
    have hp := half_pos a.length
    have hql := hpq.1
    refine wp_skip ?_
    refine wp_seq ?_
    refine region_lex [] [(29, Pr.ex (x1)), (30, Pr.ex (i64 ((a.length : Nat) : Int))), (31, Pr.ex (i64 ((half a.length : Nat) : Int))), (7, Pr.ex (i64 ((half a.length : Nat) : Int)))] 4 hN_2 hD_2 (by kernel_rfl) (by kernel_rfl) ?_ ?_
    · refine Asks.cons ?_ (Asks.cons ?_ (Asks.cons ?_ (Asks.cons ?_ (Asks.zero _))))
      · refine Ask.plain rfl rfl ?_
        intro aq wq hNq hO hR hT
        exact does_move (V := x1) ((hO 0 rfl).trans s0_2) ⟨Ext.refl _, rfl⟩
      · refine Ask.plain rfl rfl ?_
        intro aq wq hNq hO hR hT
        exact does_len (T := DG) (xs := a) sli_27 (SlT.at (hT 29 rfl rfl) (hsx1_2.ext' hR)) ⟨Ext.refl _, rfl⟩
      · refine Ask.plain rfl rfl ?_
        intro aq wq hNq hO hR hT
        exact does_ret (vs := #[i64 ((a.length : Nat) : Int)]) call_32 (args1 (hT 30 rfl rfl)) rfl ((halfR (a.length) wq (by omega) (by omega)).mono fun v w2 h => ⟨h.2, h.1⟩)
      · refine Ask.plain rfl rfl ?_
        intro aq wq hNq hO hR hT
        exact does_assign (V := i64 ((half a.length : Nat) : Int)) (hT 31 rfl rfl) ⟨Ext.refl _, rfl⟩
    intro a7 wd7 hN_7 hD_7 hO hR hA hU
    obtain ⟨_, _, _, t7, _⟩ := hA
    have hE_7 := hE_2.trans hR
    have s0_7 := (hO 0 rfl).trans s0_2
    have s1_7 := (hO 1 rfl).trans s1_2
    have s4_7 := (hO 4 rfl).trans s4_2
    have s5_7 := (hO 5 rfl).trans s5_2
    have hbb4_7 := hbb4_2.ext' hR
    have hbb5_7 := hbb5_2.ext' hR
    have hsx1_7 := hsx1_2.ext' hR
    have hsx2_7 := hsx2_2.ext' hR
    have s7_7 : get a7 7 = i64 ((half a.length : Nat) : Int) := t7
    clear hE_2 hN_2 hD_2 s0_2 s1_2 s4_2 s5_2 s26_2 hbb4_2 hbb5_2 hsx1_2 hsx2_2
    refine tail_nil ?_
    refine wp_seq ?_
    refine region_any [8] [(32, Pr.ex (x1)), (33, Pr.ex (i64 ((half a.length : Nat) : Int))), (34, Pr.sl' DG 0 (w0.heap.size + 1) (a.take (half a.length))), (35, Pr.ex (Dg.val (root (a.take (half a.length))))), (36, Pr.ex (x1)), (37, Pr.ex (i64 ((half a.length : Nat) : Int))), (38, Pr.sl' DG 0 (w0.heap.size + 1) (a.drop (half a.length))), (39, Pr.ex (Dg.val (root (a.drop (half a.length))))), (40, Pr.ex (Value.agg #[w32 (root (a.take (half a.length))).a, w32 (root (a.take (half a.length))).b, w32 (root (a.take (half a.length))).c, w32 (root (a.take (half a.length))).d, w32 (root (a.drop (half a.length))).a, w32 (root (a.drop (half a.length))).b, w32 (root (a.drop (half a.length))).c, w32 (root (a.drop (half a.length))).d])), (8, Pr.box' wd7.heap.size 32 [w32 (Dg.zero).a, w32 (Dg.zero).b, w32 (Dg.zero).c, w32 (Dg.zero).d, w32 (Dg.zero).a, w32 (Dg.zero).b, w32 (Dg.zero).c, w32 (Dg.zero).d])] 10 mixed hN_7 hD_7 (by kernel_rfl) (by kernel_rfl) (by kernel_rfl) ?_ ?_
    · refine Asks.cons ?_ (Asks.cons ?_ (Asks.cons ?_ (Asks.cons ?_ (Asks.cons ?_ (Asks.cons ?_ (Asks.cons ?_ (Asks.cons ?_ (Asks.cons ?_ (Asks.cons ?_ (Asks.zero _))))))))))
      · refine Ask.plain rfl rfl ?_
        intro aq wq hNq hO hR hT
        replace hR := (Ext.drew _).trans hR
        exact does_move (V := x1) ((hO 0 rfl).trans s0_7) ⟨Ext.refl _, rfl⟩
      · refine Ask.plain rfl rfl ?_
        intro aq wq hNq hO hR hT
        replace hR := (Ext.drew _).trans hR
        exact does_move (V := i64 ((half a.length : Nat) : Int)) ((hO 7 rfl).trans s7_7) ⟨Ext.refl _, rfl⟩
      · refine Ask.plain rfl rfl ?_
        intro aq wq hNq hO hR hT
        replace hR := (Ext.drew _).trans hR
        exact does_sliceHi (T := DG) (xs := a) (k := ((half a.length : Nat) : Int)) sli_27 rfl (SlT.at (hT 32 rfl rfl) (hsx1_7.ext' hR)) (hT 33 rfl rfl) (by omega) (by omega) (fun v h => ⟨Ext.refl _, h⟩)
      · refine Ask.plain rfl rfl ?_
        intro aq wq hNq hO hR hT
        replace hR := (Ext.drew _).trans hR
        exact does_ret (vs := #[get aq 34]) call_19 (args1 rfl) rfl ((rootR (a.take (half a.length)) (get aq 34) wq ((hT 34 rfl rfl).wide (Nat.zero_le _) (.inl rfl)) (by first | omega | (simp only [List.length_take]; omega) | (simp only [List.length_drop]; omega))).mono fun v w2 h => ⟨h.2, h.1⟩)
      · refine Ask.plain rfl rfl ?_
        intro aq wq hNq hO hR hT
        replace hR := (Ext.drew _).trans hR
        exact does_move (V := x1) ((hO 0 rfl).trans s0_7) ⟨Ext.refl _, rfl⟩
      · refine Ask.plain rfl rfl ?_
        intro aq wq hNq hO hR hT
        replace hR := (Ext.drew _).trans hR
        exact does_move (V := i64 ((half a.length : Nat) : Int)) ((hO 7 rfl).trans s7_7) ⟨Ext.refl _, rfl⟩
      · refine Ask.plain rfl rfl ?_
        intro aq wq hNq hO hR hT
        replace hR := (Ext.drew _).trans hR
        exact does_sliceLo (T := DG) (xs := a) (k := ((half a.length : Nat) : Int)) sli_27 rfl (SlT.at (hT 36 rfl rfl) (hsx1_7.ext' hR)) (hT 37 rfl rfl) (by omega) (by omega) (fun v h => ⟨Ext.refl _, h⟩)
      · refine Ask.plain rfl rfl ?_
        intro aq wq hNq hO hR hT
        replace hR := (Ext.drew _).trans hR
        exact does_ret (vs := #[get aq 38]) call_19 (args1 rfl) rfl ((rootR (a.drop (half a.length)) (get aq 38) wq ((hT 38 rfl rfl).wide (Nat.zero_le _) (.inl rfl)) (by first | omega | (simp only [List.length_take]; omega) | (simp only [List.length_drop]; omega))).mono fun v w2 h => ⟨h.2, h.1⟩)
      · refine Ask.plain rfl rfl ?_
        intro aq wq hNq hO hR hT
        replace hR := (Ext.drew _).trans hR
        exact does_build (vs := #[(0, Dg.val (root (a.take (half a.length)))), (1, Dg.val (root (a.drop (half a.length))))]) (V := Value.agg #[w32 (root (a.take (half a.length))).a, w32 (root (a.take (half a.length))).b, w32 (root (a.take (half a.length))).c, w32 (root (a.take (half a.length))).d, w32 (root (a.drop (half a.length))).a, w32 (root (a.drop (half a.length))).b, w32 (root (a.drop (half a.length))).c, w32 (root (a.drop (half a.length))).d]) (parts2 (hT 35 rfl rfl) (hT 39 rfl rfl)) (by kernel_rfl) ⟨Ext.refl _, rfl⟩
      · refine Ask.fresh rfl rfl ?_
        intro aq wq hNq hO hR hT
        replace hR := (Ext.drew _).trans hR
        exact does_alloc zero_32 (fun b w2 he hlo hb => ⟨he, ⟨b, rfl, Nat.le_trans hR.size' hlo, hb⟩, ⟨b, rfl, hlo, hb.lt⟩⟩)
    intro a8 wd8 hN_8 hD_8 hO hR hA hU
    obtain ⟨_, _, _, _, _, _, _, _, t40, t8, _⟩ := hA
    have hE_8 := hE_7.trans hR
    have s0_8 := (hO 0 rfl).trans s0_7
    have s1_8 := (hO 1 rfl).trans s1_7
    have s4_8 := (hO 4 rfl).trans s4_7
    have s5_8 := (hO 5 rfl).trans s5_7
    have s7_8 := (hO 7 rfl).trans s7_7
    have hbb4_8 := hbb4_7.ext' hR
    have hbb5_8 := hbb5_7.ext' hR
    have hsx1_8 := hsx1_7.ext' hR
    have hsx2_8 := hsx2_7.ext' hR
    have s40_8 : get a8 40 = Value.agg #[w32 (root (a.take (half a.length))).a, w32 (root (a.take (half a.length))).b, w32 (root (a.take (half a.length))).c, w32 (root (a.take (half a.length))).d, w32 (root (a.drop (half a.length))).a, w32 (root (a.drop (half a.length))).b, w32 (root (a.drop (half a.length))).c, w32 (root (a.drop (half a.length))).d] := t40
    obtain ⟨b8, s8_8, lo_b8, hbb8_8⟩ := t8
    have ne_b4_b8 : b4 ≠ b8 := fun e => Nat.lt_irrefl _ (Nat.lt_of_lt_of_le hbb4_7.lt (e ▸ lo_b8))
    have ne_b5_b8 : b5 ≠ b8 := fun e => Nat.lt_irrefl _ (Nat.lt_of_lt_of_le hbb5_7.lt (e ▸ lo_b8))
    have nb_x1_b8 := SlT.old hsx1_7 lo_b8
    have nb_x2_b8 := SlT.old hsx2_7 lo_b8
    have fr_b8 : w0.heap.size ≤ b8 := Nat.le_trans hE_7.size' lo_b8
    clear hE_7 hN_7 hD_7 s0_7 s1_7 s4_7 s5_7 s7_7 hbb4_7 hbb5_7 hsx1_7 hsx2_7
    refine tail_none rfl rfl (does_storeD (o := 0) (n := 8) (cs' := [w32 (root (a.take (half a.length))).a, w32 (root (a.take (half a.length))).b, w32 (root (a.take (half a.length))).c, w32 (root (a.take (half a.length))).d, w32 (root (a.drop (half a.length))).a, w32 (root (a.drop (half a.length))).b, w32 (root (a.drop (half a.length))).c, w32 (root (a.drop (half a.length))).d]) (V := Value.agg #[w32 (root (a.take (half a.length))).a, w32 (root (a.take (half a.length))).b, w32 (root (a.take (half a.length))).c, w32 (root (a.take (half a.length))).d, w32 (root (a.drop (half a.length))).a, w32 (root (a.drop (half a.length))).b, w32 (root (a.drop (half a.length))).c, w32 (root (a.drop (half a.length))).d]) s8_8 s40_8 hbb8_8 (Nat.le_of_ble_eq_true rfl) rfl siz_32 rfl rfl (fun wd9 hX hz hbb8_9 => ?_))
    have hE_9 := hE_8.since hX (fun k e => e ▸ fr_b8)
    have hbb4_9 := hbb4_8.ext hX ne_b4_b8
    have hbb5_9 := hbb5_8.ext hX ne_b5_b8
    have hsx1_9 := SlT.over hsx1_8 hX nb_x1_b8
    have hsx2_9 := SlT.over hsx2_8 hX nb_x2_b8
    clear hX hz hE_8 hbb4_8 hbb5_8 hbb8_8 hsx1_8 hsx2_8
    refine tail_nil ?_
    refine wp_seq ?_
    refine region_any [9] [(41, Pr.ex (x2)), (42, Pr.ex (i64 ((half a.length : Nat) : Int))), (43, Pr.sl' DG 0 (w0.heap.size + 1) (b.take (half a.length))), (44, Pr.ex (Dg.val (root (b.take (half a.length))))), (45, Pr.ex (x2)), (46, Pr.ex (i64 ((half a.length : Nat) : Int))), (47, Pr.sl' DG 0 (w0.heap.size + 1) (b.drop (half a.length))), (48, Pr.ex (Dg.val (root (b.drop (half a.length))))), (49, Pr.ex (Value.agg #[w32 (root (b.take (half a.length))).a, w32 (root (b.take (half a.length))).b, w32 (root (b.take (half a.length))).c, w32 (root (b.take (half a.length))).d, w32 (root (b.drop (half a.length))).a, w32 (root (b.drop (half a.length))).b, w32 (root (b.drop (half a.length))).c, w32 (root (b.drop (half a.length))).d])), (9, Pr.box' wd9.heap.size 32 [w32 (Dg.zero).a, w32 (Dg.zero).b, w32 (Dg.zero).c, w32 (Dg.zero).d, w32 (Dg.zero).a, w32 (Dg.zero).b, w32 (Dg.zero).c, w32 (Dg.zero).d])] 10 mixed hN_8 hD_8 (by kernel_rfl) (by kernel_rfl) (by kernel_rfl) ?_ ?_
    · refine Asks.cons ?_ (Asks.cons ?_ (Asks.cons ?_ (Asks.cons ?_ (Asks.cons ?_ (Asks.cons ?_ (Asks.cons ?_ (Asks.cons ?_ (Asks.cons ?_ (Asks.cons ?_ (Asks.zero _))))))))))
      · refine Ask.plain rfl rfl ?_
        intro aq wq hNq hO hR hT
        replace hR := (Ext.drew _).trans hR
        exact does_move (V := x2) ((hO 1 rfl).trans s1_8) ⟨Ext.refl _, rfl⟩
      · refine Ask.plain rfl rfl ?_
        intro aq wq hNq hO hR hT
        replace hR := (Ext.drew _).trans hR
        exact does_move (V := i64 ((half a.length : Nat) : Int)) ((hO 7 rfl).trans s7_8) ⟨Ext.refl _, rfl⟩
      · refine Ask.plain rfl rfl ?_
        intro aq wq hNq hO hR hT
        replace hR := (Ext.drew _).trans hR
        exact does_sliceHi (T := DG) (xs := b) (k := ((half a.length : Nat) : Int)) sli_27 rfl (SlT.at (hT 41 rfl rfl) (hsx2_9.ext' hR)) (hT 42 rfl rfl) (by omega) (by omega) (fun v h => ⟨Ext.refl _, h⟩)
      · refine Ask.plain rfl rfl ?_
        intro aq wq hNq hO hR hT
        replace hR := (Ext.drew _).trans hR
        exact does_ret (vs := #[get aq 43]) call_19 (args1 rfl) rfl ((rootR (b.take (half a.length)) (get aq 43) wq ((hT 43 rfl rfl).wide (Nat.zero_le _) (.inl rfl)) (by first | omega | (simp only [List.length_take]; omega) | (simp only [List.length_drop]; omega))).mono fun v w2 h => ⟨h.2, h.1⟩)
      · refine Ask.plain rfl rfl ?_
        intro aq wq hNq hO hR hT
        replace hR := (Ext.drew _).trans hR
        exact does_move (V := x2) ((hO 1 rfl).trans s1_8) ⟨Ext.refl _, rfl⟩
      · refine Ask.plain rfl rfl ?_
        intro aq wq hNq hO hR hT
        replace hR := (Ext.drew _).trans hR
        exact does_move (V := i64 ((half a.length : Nat) : Int)) ((hO 7 rfl).trans s7_8) ⟨Ext.refl _, rfl⟩
      · refine Ask.plain rfl rfl ?_
        intro aq wq hNq hO hR hT
        replace hR := (Ext.drew _).trans hR
        exact does_sliceLo (T := DG) (xs := b) (k := ((half a.length : Nat) : Int)) sli_27 rfl (SlT.at (hT 45 rfl rfl) (hsx2_9.ext' hR)) (hT 46 rfl rfl) (by omega) (by omega) (fun v h => ⟨Ext.refl _, h⟩)
      · refine Ask.plain rfl rfl ?_
        intro aq wq hNq hO hR hT
        replace hR := (Ext.drew _).trans hR
        exact does_ret (vs := #[get aq 47]) call_19 (args1 rfl) rfl ((rootR (b.drop (half a.length)) (get aq 47) wq ((hT 47 rfl rfl).wide (Nat.zero_le _) (.inl rfl)) (by first | omega | (simp only [List.length_take]; omega) | (simp only [List.length_drop]; omega))).mono fun v w2 h => ⟨h.2, h.1⟩)
      · refine Ask.plain rfl rfl ?_
        intro aq wq hNq hO hR hT
        replace hR := (Ext.drew _).trans hR
        exact does_build (vs := #[(0, Dg.val (root (b.take (half a.length)))), (1, Dg.val (root (b.drop (half a.length))))]) (V := Value.agg #[w32 (root (b.take (half a.length))).a, w32 (root (b.take (half a.length))).b, w32 (root (b.take (half a.length))).c, w32 (root (b.take (half a.length))).d, w32 (root (b.drop (half a.length))).a, w32 (root (b.drop (half a.length))).b, w32 (root (b.drop (half a.length))).c, w32 (root (b.drop (half a.length))).d]) (parts2 (hT 44 rfl rfl) (hT 48 rfl rfl)) (by kernel_rfl) ⟨Ext.refl _, rfl⟩
      · refine Ask.fresh rfl rfl ?_
        intro aq wq hNq hO hR hT
        replace hR := (Ext.drew _).trans hR
        exact does_alloc zero_32 (fun b w2 he hlo hb => ⟨he, ⟨b, rfl, Nat.le_trans hR.size' hlo, hb⟩, ⟨b, rfl, hlo, hb.lt⟩⟩)
    intro a10 wd10 hN_10 hD_10 hO hR hA hU
    obtain ⟨_, _, _, _, _, _, _, _, t49, t9, _⟩ := hA
    have hE_10 := hE_9.trans hR
    have s0_10 := (hO 0 rfl).trans s0_8
    have s1_10 := (hO 1 rfl).trans s1_8
    have s4_10 := (hO 4 rfl).trans s4_8
    have s5_10 := (hO 5 rfl).trans s5_8
    have s7_10 := (hO 7 rfl).trans s7_8
    have s8_10 := (hO 8 rfl).trans s8_8
    have hbb4_10 := hbb4_9.ext' hR
    have hbb5_10 := hbb5_9.ext' hR
    have hbb8_10 := hbb8_9.ext' hR
    have hsx1_10 := hsx1_9.ext' hR
    have hsx2_10 := hsx2_9.ext' hR
    have s49_10 : get a10 49 = Value.agg #[w32 (root (b.take (half a.length))).a, w32 (root (b.take (half a.length))).b, w32 (root (b.take (half a.length))).c, w32 (root (b.take (half a.length))).d, w32 (root (b.drop (half a.length))).a, w32 (root (b.drop (half a.length))).b, w32 (root (b.drop (half a.length))).c, w32 (root (b.drop (half a.length))).d] := t49
    obtain ⟨b9, s9_10, lo_b9, hbb9_10⟩ := t9
    have ne_b4_b9 : b4 ≠ b9 := fun e => Nat.lt_irrefl _ (Nat.lt_of_lt_of_le hbb4_9.lt (e ▸ lo_b9))
    have ne_b5_b9 : b5 ≠ b9 := fun e => Nat.lt_irrefl _ (Nat.lt_of_lt_of_le hbb5_9.lt (e ▸ lo_b9))
    have ne_b8_b9 : b8 ≠ b9 := fun e => Nat.lt_irrefl _ (Nat.lt_of_lt_of_le hbb8_9.lt (e ▸ lo_b9))
    have nb_x1_b9 := SlT.old hsx1_9 lo_b9
    have nb_x2_b9 := SlT.old hsx2_9 lo_b9
    have fr_b9 : w0.heap.size ≤ b9 := Nat.le_trans hE_9.size' lo_b9
    clear hE_9 hN_8 hD_8 s0_8 s1_8 s4_8 s5_8 s7_8 s8_8 s40_8 hbb4_9 hbb5_9 hbb8_9 hsx1_9 hsx2_9
    refine tail_none rfl rfl (does_storeD (o := 0) (n := 8) (cs' := [w32 (root (b.take (half a.length))).a, w32 (root (b.take (half a.length))).b, w32 (root (b.take (half a.length))).c, w32 (root (b.take (half a.length))).d, w32 (root (b.drop (half a.length))).a, w32 (root (b.drop (half a.length))).b, w32 (root (b.drop (half a.length))).c, w32 (root (b.drop (half a.length))).d]) (V := Value.agg #[w32 (root (b.take (half a.length))).a, w32 (root (b.take (half a.length))).b, w32 (root (b.take (half a.length))).c, w32 (root (b.take (half a.length))).d, w32 (root (b.drop (half a.length))).a, w32 (root (b.drop (half a.length))).b, w32 (root (b.drop (half a.length))).c, w32 (root (b.drop (half a.length))).d]) s9_10 s49_10 hbb9_10 (Nat.le_of_ble_eq_true rfl) rfl siz_32 rfl rfl (fun wd11 hX hz hbb9_11 => ?_))
    have hE_11 := hE_10.since hX (fun k e => e ▸ fr_b9)
    have hbb4_11 := hbb4_10.ext hX ne_b4_b9
    have hbb5_11 := hbb5_10.ext hX ne_b5_b9
    have hbb8_11 := hbb8_10.ext hX ne_b8_b9
    have hsx1_11 := SlT.over hsx1_10 hX nb_x1_b9
    have hsx2_11 := SlT.over hsx2_10 hX nb_x2_b9
    clear hX hz hE_10 hbb4_10 hbb5_10 hbb8_10 hbb9_10 hsx1_10 hsx2_10
    refine tail_nil ?_
    refine wp_seq ?_
    refine wp_seq ?_
    refine region_lex [] [(50, Pr.ex (Value.agg #[w32 (root (a.take (half a.length))).a, w32 (root (a.take (half a.length))).b, w32 (root (a.take (half a.length))).c, w32 (root (a.take (half a.length))).d, w32 (root (a.drop (half a.length))).a, w32 (root (a.drop (half a.length))).b, w32 (root (a.drop (half a.length))).c, w32 (root (a.drop (half a.length))).d])), (51, Pr.ex (Value.agg #[w32 (root (b.take (half a.length))).a, w32 (root (b.take (half a.length))).b, w32 (root (b.take (half a.length))).c, w32 (root (b.take (half a.length))).d, w32 (root (b.drop (half a.length))).a, w32 (root (b.drop (half a.length))).b, w32 (root (b.drop (half a.length))).c, w32 (root (b.drop (half a.length))).d])), (52, Pr.ex (Value.bool (!decide (((root (a.take (half a.length)), root (a.drop (half a.length))) : Two) = ((root (b.take (half a.length)), root (b.drop (half a.length))) : Two)))))] 3 hN_10 hD_10 (by kernel_rfl) (by kernel_rfl) ?_ ?_
    · refine Asks.cons ?_ (Asks.cons ?_ (Asks.cons ?_ (Asks.zero _)))
      · refine Ask.plain rfl rfl ?_
        intro aq wq hNq hO hR hT
        exact does_loadD (o := 0) (n := 8) (mid := [w32 (root (a.take (half a.length))).a, w32 (root (a.take (half a.length))).b, w32 (root (a.take (half a.length))).c, w32 (root (a.take (half a.length))).d, w32 (root (a.drop (half a.length))).a, w32 (root (a.drop (half a.length))).b, w32 (root (a.drop (half a.length))).c, w32 (root (a.drop (half a.length))).d]) ((hO 8 rfl).trans s8_10) (hbb8_11.ext' hR) rfl rfl (Nat.le_of_ble_eq_true rfl) row_32 rfl ⟨Ext.refl _, rfl⟩
      · refine Ask.plain rfl rfl ?_
        intro aq wq hNq hO hR hT
        exact does_loadD (o := 0) (n := 8) (mid := [w32 (root (b.take (half a.length))).a, w32 (root (b.take (half a.length))).b, w32 (root (b.take (half a.length))).c, w32 (root (b.take (half a.length))).d, w32 (root (b.drop (half a.length))).a, w32 (root (b.drop (half a.length))).b, w32 (root (b.drop (half a.length))).c, w32 (root (b.drop (half a.length))).d]) ((hO 9 rfl).trans s9_10) (hbb9_11.ext' hR) rfl rfl (Nat.le_of_ble_eq_true rfl) row_32 rfl ⟨Ext.refl _, rfl⟩
      · refine Ask.plain rfl rfl ?_
        intro aq wq hNq hO hR hT
        exact does_neT (a := ((root (a.take (half a.length)), root (a.drop (half a.length))) : Two)) (b := ((root (b.take (half a.length)), root (b.drop (half a.length))) : Two)) eq_32 (hT 50 rfl rfl) (hT 51 rfl rfl) ⟨Ext.refl _, rfl⟩
    intro a12 wd12 hN_12 hD_12 hO hR hA hU
    obtain ⟨_, _, t52, _⟩ := hA
    have hE_12 := hE_11.trans hR
    have s0_12 := (hO 0 rfl).trans s0_10
    have s1_12 := (hO 1 rfl).trans s1_10
    have s4_12 := (hO 4 rfl).trans s4_10
    have s5_12 := (hO 5 rfl).trans s5_10
    have s7_12 := (hO 7 rfl).trans s7_10
    have s8_12 := (hO 8 rfl).trans s8_10
    have s9_12 := (hO 9 rfl).trans s9_10
    have hbb4_12 := hbb4_11.ext' hR
    have hbb5_12 := hbb5_11.ext' hR
    have hbb8_12 := hbb8_11.ext' hR
    have hbb9_12 := hbb9_11.ext' hR
    have hsx1_12 := hsx1_11.ext' hR
    have hsx2_12 := hsx2_11.ext' hR
    have s52_12 : get a12 52 = Value.bool (!decide (((root (a.take (half a.length)), root (a.drop (half a.length))) : Two) = ((root (b.take (half a.length)), root (b.drop (half a.length))) : Two))) := t52
    clear hE_11 hN_10 hD_10 s0_10 s1_10 s4_10 s5_10 s7_10 s8_10 s9_10 s49_10 hbb4_11 hbb5_11 hbb8_11 hbb9_11 hsx1_11 hsx2_11
    refine tail_nil ?_
    refine wp_if (B := !decide (((root (a.take (half a.length)), root (a.drop (half a.length))) : Two) = ((root (b.take (half a.length)), root (b.drop (half a.length))) : Two))) s52_12 (fun hc1 => ?_) (fun hc1 => ?_)
    · -- T 1
      have hc1 := of_decide_eq_false (bn hc1)
      refine wp_seq ?_
      refine region_late [] [(53, Pr.ex (Value.agg #[w32 (root (a.take (half a.length))).a, w32 (root (a.take (half a.length))).b, w32 (root (a.take (half a.length))).c, w32 (root (a.take (half a.length))).d, w32 (root (a.drop (half a.length))).a, w32 (root (a.drop (half a.length))).b, w32 (root (a.drop (half a.length))).c, w32 (root (a.drop (half a.length))).d])), (54, Pr.ex (Value.agg #[w32 (root (b.take (half a.length))).a, w32 (root (b.take (half a.length))).b, w32 (root (b.take (half a.length))).c, w32 (root (b.take (half a.length))).d, w32 (root (b.drop (half a.length))).a, w32 (root (b.drop (half a.length))).b, w32 (root (b.drop (half a.length))).c, w32 (root (b.drop (half a.length))).d]))] 2 [1] (fun k => k = b4 ∨ k = b5) mixed hN_12 hD_12 (by kernel_rfl) (by kernel_rfl) (by kernel_rfl) (by kernel_rfl) (fun d v c a w h => by cases d <;> exact h) ?_ ?_ ?_
      · refine Asks.cons ?_ (Asks.cons ?_ (Asks.zero _))
        · refine Ask.plain rfl rfl ?_
          intro aq wq hNq hO hR hT
          replace hR := (Ext.drew _).trans hR
          exact does_loadD (o := 0) (n := 8) (mid := [w32 (root (a.take (half a.length))).a, w32 (root (a.take (half a.length))).b, w32 (root (a.take (half a.length))).c, w32 (root (a.take (half a.length))).d, w32 (root (a.drop (half a.length))).a, w32 (root (a.drop (half a.length))).b, w32 (root (a.drop (half a.length))).c, w32 (root (a.drop (half a.length))).d]) ((hO 8 rfl).trans s8_12) (hbb8_12.ext' hR) rfl rfl (Nat.le_of_ble_eq_true rfl) row_32 rfl ⟨Ext.refl _, rfl⟩
        · refine Ask.plain rfl rfl ?_
          intro aq wq hNq hO hR hT
          replace hR := (Ext.drew _).trans hR
          exact does_loadD (o := 0) (n := 8) (mid := [w32 (root (b.take (half a.length))).a, w32 (root (b.take (half a.length))).b, w32 (root (b.take (half a.length))).c, w32 (root (b.take (half a.length))).d, w32 (root (b.drop (half a.length))).a, w32 (root (b.drop (half a.length))).b, w32 (root (b.drop (half a.length))).c, w32 (root (b.drop (half a.length))).d]) ((hO 9 rfl).trans s9_12) (hbb9_12.ext' hR) rfl rfl (Nat.le_of_ble_eq_true rfl) row_32 rfl ⟨Ext.refl _, rfl⟩
      · refine LateAsks.cons rfl rfl rfl ?_ LateAsks.nil
        · intro aq wq hO hR hT
          have hR0 := hR
          replace hR := (Ext.drew _).trans hR
          exact ⟨_, yl_loadD (o := 0) (n := 8) (mid := [w32 (root (b.take (half a.length))).a, w32 (root (b.take (half a.length))).b, w32 (root (b.take (half a.length))).c, w32 (root (b.take (half a.length))).d, w32 (root (b.drop (half a.length))).a, w32 (root (b.drop (half a.length))).b, w32 (root (b.drop (half a.length))).c, w32 (root (b.drop (half a.length))).d]) ((hO 9 rfl).trans s9_12) hbb9_12 (fun e => e.elim ne_b4_b9.symm ne_b5_b9.symm) rfl rfl (Nat.le_of_ble_eq_true rfl) row_32 rfl, rfl⟩
      intro wl hwl hwh a13 wd13 hN_13 hD_13 hO hR hA hU
      have hS_13 : ExtE (fun k => k = b4 ∨ k = b5) wl wd13 := hR.toE
      replace hR := hwl.trans hR
      obtain ⟨t53, t54, _⟩ := hA
      have hE_13 := hE_12.trans hR
      have s4_13 := (hO 4 rfl).trans s4_12
      have s5_13 := (hO 5 rfl).trans s5_12
      have hbb4_13 := hbb4_12.ext' hR
      have hbb5_13 := hbb5_12.ext' hR
      have hbb8_13 := hbb8_12.ext' hR
      have hbb9_13 := hbb9_12.ext' hR
      have hsx1_13 := hsx1_12.ext' hR
      have hsx2_13 := hsx2_12.ext' hR
      have s53_13 : get a13 53 = Value.agg #[w32 (root (a.take (half a.length))).a, w32 (root (a.take (half a.length))).b, w32 (root (a.take (half a.length))).c, w32 (root (a.take (half a.length))).d, w32 (root (a.drop (half a.length))).a, w32 (root (a.drop (half a.length))).b, w32 (root (a.drop (half a.length))).c, w32 (root (a.drop (half a.length))).d] := t53
      have s54_13 : get a13 54 = Value.agg #[w32 (root (b.take (half a.length))).a, w32 (root (b.take (half a.length))).b, w32 (root (b.take (half a.length))).c, w32 (root (b.take (half a.length))).d, w32 (root (b.drop (half a.length))).a, w32 (root (b.drop (half a.length))).b, w32 (root (b.drop (half a.length))).c, w32 (root (b.drop (half a.length))).d] := t54
      clear hE_12 hN_12 hD_12 s0_12 s1_12 s4_12 s5_12 s7_12 s8_12 s9_12 s52_12 hbb4_12 hbb5_12 hbb8_12 hbb9_12 hsx1_12 hsx2_12
      refine tailS_none rfl rfl (does_storeD (o := 0) (n := 8) (cs' := [w32 (root (a.take (half a.length))).a, w32 (root (a.take (half a.length))).b, w32 (root (a.take (half a.length))).c, w32 (root (a.take (half a.length))).d, w32 (root (a.drop (half a.length))).a, w32 (root (a.drop (half a.length))).b, w32 (root (a.drop (half a.length))).c, w32 (root (a.drop (half a.length))).d]) (V := Value.agg #[w32 (root (a.take (half a.length))).a, w32 (root (a.take (half a.length))).b, w32 (root (a.take (half a.length))).c, w32 (root (a.take (half a.length))).d, w32 (root (a.drop (half a.length))).a, w32 (root (a.drop (half a.length))).b, w32 (root (a.drop (half a.length))).c, w32 (root (a.drop (half a.length))).d]) s4_13 s53_13 hbb4_13 (Nat.le_of_ble_eq_true rfl) rfl siz_32 rfl rfl (fun wd14 hX hz hbb4_14 => ⟨hS_13.trans (hX.mono fun k _ e => .inl e), ?_⟩))
      have hS_14 := hS_13.trans (hX.mono (E' := (fun k => k = b4 ∨ k = b5)) fun k _ e => .inl e)
      have hE_14 := hE_13.since hX (fun k e => e ▸ fr_b4)
      have hbb5_14 := hbb5_13.ext hX ne_b4_b5.symm
      have hbb8_14 := hbb8_13.ext hX ne_b4_b8.symm
      have hbb9_14 := hbb9_13.ext hX ne_b4_b9.symm
      have hsx1_14 := SlT.over hsx1_13 hX nb_x1_b4
      have hsx2_14 := SlT.over hsx2_13 hX nb_x2_b4
      clear hX hz hE_13 hbb4_13 hbb5_13 hbb8_13 hbb9_13 hsx1_13 hsx2_13
      refine tailS_none rfl rfl (does_storeD (o := 0) (n := 8) (cs' := [w32 (root (b.take (half a.length))).a, w32 (root (b.take (half a.length))).b, w32 (root (b.take (half a.length))).c, w32 (root (b.take (half a.length))).d, w32 (root (b.drop (half a.length))).a, w32 (root (b.drop (half a.length))).b, w32 (root (b.drop (half a.length))).c, w32 (root (b.drop (half a.length))).d]) (V := Value.agg #[w32 (root (b.take (half a.length))).a, w32 (root (b.take (half a.length))).b, w32 (root (b.take (half a.length))).c, w32 (root (b.take (half a.length))).d, w32 (root (b.drop (half a.length))).a, w32 (root (b.drop (half a.length))).b, w32 (root (b.drop (half a.length))).c, w32 (root (b.drop (half a.length))).d]) s5_13 s54_13 hbb5_14 (Nat.le_of_ble_eq_true rfl) rfl siz_32 rfl rfl (fun wd15 hX hz hbb5_15 => ⟨hS_14.trans (hX.mono fun k _ e => .inr e), ?_⟩))
      have hS_15 := hS_14.trans (hX.mono (E' := (fun k => k = b4 ∨ k = b5)) fun k _ e => .inr e)
      have hE_15 := hE_14.since hX (fun k e => e ▸ fr_b5)
      have hbb4_15 := hbb4_14.ext hX ne_b4_b5
      have hbb8_15 := hbb8_14.ext hX ne_b5_b8.symm
      have hbb9_15 := hbb9_14.ext hX ne_b5_b9.symm
      have hsx1_15 := SlT.over hsx1_14 hX nb_x1_b5
      have hsx2_15 := SlT.over hsx2_14 hX nb_x2_b5
      clear hX hz hE_14 hbb4_14 hbb5_14 hbb8_14 hbb9_14 hsx1_14 hsx2_14
      refine tailS_put rfl rfl hN_13 hD_13 (by decide) (does_assign (V := Value.bool (true)) rfl (⟨hS_15, fun a16 hN_16 hD_16 hv hO => ?_⟩))
      have s6_16 := hv
      have s4_16 := (hO 4 rfl).trans s4_13
      have s5_16 := (hO 5 rfl).trans s5_13
      clear hO hv hN_13 hD_13 s4_13 s5_13 s53_13 s54_13
      refine tailS_nil ?_
      refine wp_ret ?_
      refine res_three (V1 := Value.agg #[w32 (root (a.take (half a.length))).a, w32 (root (a.take (half a.length))).b, w32 (root (a.take (half a.length))).c, w32 (root (a.take (half a.length))).d, w32 (root (a.drop (half a.length))).a, w32 (root (a.drop (half a.length))).b, w32 (root (a.drop (half a.length))).c, w32 (root (a.drop (half a.length))).d]) (V2 := Value.agg #[w32 (root (b.take (half a.length))).a, w32 (root (b.take (half a.length))).b, w32 (root (b.take (half a.length))).c, w32 (root (b.take (half a.length))).d, w32 (root (b.drop (half a.length))).a, w32 (root (b.drop (half a.length))).b, w32 (root (b.drop (half a.length))).c, w32 (root (b.drop (half a.length))).d]) (V3 := Value.bool (true)) rfl hD_16 (ResIs.cell s4_16 hbb4_15 row_32 rfl rfl) (ResIs.cell s5_16 hbb5_15 row_32 rfl rfl) s6_16 ?_
      obtain ⟨e1, e2, e3⟩ := prods (clash_here hpq hc1)
      exact ⟨by show Value.tuple _ = Value.tuple _; rw [e1, e2, e3]; rfl, hE_15⟩
    have hc1 := of_decide_eq_true (bn' hc1)
    have hx : halves (half a.length) a = halves (half a.length) b := hc1
    refine wp_skip ?_
    refine wp_seq ?_
    refine wp_seq ?_
    refine region_any [] [(55, Pr.ex (x1)), (56, Pr.ex (i64 ((half a.length : Nat) : Int))), (57, Pr.sl' DG 0 (w0.heap.size + 1) (a.take (half a.length))), (58, Pr.ex (x2)), (59, Pr.ex (i64 ((half a.length : Nat) : Int))), (60, Pr.sl' DG 0 (w0.heap.size + 1) (b.take (half a.length))), (61, Pr.ex (Value.bool (decide (a.take (half a.length) = b.take (half a.length))))), (62, Pr.ex (Value.bool (!(decide (a.take (half a.length) = b.take (half a.length))))))] 8 mixed hN_12 hD_12 (by kernel_rfl) (by kernel_rfl) (by kernel_rfl) ?_ ?_
    · refine Asks.cons ?_ (Asks.cons ?_ (Asks.cons ?_ (Asks.cons ?_ (Asks.cons ?_ (Asks.cons ?_ (Asks.cons ?_ (Asks.cons ?_ (Asks.zero _))))))))
      · refine Ask.plain rfl rfl ?_
        intro aq wq hNq hO hR hT
        replace hR := (Ext.drew _).trans hR
        exact does_move (V := x1) ((hO 0 rfl).trans s0_12) ⟨Ext.refl _, rfl⟩
      · refine Ask.plain rfl rfl ?_
        intro aq wq hNq hO hR hT
        replace hR := (Ext.drew _).trans hR
        exact does_move (V := i64 ((half a.length : Nat) : Int)) ((hO 7 rfl).trans s7_12) ⟨Ext.refl _, rfl⟩
      · refine Ask.plain rfl rfl ?_
        intro aq wq hNq hO hR hT
        replace hR := (Ext.drew _).trans hR
        exact does_sliceHi (T := DG) (xs := a) (k := ((half a.length : Nat) : Int)) sli_27 rfl (SlT.at (hT 55 rfl rfl) (hsx1_12.ext' hR)) (hT 56 rfl rfl) (by omega) (by omega) (fun v h => ⟨Ext.refl _, h⟩)
      · refine Ask.plain rfl rfl ?_
        intro aq wq hNq hO hR hT
        replace hR := (Ext.drew _).trans hR
        exact does_move (V := x2) ((hO 1 rfl).trans s1_12) ⟨Ext.refl _, rfl⟩
      · refine Ask.plain rfl rfl ?_
        intro aq wq hNq hO hR hT
        replace hR := (Ext.drew _).trans hR
        exact does_move (V := i64 ((half a.length : Nat) : Int)) ((hO 7 rfl).trans s7_12) ⟨Ext.refl _, rfl⟩
      · refine Ask.plain rfl rfl ?_
        intro aq wq hNq hO hR hT
        replace hR := (Ext.drew _).trans hR
        exact does_sliceHi (T := DG) (xs := b) (k := ((half a.length : Nat) : Int)) sli_27 rfl (SlT.at (hT 58 rfl rfl) (hsx2_12.ext' hR)) (hT 59 rfl rfl) (by omega) (by omega) (fun v h => ⟨Ext.refl _, h⟩)
      · refine Ask.plain rfl rfl ?_
        intro aq wq hNq hO hR hT
        replace hR := (Ext.drew _).trans hR
        exact does_ret (vs := #[get aq 57, get aq 60]) call_15 (args2 rfl rfl) rfl ((same_ (a.take (half a.length)) (b.take (half a.length)) (get aq 57) (get aq 60) wq ((hT 57 rfl rfl).wide (Nat.zero_le _) (.inl rfl)) ((hT 60 rfl rfl).wide (Nat.zero_le _) (.inl rfl)) (by first | omega | (simp only [List.length_take]; omega) | (simp only [List.length_drop]; omega))).mono fun v w2 h => ⟨h.2, h.1⟩)
      · refine Ask.plain rfl rfl ?_
        intro aq wq hNq hO hR hT
        replace hR := (Ext.drew _).trans hR
        exact does_not (B := decide (a.take (half a.length) = b.take (half a.length))) (hT 61 rfl rfl) ⟨Ext.refl _, rfl⟩
    intro a17 wd17 hN_17 hD_17 hO hR hA hU
    obtain ⟨_, _, _, _, _, _, _, t62, _⟩ := hA
    have hE_17 := hE_12.trans hR
    have s0_17 := (hO 0 rfl).trans s0_12
    have s1_17 := (hO 1 rfl).trans s1_12
    have s4_17 := (hO 4 rfl).trans s4_12
    have s5_17 := (hO 5 rfl).trans s5_12
    have s7_17 := (hO 7 rfl).trans s7_12
    have hbb4_17 := hbb4_12.ext' hR
    have hbb5_17 := hbb5_12.ext' hR
    have hbb8_17 := hbb8_12.ext' hR
    have hbb9_17 := hbb9_12.ext' hR
    have hsx1_17 := hsx1_12.ext' hR
    have hsx2_17 := hsx2_12.ext' hR
    have s62_17 : get a17 62 = Value.bool (!(decide (a.take (half a.length) = b.take (half a.length)))) := t62
    clear hE_12 hN_12 hD_12 s0_12 s1_12 s4_12 s5_12 s7_12 s8_12 s9_12 s52_12 hbb4_12 hbb5_12 hbb8_12 hbb9_12 hsx1_12 hsx2_12
    refine tail_nil ?_
    refine wp_if (B := !(decide (a.take (half a.length) = b.take (half a.length)))) s62_17 (fun hc2 => ?_) (fun hc2 => ?_)
    · -- T 2
      refine wp_seq ?_
      refine region_any [] [(63, Pr.ex (x1)), (64, Pr.ex (i64 ((half a.length : Nat) : Int))), (65, Pr.sl' DG 0 (w0.heap.size + 1) (a.take (half a.length))), (66, Pr.ex (x2)), (67, Pr.ex (i64 ((half a.length : Nat) : Int))), (68, Pr.sl' DG 0 (w0.heap.size + 1) (b.take (half a.length))), (69, Pr.ex (Value.tuple #[Value.agg #[w32 ((clash (a.take (half a.length)) (b.take (half a.length))).1.1).a, w32 ((clash (a.take (half a.length)) (b.take (half a.length))).1.1).b, w32 ((clash (a.take (half a.length)) (b.take (half a.length))).1.1).c, w32 ((clash (a.take (half a.length)) (b.take (half a.length))).1.1).d, w32 ((clash (a.take (half a.length)) (b.take (half a.length))).1.2).a, w32 ((clash (a.take (half a.length)) (b.take (half a.length))).1.2).b, w32 ((clash (a.take (half a.length)) (b.take (half a.length))).1.2).c, w32 ((clash (a.take (half a.length)) (b.take (half a.length))).1.2).d], Value.agg #[w32 ((clash (a.take (half a.length)) (b.take (half a.length))).2.1.1).a, w32 ((clash (a.take (half a.length)) (b.take (half a.length))).2.1.1).b, w32 ((clash (a.take (half a.length)) (b.take (half a.length))).2.1.1).c, w32 ((clash (a.take (half a.length)) (b.take (half a.length))).2.1.1).d, w32 ((clash (a.take (half a.length)) (b.take (half a.length))).2.1.2).a, w32 ((clash (a.take (half a.length)) (b.take (half a.length))).2.1.2).b, w32 ((clash (a.take (half a.length)) (b.take (half a.length))).2.1.2).c, w32 ((clash (a.take (half a.length)) (b.take (half a.length))).2.1.2).d], Value.bool ((clash (a.take (half a.length)) (b.take (half a.length))).2.2)])), (70, Pr.ex (Value.agg #[w32 ((clash (a.take (half a.length)) (b.take (half a.length))).1.1).a, w32 ((clash (a.take (half a.length)) (b.take (half a.length))).1.1).b, w32 ((clash (a.take (half a.length)) (b.take (half a.length))).1.1).c, w32 ((clash (a.take (half a.length)) (b.take (half a.length))).1.1).d, w32 ((clash (a.take (half a.length)) (b.take (half a.length))).1.2).a, w32 ((clash (a.take (half a.length)) (b.take (half a.length))).1.2).b, w32 ((clash (a.take (half a.length)) (b.take (half a.length))).1.2).c, w32 ((clash (a.take (half a.length)) (b.take (half a.length))).1.2).d])), (71, Pr.ex (Value.agg #[w32 ((clash (a.take (half a.length)) (b.take (half a.length))).2.1.1).a, w32 ((clash (a.take (half a.length)) (b.take (half a.length))).2.1.1).b, w32 ((clash (a.take (half a.length)) (b.take (half a.length))).2.1.1).c, w32 ((clash (a.take (half a.length)) (b.take (half a.length))).2.1.1).d, w32 ((clash (a.take (half a.length)) (b.take (half a.length))).2.1.2).a, w32 ((clash (a.take (half a.length)) (b.take (half a.length))).2.1.2).b, w32 ((clash (a.take (half a.length)) (b.take (half a.length))).2.1.2).c, w32 ((clash (a.take (half a.length)) (b.take (half a.length))).2.1.2).d])), (72, Pr.ex (Value.bool ((clash (a.take (half a.length)) (b.take (half a.length))).2.2)))] 10 mixed hN_17 hD_17 (by kernel_rfl) (by kernel_rfl) (by kernel_rfl) ?_ ?_
      · refine Asks.cons ?_ (Asks.cons ?_ (Asks.cons ?_ (Asks.cons ?_ (Asks.cons ?_ (Asks.cons ?_ (Asks.cons ?_ (Asks.cons ?_ (Asks.cons ?_ (Asks.cons ?_ (Asks.zero _))))))))))
        · refine Ask.plain rfl rfl ?_
          intro aq wq hNq hO hR hT
          replace hR := (Ext.drew _).trans hR
          exact does_move (V := x1) ((hO 0 rfl).trans s0_17) ⟨Ext.refl _, rfl⟩
        · refine Ask.plain rfl rfl ?_
          intro aq wq hNq hO hR hT
          replace hR := (Ext.drew _).trans hR
          exact does_move (V := i64 ((half a.length : Nat) : Int)) ((hO 7 rfl).trans s7_17) ⟨Ext.refl _, rfl⟩
        · refine Ask.plain rfl rfl ?_
          intro aq wq hNq hO hR hT
          replace hR := (Ext.drew _).trans hR
          exact does_sliceHi (T := DG) (xs := a) (k := ((half a.length : Nat) : Int)) sli_27 rfl (SlT.at (hT 63 rfl rfl) (hsx1_17.ext' hR)) (hT 64 rfl rfl) (by omega) (by omega) (fun v h => ⟨Ext.refl _, h⟩)
        · refine Ask.plain rfl rfl ?_
          intro aq wq hNq hO hR hT
          replace hR := (Ext.drew _).trans hR
          exact does_move (V := x2) ((hO 1 rfl).trans s1_17) ⟨Ext.refl _, rfl⟩
        · refine Ask.plain rfl rfl ?_
          intro aq wq hNq hO hR hT
          replace hR := (Ext.drew _).trans hR
          exact does_move (V := i64 ((half a.length : Nat) : Int)) ((hO 7 rfl).trans s7_17) ⟨Ext.refl _, rfl⟩
        · refine Ask.plain rfl rfl ?_
          intro aq wq hNq hO hR hT
          replace hR := (Ext.drew _).trans hR
          exact does_sliceHi (T := DG) (xs := b) (k := ((half a.length : Nat) : Int)) sli_27 rfl (SlT.at (hT 66 rfl rfl) (hsx2_17.ext' hR)) (hT 67 rfl rfl) (by omega) (by omega) (fun v h => ⟨Ext.refl _, h⟩)
        · refine Ask.plain rfl rfl ?_
          intro aq wq hNq hO hR hT
          replace hR := (Ext.drew _).trans hR
          exact does_ret (vs := #[get aq 65, get aq 68]) call_14 (args2 rfl rfl) rfl ((ih _ (by first | (simp only [List.length_take]; omega) | (simp only [List.length_drop]; omega)) (a.take (half a.length)) (b.take (half a.length)) (get aq 65) (get aq 68) wq ((hT 65 rfl rfl).wide (Nat.zero_le _) (.inl rfl)) ((hT 68 rfl rfl).wide (Nat.zero_le _) (.inl rfl)) (by first | (simp only [List.length_take]; omega) | (simp only [List.length_drop]; omega)) (by first | (simp only [List.length_take]; omega) | (simp only [List.length_drop]; omega)) rfl).mono fun v w2 h => ⟨h.2, h.1⟩)
        · refine Ask.plain rfl rfl ?_
          intro aq wq hNq hO hR hT
          replace hR := (Ext.drew _).trans hR
          exact does_extract (V := Value.agg #[w32 ((clash (a.take (half a.length)) (b.take (half a.length))).1.1).a, w32 ((clash (a.take (half a.length)) (b.take (half a.length))).1.1).b, w32 ((clash (a.take (half a.length)) (b.take (half a.length))).1.1).c, w32 ((clash (a.take (half a.length)) (b.take (half a.length))).1.1).d, w32 ((clash (a.take (half a.length)) (b.take (half a.length))).1.2).a, w32 ((clash (a.take (half a.length)) (b.take (half a.length))).1.2).b, w32 ((clash (a.take (half a.length)) (b.take (half a.length))).1.2).c, w32 ((clash (a.take (half a.length)) (b.take (half a.length))).1.2).d]) (hT 69 rfl rfl) rfl ⟨Ext.refl _, rfl⟩
        · refine Ask.plain rfl rfl ?_
          intro aq wq hNq hO hR hT
          replace hR := (Ext.drew _).trans hR
          exact does_extract (V := Value.agg #[w32 ((clash (a.take (half a.length)) (b.take (half a.length))).2.1.1).a, w32 ((clash (a.take (half a.length)) (b.take (half a.length))).2.1.1).b, w32 ((clash (a.take (half a.length)) (b.take (half a.length))).2.1.1).c, w32 ((clash (a.take (half a.length)) (b.take (half a.length))).2.1.1).d, w32 ((clash (a.take (half a.length)) (b.take (half a.length))).2.1.2).a, w32 ((clash (a.take (half a.length)) (b.take (half a.length))).2.1.2).b, w32 ((clash (a.take (half a.length)) (b.take (half a.length))).2.1.2).c, w32 ((clash (a.take (half a.length)) (b.take (half a.length))).2.1.2).d]) (hT 69 rfl rfl) rfl ⟨Ext.refl _, rfl⟩
        · refine Ask.plain rfl rfl ?_
          intro aq wq hNq hO hR hT
          replace hR := (Ext.drew _).trans hR
          exact does_extract (V := Value.bool ((clash (a.take (half a.length)) (b.take (half a.length))).2.2)) (hT 69 rfl rfl) rfl ⟨Ext.refl _, rfl⟩
      intro a18 wd18 hN_18 hD_18 hO hR hA hU
      obtain ⟨_, _, _, _, _, _, _, t70, t71, t72, _⟩ := hA
      have hE_18 := hE_17.trans hR
      have s4_18 := (hO 4 rfl).trans s4_17
      have s5_18 := (hO 5 rfl).trans s5_17
      have hbb4_18 := hbb4_17.ext' hR
      have hbb5_18 := hbb5_17.ext' hR
      have hbb8_18 := hbb8_17.ext' hR
      have hbb9_18 := hbb9_17.ext' hR
      have hsx1_18 := hsx1_17.ext' hR
      have hsx2_18 := hsx2_17.ext' hR
      have s70_18 : get a18 70 = Value.agg #[w32 ((clash (a.take (half a.length)) (b.take (half a.length))).1.1).a, w32 ((clash (a.take (half a.length)) (b.take (half a.length))).1.1).b, w32 ((clash (a.take (half a.length)) (b.take (half a.length))).1.1).c, w32 ((clash (a.take (half a.length)) (b.take (half a.length))).1.1).d, w32 ((clash (a.take (half a.length)) (b.take (half a.length))).1.2).a, w32 ((clash (a.take (half a.length)) (b.take (half a.length))).1.2).b, w32 ((clash (a.take (half a.length)) (b.take (half a.length))).1.2).c, w32 ((clash (a.take (half a.length)) (b.take (half a.length))).1.2).d] := t70
      have s71_18 : get a18 71 = Value.agg #[w32 ((clash (a.take (half a.length)) (b.take (half a.length))).2.1.1).a, w32 ((clash (a.take (half a.length)) (b.take (half a.length))).2.1.1).b, w32 ((clash (a.take (half a.length)) (b.take (half a.length))).2.1.1).c, w32 ((clash (a.take (half a.length)) (b.take (half a.length))).2.1.1).d, w32 ((clash (a.take (half a.length)) (b.take (half a.length))).2.1.2).a, w32 ((clash (a.take (half a.length)) (b.take (half a.length))).2.1.2).b, w32 ((clash (a.take (half a.length)) (b.take (half a.length))).2.1.2).c, w32 ((clash (a.take (half a.length)) (b.take (half a.length))).2.1.2).d] := t71
      have s72_18 : get a18 72 = Value.bool ((clash (a.take (half a.length)) (b.take (half a.length))).2.2) := t72
      clear hE_17 hN_17 hD_17 s0_17 s1_17 s4_17 s5_17 s7_17 s62_17 hbb4_17 hbb5_17 hbb8_17 hbb9_17 hsx1_17 hsx2_17
      refine tail_none rfl rfl (does_storeD (o := 0) (n := 8) (cs' := [w32 ((clash (a.take (half a.length)) (b.take (half a.length))).1.1).a, w32 ((clash (a.take (half a.length)) (b.take (half a.length))).1.1).b, w32 ((clash (a.take (half a.length)) (b.take (half a.length))).1.1).c, w32 ((clash (a.take (half a.length)) (b.take (half a.length))).1.1).d, w32 ((clash (a.take (half a.length)) (b.take (half a.length))).1.2).a, w32 ((clash (a.take (half a.length)) (b.take (half a.length))).1.2).b, w32 ((clash (a.take (half a.length)) (b.take (half a.length))).1.2).c, w32 ((clash (a.take (half a.length)) (b.take (half a.length))).1.2).d]) (V := Value.agg #[w32 ((clash (a.take (half a.length)) (b.take (half a.length))).1.1).a, w32 ((clash (a.take (half a.length)) (b.take (half a.length))).1.1).b, w32 ((clash (a.take (half a.length)) (b.take (half a.length))).1.1).c, w32 ((clash (a.take (half a.length)) (b.take (half a.length))).1.1).d, w32 ((clash (a.take (half a.length)) (b.take (half a.length))).1.2).a, w32 ((clash (a.take (half a.length)) (b.take (half a.length))).1.2).b, w32 ((clash (a.take (half a.length)) (b.take (half a.length))).1.2).c, w32 ((clash (a.take (half a.length)) (b.take (half a.length))).1.2).d]) s4_18 s70_18 hbb4_18 (Nat.le_of_ble_eq_true rfl) rfl siz_32 rfl rfl (fun wd19 hX hz hbb4_19 => ?_))
      have hE_19 := hE_18.since hX (fun k e => e ▸ fr_b4)
      have hbb5_19 := hbb5_18.ext hX ne_b4_b5.symm
      have hbb8_19 := hbb8_18.ext hX ne_b4_b8.symm
      have hbb9_19 := hbb9_18.ext hX ne_b4_b9.symm
      have hsx1_19 := SlT.over hsx1_18 hX nb_x1_b4
      have hsx2_19 := SlT.over hsx2_18 hX nb_x2_b4
      clear hX hz hE_18 hbb4_18 hbb5_18 hbb8_18 hbb9_18 hsx1_18 hsx2_18
      refine tail_none rfl rfl (does_storeD (o := 0) (n := 8) (cs' := [w32 ((clash (a.take (half a.length)) (b.take (half a.length))).2.1.1).a, w32 ((clash (a.take (half a.length)) (b.take (half a.length))).2.1.1).b, w32 ((clash (a.take (half a.length)) (b.take (half a.length))).2.1.1).c, w32 ((clash (a.take (half a.length)) (b.take (half a.length))).2.1.1).d, w32 ((clash (a.take (half a.length)) (b.take (half a.length))).2.1.2).a, w32 ((clash (a.take (half a.length)) (b.take (half a.length))).2.1.2).b, w32 ((clash (a.take (half a.length)) (b.take (half a.length))).2.1.2).c, w32 ((clash (a.take (half a.length)) (b.take (half a.length))).2.1.2).d]) (V := Value.agg #[w32 ((clash (a.take (half a.length)) (b.take (half a.length))).2.1.1).a, w32 ((clash (a.take (half a.length)) (b.take (half a.length))).2.1.1).b, w32 ((clash (a.take (half a.length)) (b.take (half a.length))).2.1.1).c, w32 ((clash (a.take (half a.length)) (b.take (half a.length))).2.1.1).d, w32 ((clash (a.take (half a.length)) (b.take (half a.length))).2.1.2).a, w32 ((clash (a.take (half a.length)) (b.take (half a.length))).2.1.2).b, w32 ((clash (a.take (half a.length)) (b.take (half a.length))).2.1.2).c, w32 ((clash (a.take (half a.length)) (b.take (half a.length))).2.1.2).d]) s5_18 s71_18 hbb5_19 (Nat.le_of_ble_eq_true rfl) rfl siz_32 rfl rfl (fun wd20 hX hz hbb5_20 => ?_))
      have hE_20 := hE_19.since hX (fun k e => e ▸ fr_b5)
      have hbb4_20 := hbb4_19.ext hX ne_b4_b5
      have hbb8_20 := hbb8_19.ext hX ne_b5_b8.symm
      have hbb9_20 := hbb9_19.ext hX ne_b5_b9.symm
      have hsx1_20 := SlT.over hsx1_19 hX nb_x1_b5
      have hsx2_20 := SlT.over hsx2_19 hX nb_x2_b5
      clear hX hz hE_19 hbb4_19 hbb5_19 hbb8_19 hbb9_19 hsx1_19 hsx2_19
      refine tail_put rfl rfl hN_18 hD_18 (by decide) (does_assign (V := Value.bool ((clash (a.take (half a.length)) (b.take (half a.length))).2.2)) s72_18 (fun a21 hN_21 hD_21 hv hO => ?_))
      have s6_21 := hv
      have s4_21 := (hO 4 rfl).trans s4_18
      have s5_21 := (hO 5 rfl).trans s5_18
      clear hO hv hN_18 hD_18 s4_18 s5_18 s70_18 s71_18 s72_18
      refine tail_nil ?_
      refine wp_ret ?_
      refine res_three (V1 := Value.agg #[w32 ((clash (a.take (half a.length)) (b.take (half a.length))).1.1).a, w32 ((clash (a.take (half a.length)) (b.take (half a.length))).1.1).b, w32 ((clash (a.take (half a.length)) (b.take (half a.length))).1.1).c, w32 ((clash (a.take (half a.length)) (b.take (half a.length))).1.1).d, w32 ((clash (a.take (half a.length)) (b.take (half a.length))).1.2).a, w32 ((clash (a.take (half a.length)) (b.take (half a.length))).1.2).b, w32 ((clash (a.take (half a.length)) (b.take (half a.length))).1.2).c, w32 ((clash (a.take (half a.length)) (b.take (half a.length))).1.2).d]) (V2 := Value.agg #[w32 ((clash (a.take (half a.length)) (b.take (half a.length))).2.1.1).a, w32 ((clash (a.take (half a.length)) (b.take (half a.length))).2.1.1).b, w32 ((clash (a.take (half a.length)) (b.take (half a.length))).2.1.1).c, w32 ((clash (a.take (half a.length)) (b.take (half a.length))).2.1.1).d, w32 ((clash (a.take (half a.length)) (b.take (half a.length))).2.1.2).a, w32 ((clash (a.take (half a.length)) (b.take (half a.length))).2.1.2).b, w32 ((clash (a.take (half a.length)) (b.take (half a.length))).2.1.2).c, w32 ((clash (a.take (half a.length)) (b.take (half a.length))).2.1.2).d]) (V3 := Value.bool ((clash (a.take (half a.length)) (b.take (half a.length))).2.2)) rfl hD_21 (ResIs.cell s4_21 hbb4_20 row_32 rfl rfl) (ResIs.cell s5_21 hbb5_20 row_32 rfl rfl) s6_21 ?_
      have ht := of_decide_eq_false (bn hc2)
      exact ⟨by show Value.tuple _ = Value.tuple _; rw [clash_lo hpq hx ht]; first | done | rfl, hE_20⟩
    refine wp_skip ?_
    refine wp_seq ?_
    refine region_any [] [(73, Pr.ex (x1)), (74, Pr.ex (i64 ((half a.length : Nat) : Int))), (75, Pr.sl' DG 0 (w0.heap.size + 1) (a.drop (half a.length))), (76, Pr.ex (x2)), (77, Pr.ex (i64 ((half a.length : Nat) : Int))), (78, Pr.sl' DG 0 (w0.heap.size + 1) (b.drop (half a.length))), (79, Pr.ex (Value.tuple #[Value.agg #[w32 ((clash (a.drop (half a.length)) (b.drop (half a.length))).1.1).a, w32 ((clash (a.drop (half a.length)) (b.drop (half a.length))).1.1).b, w32 ((clash (a.drop (half a.length)) (b.drop (half a.length))).1.1).c, w32 ((clash (a.drop (half a.length)) (b.drop (half a.length))).1.1).d, w32 ((clash (a.drop (half a.length)) (b.drop (half a.length))).1.2).a, w32 ((clash (a.drop (half a.length)) (b.drop (half a.length))).1.2).b, w32 ((clash (a.drop (half a.length)) (b.drop (half a.length))).1.2).c, w32 ((clash (a.drop (half a.length)) (b.drop (half a.length))).1.2).d], Value.agg #[w32 ((clash (a.drop (half a.length)) (b.drop (half a.length))).2.1.1).a, w32 ((clash (a.drop (half a.length)) (b.drop (half a.length))).2.1.1).b, w32 ((clash (a.drop (half a.length)) (b.drop (half a.length))).2.1.1).c, w32 ((clash (a.drop (half a.length)) (b.drop (half a.length))).2.1.1).d, w32 ((clash (a.drop (half a.length)) (b.drop (half a.length))).2.1.2).a, w32 ((clash (a.drop (half a.length)) (b.drop (half a.length))).2.1.2).b, w32 ((clash (a.drop (half a.length)) (b.drop (half a.length))).2.1.2).c, w32 ((clash (a.drop (half a.length)) (b.drop (half a.length))).2.1.2).d], Value.bool ((clash (a.drop (half a.length)) (b.drop (half a.length))).2.2)])), (80, Pr.ex (Value.agg #[w32 ((clash (a.drop (half a.length)) (b.drop (half a.length))).1.1).a, w32 ((clash (a.drop (half a.length)) (b.drop (half a.length))).1.1).b, w32 ((clash (a.drop (half a.length)) (b.drop (half a.length))).1.1).c, w32 ((clash (a.drop (half a.length)) (b.drop (half a.length))).1.1).d, w32 ((clash (a.drop (half a.length)) (b.drop (half a.length))).1.2).a, w32 ((clash (a.drop (half a.length)) (b.drop (half a.length))).1.2).b, w32 ((clash (a.drop (half a.length)) (b.drop (half a.length))).1.2).c, w32 ((clash (a.drop (half a.length)) (b.drop (half a.length))).1.2).d])), (81, Pr.ex (Value.agg #[w32 ((clash (a.drop (half a.length)) (b.drop (half a.length))).2.1.1).a, w32 ((clash (a.drop (half a.length)) (b.drop (half a.length))).2.1.1).b, w32 ((clash (a.drop (half a.length)) (b.drop (half a.length))).2.1.1).c, w32 ((clash (a.drop (half a.length)) (b.drop (half a.length))).2.1.1).d, w32 ((clash (a.drop (half a.length)) (b.drop (half a.length))).2.1.2).a, w32 ((clash (a.drop (half a.length)) (b.drop (half a.length))).2.1.2).b, w32 ((clash (a.drop (half a.length)) (b.drop (half a.length))).2.1.2).c, w32 ((clash (a.drop (half a.length)) (b.drop (half a.length))).2.1.2).d])), (82, Pr.ex (Value.bool ((clash (a.drop (half a.length)) (b.drop (half a.length))).2.2)))] 10 mixed hN_17 hD_17 (by kernel_rfl) (by kernel_rfl) (by kernel_rfl) ?_ ?_
    · refine Asks.cons ?_ (Asks.cons ?_ (Asks.cons ?_ (Asks.cons ?_ (Asks.cons ?_ (Asks.cons ?_ (Asks.cons ?_ (Asks.cons ?_ (Asks.cons ?_ (Asks.cons ?_ (Asks.zero _))))))))))
      · refine Ask.plain rfl rfl ?_
        intro aq wq hNq hO hR hT
        replace hR := (Ext.drew _).trans hR
        exact does_move (V := x1) ((hO 0 rfl).trans s0_17) ⟨Ext.refl _, rfl⟩
      · refine Ask.plain rfl rfl ?_
        intro aq wq hNq hO hR hT
        replace hR := (Ext.drew _).trans hR
        exact does_move (V := i64 ((half a.length : Nat) : Int)) ((hO 7 rfl).trans s7_17) ⟨Ext.refl _, rfl⟩
      · refine Ask.plain rfl rfl ?_
        intro aq wq hNq hO hR hT
        replace hR := (Ext.drew _).trans hR
        exact does_sliceLo (T := DG) (xs := a) (k := ((half a.length : Nat) : Int)) sli_27 rfl (SlT.at (hT 73 rfl rfl) (hsx1_17.ext' hR)) (hT 74 rfl rfl) (by omega) (by omega) (fun v h => ⟨Ext.refl _, h⟩)
      · refine Ask.plain rfl rfl ?_
        intro aq wq hNq hO hR hT
        replace hR := (Ext.drew _).trans hR
        exact does_move (V := x2) ((hO 1 rfl).trans s1_17) ⟨Ext.refl _, rfl⟩
      · refine Ask.plain rfl rfl ?_
        intro aq wq hNq hO hR hT
        replace hR := (Ext.drew _).trans hR
        exact does_move (V := i64 ((half a.length : Nat) : Int)) ((hO 7 rfl).trans s7_17) ⟨Ext.refl _, rfl⟩
      · refine Ask.plain rfl rfl ?_
        intro aq wq hNq hO hR hT
        replace hR := (Ext.drew _).trans hR
        exact does_sliceLo (T := DG) (xs := b) (k := ((half a.length : Nat) : Int)) sli_27 rfl (SlT.at (hT 76 rfl rfl) (hsx2_17.ext' hR)) (hT 77 rfl rfl) (by omega) (by omega) (fun v h => ⟨Ext.refl _, h⟩)
      · refine Ask.plain rfl rfl ?_
        intro aq wq hNq hO hR hT
        replace hR := (Ext.drew _).trans hR
        exact does_ret (vs := #[get aq 75, get aq 78]) call_14 (args2 rfl rfl) rfl ((ih _ (by first | (simp only [List.length_take]; omega) | (simp only [List.length_drop]; omega)) (a.drop (half a.length)) (b.drop (half a.length)) (get aq 75) (get aq 78) wq ((hT 75 rfl rfl).wide (Nat.zero_le _) (.inl rfl)) ((hT 78 rfl rfl).wide (Nat.zero_le _) (.inl rfl)) (by first | (simp only [List.length_take]; omega) | (simp only [List.length_drop]; omega)) (by first | (simp only [List.length_take]; omega) | (simp only [List.length_drop]; omega)) rfl).mono fun v w2 h => ⟨h.2, h.1⟩)
      · refine Ask.plain rfl rfl ?_
        intro aq wq hNq hO hR hT
        replace hR := (Ext.drew _).trans hR
        exact does_extract (V := Value.agg #[w32 ((clash (a.drop (half a.length)) (b.drop (half a.length))).1.1).a, w32 ((clash (a.drop (half a.length)) (b.drop (half a.length))).1.1).b, w32 ((clash (a.drop (half a.length)) (b.drop (half a.length))).1.1).c, w32 ((clash (a.drop (half a.length)) (b.drop (half a.length))).1.1).d, w32 ((clash (a.drop (half a.length)) (b.drop (half a.length))).1.2).a, w32 ((clash (a.drop (half a.length)) (b.drop (half a.length))).1.2).b, w32 ((clash (a.drop (half a.length)) (b.drop (half a.length))).1.2).c, w32 ((clash (a.drop (half a.length)) (b.drop (half a.length))).1.2).d]) (hT 79 rfl rfl) rfl ⟨Ext.refl _, rfl⟩
      · refine Ask.plain rfl rfl ?_
        intro aq wq hNq hO hR hT
        replace hR := (Ext.drew _).trans hR
        exact does_extract (V := Value.agg #[w32 ((clash (a.drop (half a.length)) (b.drop (half a.length))).2.1.1).a, w32 ((clash (a.drop (half a.length)) (b.drop (half a.length))).2.1.1).b, w32 ((clash (a.drop (half a.length)) (b.drop (half a.length))).2.1.1).c, w32 ((clash (a.drop (half a.length)) (b.drop (half a.length))).2.1.1).d, w32 ((clash (a.drop (half a.length)) (b.drop (half a.length))).2.1.2).a, w32 ((clash (a.drop (half a.length)) (b.drop (half a.length))).2.1.2).b, w32 ((clash (a.drop (half a.length)) (b.drop (half a.length))).2.1.2).c, w32 ((clash (a.drop (half a.length)) (b.drop (half a.length))).2.1.2).d]) (hT 79 rfl rfl) rfl ⟨Ext.refl _, rfl⟩
      · refine Ask.plain rfl rfl ?_
        intro aq wq hNq hO hR hT
        replace hR := (Ext.drew _).trans hR
        exact does_extract (V := Value.bool ((clash (a.drop (half a.length)) (b.drop (half a.length))).2.2)) (hT 79 rfl rfl) rfl ⟨Ext.refl _, rfl⟩
    intro a22 wd22 hN_22 hD_22 hO hR hA hU
    obtain ⟨_, _, _, _, _, _, _, t80, t81, t82, _⟩ := hA
    have hE_22 := hE_17.trans hR
    have s4_22 := (hO 4 rfl).trans s4_17
    have s5_22 := (hO 5 rfl).trans s5_17
    have hbb4_22 := hbb4_17.ext' hR
    have hbb5_22 := hbb5_17.ext' hR
    have hbb8_22 := hbb8_17.ext' hR
    have hbb9_22 := hbb9_17.ext' hR
    have hsx1_22 := hsx1_17.ext' hR
    have hsx2_22 := hsx2_17.ext' hR
    have s80_22 : get a22 80 = Value.agg #[w32 ((clash (a.drop (half a.length)) (b.drop (half a.length))).1.1).a, w32 ((clash (a.drop (half a.length)) (b.drop (half a.length))).1.1).b, w32 ((clash (a.drop (half a.length)) (b.drop (half a.length))).1.1).c, w32 ((clash (a.drop (half a.length)) (b.drop (half a.length))).1.1).d, w32 ((clash (a.drop (half a.length)) (b.drop (half a.length))).1.2).a, w32 ((clash (a.drop (half a.length)) (b.drop (half a.length))).1.2).b, w32 ((clash (a.drop (half a.length)) (b.drop (half a.length))).1.2).c, w32 ((clash (a.drop (half a.length)) (b.drop (half a.length))).1.2).d] := t80
    have s81_22 : get a22 81 = Value.agg #[w32 ((clash (a.drop (half a.length)) (b.drop (half a.length))).2.1.1).a, w32 ((clash (a.drop (half a.length)) (b.drop (half a.length))).2.1.1).b, w32 ((clash (a.drop (half a.length)) (b.drop (half a.length))).2.1.1).c, w32 ((clash (a.drop (half a.length)) (b.drop (half a.length))).2.1.1).d, w32 ((clash (a.drop (half a.length)) (b.drop (half a.length))).2.1.2).a, w32 ((clash (a.drop (half a.length)) (b.drop (half a.length))).2.1.2).b, w32 ((clash (a.drop (half a.length)) (b.drop (half a.length))).2.1.2).c, w32 ((clash (a.drop (half a.length)) (b.drop (half a.length))).2.1.2).d] := t81
    have s82_22 : get a22 82 = Value.bool ((clash (a.drop (half a.length)) (b.drop (half a.length))).2.2) := t82
    clear hE_17 hN_17 hD_17 s0_17 s1_17 s4_17 s5_17 s7_17 s62_17 hbb4_17 hbb5_17 hbb8_17 hbb9_17 hsx1_17 hsx2_17
    refine tail_none rfl rfl (does_storeD (o := 0) (n := 8) (cs' := [w32 ((clash (a.drop (half a.length)) (b.drop (half a.length))).1.1).a, w32 ((clash (a.drop (half a.length)) (b.drop (half a.length))).1.1).b, w32 ((clash (a.drop (half a.length)) (b.drop (half a.length))).1.1).c, w32 ((clash (a.drop (half a.length)) (b.drop (half a.length))).1.1).d, w32 ((clash (a.drop (half a.length)) (b.drop (half a.length))).1.2).a, w32 ((clash (a.drop (half a.length)) (b.drop (half a.length))).1.2).b, w32 ((clash (a.drop (half a.length)) (b.drop (half a.length))).1.2).c, w32 ((clash (a.drop (half a.length)) (b.drop (half a.length))).1.2).d]) (V := Value.agg #[w32 ((clash (a.drop (half a.length)) (b.drop (half a.length))).1.1).a, w32 ((clash (a.drop (half a.length)) (b.drop (half a.length))).1.1).b, w32 ((clash (a.drop (half a.length)) (b.drop (half a.length))).1.1).c, w32 ((clash (a.drop (half a.length)) (b.drop (half a.length))).1.1).d, w32 ((clash (a.drop (half a.length)) (b.drop (half a.length))).1.2).a, w32 ((clash (a.drop (half a.length)) (b.drop (half a.length))).1.2).b, w32 ((clash (a.drop (half a.length)) (b.drop (half a.length))).1.2).c, w32 ((clash (a.drop (half a.length)) (b.drop (half a.length))).1.2).d]) s4_22 s80_22 hbb4_22 (Nat.le_of_ble_eq_true rfl) rfl siz_32 rfl rfl (fun wd23 hX hz hbb4_23 => ?_))
    have hE_23 := hE_22.since hX (fun k e => e ▸ fr_b4)
    have hbb5_23 := hbb5_22.ext hX ne_b4_b5.symm
    have hbb8_23 := hbb8_22.ext hX ne_b4_b8.symm
    have hbb9_23 := hbb9_22.ext hX ne_b4_b9.symm
    have hsx1_23 := SlT.over hsx1_22 hX nb_x1_b4
    have hsx2_23 := SlT.over hsx2_22 hX nb_x2_b4
    clear hX hz hE_22 hbb4_22 hbb5_22 hbb8_22 hbb9_22 hsx1_22 hsx2_22
    refine tail_none rfl rfl (does_storeD (o := 0) (n := 8) (cs' := [w32 ((clash (a.drop (half a.length)) (b.drop (half a.length))).2.1.1).a, w32 ((clash (a.drop (half a.length)) (b.drop (half a.length))).2.1.1).b, w32 ((clash (a.drop (half a.length)) (b.drop (half a.length))).2.1.1).c, w32 ((clash (a.drop (half a.length)) (b.drop (half a.length))).2.1.1).d, w32 ((clash (a.drop (half a.length)) (b.drop (half a.length))).2.1.2).a, w32 ((clash (a.drop (half a.length)) (b.drop (half a.length))).2.1.2).b, w32 ((clash (a.drop (half a.length)) (b.drop (half a.length))).2.1.2).c, w32 ((clash (a.drop (half a.length)) (b.drop (half a.length))).2.1.2).d]) (V := Value.agg #[w32 ((clash (a.drop (half a.length)) (b.drop (half a.length))).2.1.1).a, w32 ((clash (a.drop (half a.length)) (b.drop (half a.length))).2.1.1).b, w32 ((clash (a.drop (half a.length)) (b.drop (half a.length))).2.1.1).c, w32 ((clash (a.drop (half a.length)) (b.drop (half a.length))).2.1.1).d, w32 ((clash (a.drop (half a.length)) (b.drop (half a.length))).2.1.2).a, w32 ((clash (a.drop (half a.length)) (b.drop (half a.length))).2.1.2).b, w32 ((clash (a.drop (half a.length)) (b.drop (half a.length))).2.1.2).c, w32 ((clash (a.drop (half a.length)) (b.drop (half a.length))).2.1.2).d]) s5_22 s81_22 hbb5_23 (Nat.le_of_ble_eq_true rfl) rfl siz_32 rfl rfl (fun wd24 hX hz hbb5_24 => ?_))
    have hE_24 := hE_23.since hX (fun k e => e ▸ fr_b5)
    have hbb4_24 := hbb4_23.ext hX ne_b4_b5
    have hbb8_24 := hbb8_23.ext hX ne_b5_b8.symm
    have hbb9_24 := hbb9_23.ext hX ne_b5_b9.symm
    have hsx1_24 := SlT.over hsx1_23 hX nb_x1_b5
    have hsx2_24 := SlT.over hsx2_23 hX nb_x2_b5
    clear hX hz hE_23 hbb4_23 hbb5_23 hbb8_23 hbb9_23 hsx1_23 hsx2_23
    refine tail_put rfl rfl hN_22 hD_22 (by decide) (does_assign (V := Value.bool ((clash (a.drop (half a.length)) (b.drop (half a.length))).2.2)) s82_22 (fun a25 hN_25 hD_25 hv hO => ?_))
    have s6_25 := hv
    have s4_25 := (hO 4 rfl).trans s4_22
    have s5_25 := (hO 5 rfl).trans s5_22
    clear hO hv hN_22 hD_22 s4_22 s5_22 s80_22 s81_22 s82_22
    refine tail_nil ?_
    refine wp_ret ?_
    refine res_three (V1 := Value.agg #[w32 ((clash (a.drop (half a.length)) (b.drop (half a.length))).1.1).a, w32 ((clash (a.drop (half a.length)) (b.drop (half a.length))).1.1).b, w32 ((clash (a.drop (half a.length)) (b.drop (half a.length))).1.1).c, w32 ((clash (a.drop (half a.length)) (b.drop (half a.length))).1.1).d, w32 ((clash (a.drop (half a.length)) (b.drop (half a.length))).1.2).a, w32 ((clash (a.drop (half a.length)) (b.drop (half a.length))).1.2).b, w32 ((clash (a.drop (half a.length)) (b.drop (half a.length))).1.2).c, w32 ((clash (a.drop (half a.length)) (b.drop (half a.length))).1.2).d]) (V2 := Value.agg #[w32 ((clash (a.drop (half a.length)) (b.drop (half a.length))).2.1.1).a, w32 ((clash (a.drop (half a.length)) (b.drop (half a.length))).2.1.1).b, w32 ((clash (a.drop (half a.length)) (b.drop (half a.length))).2.1.1).c, w32 ((clash (a.drop (half a.length)) (b.drop (half a.length))).2.1.1).d, w32 ((clash (a.drop (half a.length)) (b.drop (half a.length))).2.1.2).a, w32 ((clash (a.drop (half a.length)) (b.drop (half a.length))).2.1.2).b, w32 ((clash (a.drop (half a.length)) (b.drop (half a.length))).2.1.2).c, w32 ((clash (a.drop (half a.length)) (b.drop (half a.length))).2.1.2).d]) (V3 := Value.bool ((clash (a.drop (half a.length)) (b.drop (half a.length))).2.2)) rfl hD_25 (ResIs.cell s4_25 hbb4_24 row_32 rfl rfl) (ResIs.cell s5_25 hbb5_24 row_32 rfl rfl) s6_25 ?_
    have ht := of_decide_eq_true (bn' hc2)
    exact ⟨by show Value.tuple _ = Value.tuple _; rw [clash_hi hpq hx ht]; first | done | rfl, hE_24⟩
theorem clashR (a b : List Dg) (x1 x2 : Value) (w0 : World) (hx1 : SlT DG 0 0 a x1 w0) (hx2 : SlT DG 0 0 b x2 w0) (hn : a.length ≤ 100000) (hn2 : b.length ≤ 100000) :
    Gives Tryd.prog 14 #[x1, x2] w0 (Pr.ex (Value.tuple #[twoVal (clash a b).1, twoVal (clash a b).2.1, Value.bool (clash a b).2.2])) := clashR_r _ a b x1 x2 w0 hx1 hx2 hn hn2 rfl

end Go.Proofs.YtncamojfjhbanaaDoor
