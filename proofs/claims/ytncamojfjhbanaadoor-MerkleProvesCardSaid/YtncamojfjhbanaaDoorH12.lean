/- The walks of functions of the program: printed. -/
import Derived.Test.YtncamojfjhbanaaDoorG7
import Derived.Test.YtncamojfjhbanaaDoorG11
import Derived.Test.YtncamojfjhbanaaDoorG13
import Derived.Test.YtncamojfjhbanaaDoorG51
import Derived.Test.YtncamojfjhbanaaDoorG52
import Derived.Test.YtncamojfjhbanaaDoorF0
set_option maxRecDepth 100000
namespace Go.Proofs.YtncamojfjhbanaaDoor
open Go Go.RowKit Sk Sd
theorem call_10 : Callable Tryd.prog 10 := ⟨_, Tryd.func10, by kernel_rfl, rfl⟩
theorem call_18 : Callable Tryd.prog 18 := ⟨_, Tryd.func18, by kernel_rfl, rfl⟩
theorem call_20 : Callable Tryd.prog 20 := ⟨_, Tryd.func20, by kernel_rfl, rfl⟩
theorem provesLaw (l : List Dg) (i : Int) (x1 : Value) (w0 : World) (hL : Laid w0) (hx1 : SlT DG 0 0 l x1 w0) :
    Gives Tryd.prog 5 #[x1, i64 (i)] w0 (Pr.ex (Value.bool true)) := by
  refine enter (N := 58) Tryd.func5 rfl rfl ?_
  intro a0 hN_0 hD_0 hA
  have s0_0 : get a0 0 = x1 := hA 0 _ rfl
  have s1_0 : get a0 1 = i64 (i) := hA 1 _ rfl
  clear hA
  have hE_0 : Ext w0 w0 := Ext.refl w0
  have hsx1_0 := hx1.close
  refine wp_seq ?_
  refine region_lex [] [(4, Pr.ex (Value.bool (false)))] 1 hN_0 hD_0 (by kernel_rfl) (by kernel_rfl) ?_ ?_
  · refine Asks.cons ?_ (Asks.zero _)
    · refine Ask.plain rfl rfl ?_
      intro aq wq hNq hO hR hT
      exact does_assign (V := Value.bool (false)) rfl ⟨Ext.refl _, rfl⟩
  intro a1 wd1 hN_1 hD_1 hO hR hA hU
  obtain ⟨_, _⟩ := hA
  have hE_1 := hE_0.trans hR
  have s0_1 := (hO 0 rfl).trans s0_0
  have s1_1 := (hO 1 rfl).trans s1_0
  have hsx1_1 := hsx1_0.ext' hR
  clear hE_0 hN_0 hD_0 s0_0 s1_0 hsx1_0
  refine tail_nil ?_
  refine wp_seq ?_
  refine wp_seq ?_
  refine region_lex [] [(10, Pr.ex (Value.bool (true))), (11, Pr.ex (Value.bool (false)))] 2 hN_1 hD_1 (by kernel_rfl) (by kernel_rfl) ?_ ?_
  · refine Asks.cons ?_ (Asks.cons ?_ (Asks.zero _))
    · refine Ask.plain rfl rfl ?_
      intro aq wq hNq hO hR hT
      exact does_ret (vs := #[]) call_10 args0 rfl ((alive04 wq (hL.ext (hE_1.trans hR))).mono fun v w2 h => ⟨h.2, h.1⟩)
    · refine Ask.plain rfl rfl ?_
      intro aq wq hNq hO hR hT
      exact does_not (B := true) (hT 10 rfl rfl) ⟨Ext.refl _, rfl⟩
  intro a2 wd2 hN_2 hD_2 hO hR hA hU
  obtain ⟨_, t11, _⟩ := hA
  have hE_2 := hE_1.trans hR
  have s0_2 := (hO 0 rfl).trans s0_1
  have s1_2 := (hO 1 rfl).trans s1_1
  have hsx1_2 := hsx1_1.ext' hR
  have s11_2 : get a2 11 = Value.bool (false) := t11
  clear hE_1 hN_1 hD_1 s0_1 s1_1 hsx1_1
  refine tail_nil ?_
  refine wp_ifF s11_2 ?_
  refine wp_skip ?_
  refine wp_seq ?_
  refine wp_seq ?_
  refine region_lex [] [(12, Pr.ex (x1)), (13, Pr.ex (i64 ((l.length : Nat) : Int))), (14, Pr.ex (Value.bool (decide (((40 : Nat) : Int) < ((l.length : Nat) : Int)))))] 3 hN_2 hD_2 (by kernel_rfl) (by kernel_rfl) ?_ ?_
  · refine Asks.cons ?_ (Asks.cons ?_ (Asks.cons ?_ (Asks.zero _)))
    · refine Ask.plain rfl rfl ?_
      intro aq wq hNq hO hR hT
      exact does_move (V := x1) ((hO 0 rfl).trans s0_2) ⟨Ext.refl _, rfl⟩
    · refine Ask.plain rfl rfl ?_
      intro aq wq hNq hO hR hT
      exact does_len (T := DG) (xs := l) sli_27 (SlT.at (hT 12 rfl rfl) (hsx1_2.ext' hR)) ⟨Ext.refl _, rfl⟩
    · refine Ask.plain rfl rfl ?_
      intro aq wq hNq hO hR hT
      exact does_gtr (a := ((l.length : Nat) : Int)) (b := ((40 : Nat) : Int)) (hT 13 rfl rfl) rfl ⟨Ext.refl _, rfl⟩
  intro a3 wd3 hN_3 hD_3 hO hR hA hU
  obtain ⟨_, _, t14, _⟩ := hA
  have hE_3 := hE_2.trans hR
  have s0_3 := (hO 0 rfl).trans s0_2
  have s1_3 := (hO 1 rfl).trans s1_2
  have hsx1_3 := hsx1_2.ext' hR
  have s14_3 : get a3 14 = Value.bool (decide (((40 : Nat) : Int) < ((l.length : Nat) : Int))) := t14
  clear hE_2 hN_2 hD_2 s0_2 s1_2 s11_2 hsx1_2
  refine tail_nil ?_
  refine wp_if (B := decide (((40 : Nat) : Int) < ((l.length : Nat) : Int))) s14_3 (fun hc0 => ?_) (fun hc0 => ?_)
  · -- T 0
    have hc0 := of_decide_eq_true hc0
    refine wp_seq ?_
    refine region_lex [] [(4, Pr.ex (Value.bool (true)))] 1 hN_3 hD_3 (by kernel_rfl) (by kernel_rfl) ?_ ?_
    · refine Asks.cons ?_ (Asks.zero _)
      · refine Ask.plain rfl rfl ?_
        intro aq wq hNq hO hR hT
        exact does_assign (V := Value.bool (true)) rfl ⟨Ext.refl _, rfl⟩
    intro a4 wd4 hN_4 hD_4 hO hR hA hU
    obtain ⟨t4, _⟩ := hA
    have hE_4 := hE_3.trans hR
    have hsx1_4 := hsx1_3.ext' hR
    have s4_4 : get a4 4 = Value.bool (true) := t4
    clear hE_3 hN_3 hD_3 s0_3 s1_3 s14_3 hsx1_3
    refine tail_nil ?_
    refine wp_ret ?_
    refine res_one (V := Value.bool (true)) rfl hD_4 s4_4 ?_
    exact ⟨rfl, hE_4⟩
  have hc0 := of_decide_eq_false hc0
  refine wp_skip ?_
  refine wp_seq ?_
  refine region_lex [5] [(15, Pr.ex (x1)), (16, Pr.ex (Dg.val (root l))), (5, Pr.box' wd3.heap.size 24 [w32 (Dg.zero).a, w32 (Dg.zero).b, w32 (Dg.zero).c, w32 (Dg.zero).d])] 3 hN_3 hD_3 (by kernel_rfl) (by kernel_rfl) ?_ ?_
  · refine Asks.cons ?_ (Asks.cons ?_ (Asks.cons ?_ (Asks.zero _)))
    · refine Ask.plain rfl rfl ?_
      intro aq wq hNq hO hR hT
      exact does_move (V := x1) ((hO 0 rfl).trans s0_3) ⟨Ext.refl _, rfl⟩
    · refine Ask.plain rfl rfl ?_
      intro aq wq hNq hO hR hT
      exact does_ret (vs := #[x1]) call_16 (args1 (hT 15 rfl rfl)) rfl ((root_ (l) (x1) wq (hL.ext (hE_3.trans hR)) ((hsx1_3.ext' hR).wide (Nat.zero_le _) (.inl rfl)) (by omega)).mono fun v w2 h => ⟨h.2, h.1⟩)
    · refine Ask.fresh rfl rfl ?_
      intro aq wq hNq hO hR hT
      exact does_alloc zero_24 (fun b w2 he hlo hb => ⟨he, ⟨b, rfl, Nat.le_trans hR.size' hlo, hb⟩, ⟨b, rfl, hlo, hb.lt⟩⟩)
  intro a5 wd5 hN_5 hD_5 hO hR hA hU
  obtain ⟨_, t16, t5, _⟩ := hA
  have hE_5 := hE_3.trans hR
  have s0_5 := (hO 0 rfl).trans s0_3
  have s1_5 := (hO 1 rfl).trans s1_3
  have hsx1_5 := hsx1_3.ext' hR
  have s16_5 : get a5 16 = Dg.val (root l) := t16
  obtain ⟨b5, s5_5, lo_b5, hbb5_5⟩ := t5
  have nb_x1_b5 := SlT.old hsx1_3 lo_b5
  have fr_b5 : w0.heap.size ≤ b5 := Nat.le_trans hE_3.size' lo_b5
  clear hE_3 hN_3 hD_3 s0_3 s1_3 s14_3 hsx1_3
  refine tail_none rfl rfl (does_storeD (o := 0) (n := 4) (cs' := [w32 (root l).a, w32 (root l).b, w32 (root l).c, w32 (root l).d]) (V := Dg.val (root l)) s5_5 s16_5 hbb5_5 (Nat.le_of_ble_eq_true rfl) rfl siz_24 rfl rfl (fun wd6 hX hz hbb5_6 => ?_))
  have hE_6 := hE_5.since hX (fun k e => e ▸ fr_b5)
  have hsx1_6 := SlT.over hsx1_5 hX nb_x1_b5
  clear hX hz hE_5 hbb5_5 hsx1_5
  refine tail_nil ?_
  refine wp_seq ?_
  refine region_lex [] [(18, Pr.ex (x1)), (19, Pr.ex (i64 (i))), (20, Pr.t2 (Pr.own' DG wd6.heap.size 24 ((prove l (i)).1)) (Pr.ex (i64 (((prove l (i)).2 : Nat) : Int)))), (17, Pr.t2 (Pr.own' DG wd6.heap.size 24 ((prove l (i)).1)) (Pr.ex (i64 (((prove l (i)).2 : Nat) : Int)))), (21, Pr.own' DG wd6.heap.size 24 ((prove l (i)).1)), (22, Pr.ex (i64 (((prove l (i)).2 : Nat) : Int))), (6, Pr.own' DG wd6.heap.size 24 ((prove l (i)).1)), (7, Pr.ex (i64 (((prove l (i)).2 : Nat) : Int)))] 8 hN_5 hD_5 (by kernel_rfl) (by kernel_rfl) ?_ ?_
  · refine Asks.cons ?_ (Asks.cons ?_ (Asks.cons ?_ (Asks.cons ?_ (Asks.cons ?_ (Asks.cons ?_ (Asks.cons ?_ (Asks.cons ?_ (Asks.zero _))))))))
    · refine Ask.plain rfl rfl ?_
      intro aq wq hNq hO hR hT
      exact does_move (V := x1) ((hO 0 rfl).trans s0_5) ⟨Ext.refl _, rfl⟩
    · refine Ask.plain rfl rfl ?_
      intro aq wq hNq hO hR hT
      exact does_move (V := i64 (i)) ((hO 1 rfl).trans s1_5) ⟨Ext.refl _, rfl⟩
    · refine Ask.plain rfl rfl ?_
      intro aq wq hNq hO hR hT
      exact does_ret (vs := #[x1, i64 (i)]) call_11 (args2 (hT 18 rfl rfl) (hT 19 rfl rfl)) rfl ((prove_ (l) (i) (x1) wq (hL.ext (hE_6.trans hR)) ((hsx1_6.ext' hR).wide (Nat.zero_le _) (.inl rfl)) (by omega)).mono fun v w2 h => ⟨h.2, by obtain ⟨x0, x1, hv, k0, k1⟩ := h.1; exact ⟨x0, x1, hv, OwnT.base k0 hR.size', k1⟩⟩)
    · refine Ask.plain rfl rfl ?_
      intro aq wq hNq hO hR hT
      exact does_move rfl ⟨Ext.refl _, (hT 20 rfl rfl)⟩
    · refine Ask.plain rfl rfl ?_
      intro aq wq hNq hO hR hT
      obtain ⟨x0, x1, hv, k0, k1⟩ := (hT 17 rfl rfl)
      exact does_extract hv rfl ⟨Ext.refl _, k0⟩
    · refine Ask.plain rfl rfl ?_
      intro aq wq hNq hO hR hT
      obtain ⟨x0, x1, hv, k0, k1⟩ := (hT 17 rfl rfl)
      exact does_extract (V := i64 (((prove l (i)).2 : Nat) : Int)) hv (by rw [show x1 = i64 (((prove l (i)).2 : Nat) : Int) from k1]; rfl) ⟨Ext.refl _, rfl⟩
    · refine Ask.plain rfl rfl ?_
      intro aq wq hNq hO hR hT
      exact does_assign rfl ⟨Ext.refl _, (hT 21 rfl rfl)⟩
    · refine Ask.plain rfl rfl ?_
      intro aq wq hNq hO hR hT
      exact does_assign (V := i64 (((prove l (i)).2 : Nat) : Int)) (hT 22 rfl rfl) ⟨Ext.refl _, rfl⟩
  intro a7 wd7 hN_7 hD_7 hO hR hA hU
  obtain ⟨_, _, _, _, _, _, t6, t7, _⟩ := hA
  have hE_7 := hE_6.trans hR
  have s0_7 := (hO 0 rfl).trans s0_5
  have s1_7 := (hO 1 rfl).trans s1_5
  have s5_7 := (hO 5 rfl).trans s5_5
  have hbb5_7 := hbb5_6.ext' hR
  have hsx1_7 := hsx1_6.ext' hR
  obtain ⟨x6, s6_7⟩ : ∃ x, get a7 6 = x := ⟨_, rfl⟩
  replace t6 : OwnT DG wd6.heap.size 24 ((prove l (i)).1) x6 wd7 := by rw [← s6_7]; exact t6
  have nbo_x6_b5 : x6.ownBlock ≠ some b5 := fun e => Nat.lt_irrefl _ (Nat.lt_of_lt_of_le hbb5_6.lt (OwnT.block_lt t6 e).1)
  have hsx6_7 := t6.sl.wide (Nat.zero_le _) (.inl rfl)
  have hox6_7 := OwnT.base t6 hE_6.size'
  have s7_7 : get a7 7 = i64 (((prove l (i)).2 : Nat) : Int) := t7
  clear hE_6 hN_5 hD_5 s0_5 s1_5 s5_5 s16_5 hbb5_6 hsx1_6
  refine tail_nil ?_
  refine wp_seq ?_
  refine region_lex [] [(24, Pr.ex (x1)), (25, Pr.ex (i64 (i))), (26, Pr.t2 (Pr.own' DG wd7.heap.size 24 ((prove l (i)).1)) (Pr.ex (i64 (((prove l (i)).2 : Nat) : Int)))), (23, Pr.t2 (Pr.own' DG wd7.heap.size 24 ((prove l (i)).1)) (Pr.ex (i64 (((prove l (i)).2 : Nat) : Int)))), (27, Pr.own' DG wd7.heap.size 24 ((prove l (i)).1)), (28, Pr.ex (i64 (((prove l (i)).2 : Nat) : Int))), (8, Pr.own' DG wd7.heap.size 24 ((prove l (i)).1)), (9, Pr.ex (i64 (((prove l (i)).2 : Nat) : Int)))] 8 hN_7 hD_7 (by kernel_rfl) (by kernel_rfl) ?_ ?_
  · refine Asks.cons ?_ (Asks.cons ?_ (Asks.cons ?_ (Asks.cons ?_ (Asks.cons ?_ (Asks.cons ?_ (Asks.cons ?_ (Asks.cons ?_ (Asks.zero _))))))))
    · refine Ask.plain rfl rfl ?_
      intro aq wq hNq hO hR hT
      exact does_move (V := x1) ((hO 0 rfl).trans s0_7) ⟨Ext.refl _, rfl⟩
    · refine Ask.plain rfl rfl ?_
      intro aq wq hNq hO hR hT
      exact does_move (V := i64 (i)) ((hO 1 rfl).trans s1_7) ⟨Ext.refl _, rfl⟩
    · refine Ask.plain rfl rfl ?_
      intro aq wq hNq hO hR hT
      exact does_ret (vs := #[x1, i64 (i)]) call_18 (args2 (hT 24 rfl rfl) (hT 25 rfl rfl)) rfl ((proveR (l) (i) (x1) wq ((hsx1_7.ext' hR).wide (Nat.zero_le _) (.inl rfl)) (by omega)).mono fun v w2 h => ⟨h.2, by obtain ⟨x0, x1, hv, k0, k1⟩ := h.1; exact ⟨x0, x1, hv, OwnT.base k0 hR.size', k1⟩⟩)
    · refine Ask.plain rfl rfl ?_
      intro aq wq hNq hO hR hT
      exact does_move rfl ⟨Ext.refl _, (hT 26 rfl rfl)⟩
    · refine Ask.plain rfl rfl ?_
      intro aq wq hNq hO hR hT
      obtain ⟨x0, x1, hv, k0, k1⟩ := (hT 23 rfl rfl)
      exact does_extract hv rfl ⟨Ext.refl _, k0⟩
    · refine Ask.plain rfl rfl ?_
      intro aq wq hNq hO hR hT
      obtain ⟨x0, x1, hv, k0, k1⟩ := (hT 23 rfl rfl)
      exact does_extract (V := i64 (((prove l (i)).2 : Nat) : Int)) hv (by rw [show x1 = i64 (((prove l (i)).2 : Nat) : Int) from k1]; rfl) ⟨Ext.refl _, rfl⟩
    · refine Ask.plain rfl rfl ?_
      intro aq wq hNq hO hR hT
      exact does_assign rfl ⟨Ext.refl _, (hT 27 rfl rfl)⟩
    · refine Ask.plain rfl rfl ?_
      intro aq wq hNq hO hR hT
      exact does_assign (V := i64 (((prove l (i)).2 : Nat) : Int)) (hT 28 rfl rfl) ⟨Ext.refl _, rfl⟩
  intro a8 wd8 hN_8 hD_8 hO hR hA hU
  obtain ⟨_, _, _, _, _, _, t8, t9, _⟩ := hA
  have hE_8 := hE_7.trans hR
  have s0_8 := (hO 0 rfl).trans s0_7
  have s1_8 := (hO 1 rfl).trans s1_7
  have s5_8 := (hO 5 rfl).trans s5_7
  have s6_8 := (hO 6 rfl).trans s6_7
  have s7_8 := (hO 7 rfl).trans s7_7
  have hbb5_8 := hbb5_7.ext' hR
  have hsx1_8 := hsx1_7.ext' hR
  have hsx6_8 := hsx6_7.ext' hR
  have hox6_8 := hox6_7.ext' hR
  obtain ⟨x8, s8_8⟩ : ∃ x, get a8 8 = x := ⟨_, rfl⟩
  replace t8 : OwnT DG wd7.heap.size 24 ((prove l (i)).1) x8 wd8 := by rw [← s8_8]; exact t8
  have nbo_x8_b5 : x8.ownBlock ≠ some b5 := fun e => Nat.lt_irrefl _ (Nat.lt_of_lt_of_le hbb5_7.lt (OwnT.block_lt t8 e).1)
  have no_x8_x6 : ∀ k, x8.ownBlock = some k → x6.ownBlock ≠ some k := fun k e e' => Nat.lt_irrefl _ (Nat.lt_of_lt_of_le (OwnT.block_lt hox6_7 e').2 (OwnT.block_lt t8 e).1)
  have hsx8_8 := t8.sl.wide (Nat.zero_le _) (.inl rfl)
  have hox8_8 := OwnT.base t8 hE_7.size'
  have s9_8 : get a8 9 = i64 (((prove l (i)).2 : Nat) : Int) := t9
  clear hE_7 hN_7 hD_7 s0_7 s1_7 s5_7 s6_7 s7_7 hbb5_7 hsx1_7 hsx6_7 hox6_7
  refine tail_nil ?_
  refine wp_seq ?_
  refine wp_seq ?_
  refine region_any [] [(29, Pr.ex (Dg.val (root l))), (30, Pr.ex (x1)), (31, Pr.ex (Dg.val (root l))), (32, Pr.ex (Value.bool (!decide (root l = root l)))), (33, Pr.ex (Value.bool (!decide (root l = root l)))), (34, Pr.ifb (!(!decide (root l = root l))) (Pr.ex (i64 (((prove l (i)).2 : Nat) : Int)))), (35, Pr.ifb (!(!decide (root l = root l))) (Pr.ex (i64 (((prove l (i)).2 : Nat) : Int)))), (36, Pr.ifb (!(!decide (root l = root l))) (Pr.ex (Value.bool (!decide ((((prove l (i)).2 : Nat) : Int) = (((prove l (i)).2 : Nat) : Int)))))), (37, Pr.ex (Value.bool ((!decide (root l = root l)) || (!decide ((((prove l (i)).2 : Nat) : Int) = (((prove l (i)).2 : Nat) : Int)))))), (38, Pr.ex (Value.bool ((!decide (root l = root l)) || (!decide ((((prove l (i)).2 : Nat) : Int) = (((prove l (i)).2 : Nat) : Int)))))), (39, Pr.ifb (!((!decide (root l = root l)) || (!decide ((((prove l (i)).2 : Nat) : Int) = (((prove l (i)).2 : Nat) : Int))))) (Pr.ex (x6))), (40, Pr.ifb (!((!decide (root l = root l)) || (!decide ((((prove l (i)).2 : Nat) : Int) = (((prove l (i)).2 : Nat) : Int))))) (Pr.ex (x8))), (41, Pr.ifb (!((!decide (root l = root l)) || (!decide ((((prove l (i)).2 : Nat) : Int) = (((prove l (i)).2 : Nat) : Int))))) (Pr.ex (Value.bool (decide ((prove l (i)).1 = (prove l (i)).1))))), (42, Pr.ifb (!((!decide (root l = root l)) || (!decide ((((prove l (i)).2 : Nat) : Int) = (((prove l (i)).2 : Nat) : Int))))) (Pr.ex (Value.bool (!(decide ((prove l (i)).1 = (prove l (i)).1)))))), (43, Pr.ex (Value.bool (((!decide (root l = root l)) || (!decide ((((prove l (i)).2 : Nat) : Int) = (((prove l (i)).2 : Nat) : Int)))) || (!(decide ((prove l (i)).1 = (prove l (i)).1))))))] 15 mixed hN_8 hD_8 (by kernel_rfl) (by kernel_rfl) (by kernel_rfl) ?_ ?_
  · refine Asks.cons ?_ (Asks.cons ?_ (Asks.cons ?_ (Asks.cons ?_ (Asks.cons ?_ (Asks.cons ?_ (Asks.cons ?_ (Asks.cons ?_ (Asks.cons ?_ (Asks.cons ?_ (Asks.cons ?_ (Asks.cons ?_ (Asks.cons ?_ (Asks.cons ?_ (Asks.cons ?_ (Asks.zero _)))))))))))))))
    · refine Ask.plain rfl rfl ?_
      intro aq wq hNq hO hR hT
      replace hR := (Ext.drew _).trans hR
      exact does_loadD (o := 0) (n := 4) (mid := [w32 (root l).a, w32 (root l).b, w32 (root l).c, w32 (root l).d]) ((hO 5 rfl).trans s5_8) (hbb5_8.ext' hR) rfl rfl (Nat.le_of_ble_eq_true rfl) row_24 rfl ⟨Ext.refl _, rfl⟩
    · refine Ask.plain rfl rfl ?_
      intro aq wq hNq hO hR hT
      replace hR := (Ext.drew _).trans hR
      exact does_move (V := x1) ((hO 0 rfl).trans s0_8) ⟨Ext.refl _, rfl⟩
    · refine Ask.plain rfl rfl ?_
      intro aq wq hNq hO hR hT
      replace hR := (Ext.drew _).trans hR
      exact does_ret (vs := #[x1]) call_19 (args1 (hT 30 rfl rfl)) rfl ((rootR (l) (x1) wq ((hsx1_8.ext' hR).wide (Nat.zero_le _) (.inl rfl)) (by omega)).mono fun v w2 h => ⟨h.2, h.1⟩)
    · refine Ask.plain rfl rfl ?_
      intro aq wq hNq hO hR hT
      replace hR := (Ext.drew _).trans hR
      exact does_neT (a := root l) (b := root l) eq_24 (hT 29 rfl rfl) (hT 31 rfl rfl) ⟨Ext.refl _, rfl⟩
    · refine Ask.plain rfl rfl ?_
      intro aq wq hNq hO hR hT
      replace hR := (Ext.drew _).trans hR
      exact does_move (V := Value.bool (!decide (root l = root l))) (hT 32 rfl rfl) ⟨Ext.refl _, rfl⟩
    · refine Ask.guarded (B := !decide (root l = root l)) (want := false) (t := 33) rfl rfl rfl rfl (by decide) (fun aq wq hO hR hT => hT 33 rfl rfl) (fun hG aq wq hNq hO hR hT => ?_) (fun hno _ => fun hc => absurd (bn hc) hno)
      replace hG := nb hG
      replace hR := (Ext.drew _).trans hR
      exact does_move (V := i64 (((prove l (i)).2 : Nat) : Int)) ((hO 7 rfl).trans s7_8) ⟨Ext.refl _, fun _ => rfl⟩
    · refine Ask.guarded (B := !decide (root l = root l)) (want := false) (t := 33) rfl rfl rfl rfl (by decide) (fun aq wq hO hR hT => hT 33 rfl rfl) (fun hG aq wq hNq hO hR hT => ?_) (fun hno _ => fun hc => absurd (bn hc) hno)
      replace hG := nb hG
      replace hR := (Ext.drew _).trans hR
      exact does_move (V := i64 (((prove l (i)).2 : Nat) : Int)) ((hO 9 rfl).trans s9_8) ⟨Ext.refl _, fun _ => rfl⟩
    · refine Ask.guarded (B := !decide (root l = root l)) (want := false) (t := 33) rfl rfl rfl rfl (by decide) (fun aq wq hO hR hT => hT 33 rfl rfl) (fun hG aq wq hNq hO hR hT => ?_) (fun hno _ => fun hc => absurd (bn hc) hno)
      replace hG := nb hG
      replace hR := (Ext.drew _).trans hR
      exact does_neq (a := (((prove l (i)).2 : Nat) : Int)) (b := (((prove l (i)).2 : Nat) : Int)) (hT 34 rfl rfl hG) (hT 35 rfl rfl hG) ⟨Ext.refl _, fun _ => rfl⟩
    · refine Ask.plain rfl rfl ?_
      intro aq wq hNq hO hR hT
      replace hR := (Ext.drew _).trans hR
      exact does_or (B := !decide (root l = root l)) (X := !decide ((((prove l (i)).2 : Nat) : Int) = (((prove l (i)).2 : Nat) : Int))) (hT 33 rfl rfl) rfl (fun hB => (hT 36 rfl rfl (nb hB))) ⟨Ext.refl _, rfl⟩
    · refine Ask.plain rfl rfl ?_
      intro aq wq hNq hO hR hT
      replace hR := (Ext.drew _).trans hR
      exact does_move (V := Value.bool ((!decide (root l = root l)) || (!decide ((((prove l (i)).2 : Nat) : Int) = (((prove l (i)).2 : Nat) : Int))))) (hT 37 rfl rfl) ⟨Ext.refl _, rfl⟩
    · refine Ask.guarded (B := (!decide (root l = root l)) || (!decide ((((prove l (i)).2 : Nat) : Int) = (((prove l (i)).2 : Nat) : Int)))) (want := false) (t := 38) rfl rfl rfl rfl (by decide) (fun aq wq hO hR hT => hT 38 rfl rfl) (fun hG aq wq hNq hO hR hT => ?_) (fun hno _ => fun hc => absurd (bn hc) hno)
      replace hG := nb hG
      replace hR := (Ext.drew _).trans hR
      exact does_move (V := x6) ((hO 6 rfl).trans s6_8) ⟨Ext.refl _, fun _ => rfl⟩
    · refine Ask.guarded (B := (!decide (root l = root l)) || (!decide ((((prove l (i)).2 : Nat) : Int) = (((prove l (i)).2 : Nat) : Int)))) (want := false) (t := 38) rfl rfl rfl rfl (by decide) (fun aq wq hO hR hT => hT 38 rfl rfl) (fun hG aq wq hNq hO hR hT => ?_) (fun hno _ => fun hc => absurd (bn hc) hno)
      replace hG := nb hG
      replace hR := (Ext.drew _).trans hR
      exact does_move (V := x8) ((hO 8 rfl).trans s8_8) ⟨Ext.refl _, fun _ => rfl⟩
    · refine Ask.guarded (B := (!decide (root l = root l)) || (!decide ((((prove l (i)).2 : Nat) : Int) = (((prove l (i)).2 : Nat) : Int)))) (want := false) (t := 38) rfl rfl rfl rfl (by decide) (fun aq wq hO hR hT => hT 38 rfl rfl) (fun hG aq wq hNq hO hR hT => ?_) (fun hno _ => fun hc => absurd (bn hc) hno)
      replace hG := nb hG
      replace hR := (Ext.drew _).trans hR
      exact does_ret (vs := #[x6, x8]) call_15 (args2 (hT 39 rfl rfl hG) (hT 40 rfl rfl hG)) rfl ((same_ ((prove l (i)).1) ((prove l (i)).1) (x6) (x8) wq ((hsx6_8.ext' hR).wide (Nat.zero_le _) (.inl rfl)) ((hsx8_8.ext' hR).wide (Nat.zero_le _) (.inl rfl)) (by first | exact Nat.le_trans prove_len2 (by simp) | exact Nat.le_trans goes_len2 (by simp) | exact Nat.le_trans prove_len2 (by omega) | exact Nat.le_trans goes_len2 (by omega))).mono fun v w2 h => ⟨h.2, fun _ => h.1⟩)
    · refine Ask.guarded (B := (!decide (root l = root l)) || (!decide ((((prove l (i)).2 : Nat) : Int) = (((prove l (i)).2 : Nat) : Int)))) (want := false) (t := 38) rfl rfl rfl rfl (by decide) (fun aq wq hO hR hT => hT 38 rfl rfl) (fun hG aq wq hNq hO hR hT => ?_) (fun hno _ => fun hc => absurd (bn hc) hno)
      replace hG := nb hG
      replace hR := (Ext.drew _).trans hR
      exact does_not (B := decide ((prove l (i)).1 = (prove l (i)).1)) (hT 41 rfl rfl hG) ⟨Ext.refl _, fun _ => rfl⟩
    · refine Ask.plain rfl rfl ?_
      intro aq wq hNq hO hR hT
      replace hR := (Ext.drew _).trans hR
      exact does_or (B := (!decide (root l = root l)) || (!decide ((((prove l (i)).2 : Nat) : Int) = (((prove l (i)).2 : Nat) : Int)))) (X := !(decide ((prove l (i)).1 = (prove l (i)).1))) (hT 38 rfl rfl) rfl (fun hB => (hT 42 rfl rfl (nb hB))) ⟨Ext.refl _, rfl⟩
  intro a9 wd9 hN_9 hD_9 hO hR hA hU
  obtain ⟨_, _, _, _, _, _, _, _, _, _, _, _, _, _, t43, _⟩ := hA
  have hE_9 := hE_8.trans hR
  have s0_9 := (hO 0 rfl).trans s0_8
  have s1_9 := (hO 1 rfl).trans s1_8
  have s5_9 := (hO 5 rfl).trans s5_8
  have s6_9 := (hO 6 rfl).trans s6_8
  have s7_9 := (hO 7 rfl).trans s7_8
  have hbb5_9 := hbb5_8.ext' hR
  have hsx1_9 := hsx1_8.ext' hR
  have hsx6_9 := hsx6_8.ext' hR
  have hsx8_9 := hsx8_8.ext' hR
  have hox6_9 := hox6_8.ext' hR
  have hox8_9 := hox8_8.ext' hR
  have s43_9 : get a9 43 = Value.bool (((!decide (root l = root l)) || (!decide ((((prove l (i)).2 : Nat) : Int) = (((prove l (i)).2 : Nat) : Int)))) || (!(decide ((prove l (i)).1 = (prove l (i)).1)))) := t43
  clear hE_8 hN_8 hD_8 s0_8 s1_8 s5_8 s6_8 s7_8 s8_8 s9_8 hbb5_8 hsx1_8 hsx6_8 hsx8_8 hox6_8 hox8_8
  refine tail_nil ?_
  refine wp_if (B := ((!decide (root l = root l)) || (!decide ((((prove l (i)).2 : Nat) : Int) = (((prove l (i)).2 : Nat) : Int)))) || (!(decide ((prove l (i)).1 = (prove l (i)).1)))) s43_9 (fun hc1 => ?_) (fun hc1 => ?_)
  · -- T 1
    simp at hc1
  refine wp_skip ?_
  refine wp_seq ?_
  refine region_any [] [(44, Pr.ex (i64 (((prove l (i)).2 : Nat) : Int))), (45, Pr.ex (Value.bool (!decide ((((prove l (i)).2 : Nat) : Int) = ((0 : Nat) : Int))))), (46, Pr.ex (Value.bool (!decide ((((prove l (i)).2 : Nat) : Int) = ((0 : Nat) : Int))))), (47, Pr.ifb (!(!decide ((((prove l (i)).2 : Nat) : Int) = ((0 : Nat) : Int)))) (Pr.ex (Dg.val (root l)))), (48, Pr.ifb (!(!decide ((((prove l (i)).2 : Nat) : Int) = ((0 : Nat) : Int)))) (Pr.ex (x1))), (49, Pr.ifb (!(!decide ((((prove l (i)).2 : Nat) : Int) = ((0 : Nat) : Int)))) (Pr.ex (i64 ((l.length : Nat) : Int)))), (50, Pr.ifb (!(!decide ((((prove l (i)).2 : Nat) : Int) = ((0 : Nat) : Int)))) (Pr.ex (i64 (i)))), (51, Pr.ifb (!(!decide ((((prove l (i)).2 : Nat) : Int) = ((0 : Nat) : Int)))) (Pr.ex (x1))), (52, Pr.ifb (!(!decide ((((prove l (i)).2 : Nat) : Int) = ((0 : Nat) : Int)))) (Pr.ex (i64 (i)))), (53, Pr.ifb (!(!decide ((((prove l (i)).2 : Nat) : Int) = ((0 : Nat) : Int)))) (Pr.pt' 0 (w0.heap.size + 1) [w32 ((l.getD (i).toNat Dg.zero)).a, w32 ((l.getD (i).toNat Dg.zero)).b, w32 ((l.getD (i).toNat Dg.zero)).c, w32 ((l.getD (i).toNat Dg.zero)).d])), (54, Pr.ifb (!(!decide ((((prove l (i)).2 : Nat) : Int) = ((0 : Nat) : Int)))) (Pr.ex (Dg.val ((l.getD (i).toNat Dg.zero))))), (55, Pr.ifb (!(!decide ((((prove l (i)).2 : Nat) : Int) = ((0 : Nat) : Int)))) (Pr.ex (x6))), (56, Pr.ifb (!(!decide ((((prove l (i)).2 : Nat) : Int) = ((0 : Nat) : Int)))) (Pr.ex (Value.bool (checks (root l) (((l.length : Nat) : Int)) (i) ((l.getD (i).toNat Dg.zero)) ((prove l (i)).1))))), (57, Pr.ex (Value.bool ((!decide ((((prove l (i)).2 : Nat) : Int) = ((0 : Nat) : Int))) || (checks (root l) (((l.length : Nat) : Int)) (i) ((l.getD (i).toNat Dg.zero)) ((prove l (i)).1))))), (4, Pr.ex (Value.bool ((!decide ((((prove l (i)).2 : Nat) : Int) = ((0 : Nat) : Int))) || (checks (root l) (((l.length : Nat) : Int)) (i) ((l.getD (i).toNat Dg.zero)) ((prove l (i)).1)))))] 15 mixed hN_9 hD_9 (by kernel_rfl) (by kernel_rfl) (by kernel_rfl) ?_ ?_
  · refine Asks.cons ?_ (Asks.cons ?_ (Asks.cons ?_ (Asks.cons ?_ (Asks.cons ?_ (Asks.cons ?_ (Asks.cons ?_ (Asks.cons ?_ (Asks.cons ?_ (Asks.cons ?_ (Asks.cons ?_ (Asks.cons ?_ (Asks.cons ?_ (Asks.cons ?_ (Asks.cons ?_ (Asks.zero _)))))))))))))))
    · refine Ask.plain rfl rfl ?_
      intro aq wq hNq hO hR hT
      replace hR := (Ext.drew _).trans hR
      exact does_move (V := i64 (((prove l (i)).2 : Nat) : Int)) ((hO 7 rfl).trans s7_9) ⟨Ext.refl _, rfl⟩
    · refine Ask.plain rfl rfl ?_
      intro aq wq hNq hO hR hT
      replace hR := (Ext.drew _).trans hR
      exact does_neq (a := (((prove l (i)).2 : Nat) : Int)) (b := ((0 : Nat) : Int)) (hT 44 rfl rfl) rfl ⟨Ext.refl _, rfl⟩
    · refine Ask.plain rfl rfl ?_
      intro aq wq hNq hO hR hT
      replace hR := (Ext.drew _).trans hR
      exact does_move (V := Value.bool (!decide ((((prove l (i)).2 : Nat) : Int) = ((0 : Nat) : Int)))) (hT 45 rfl rfl) ⟨Ext.refl _, rfl⟩
    · refine Ask.guarded (B := !decide ((((prove l (i)).2 : Nat) : Int) = ((0 : Nat) : Int))) (want := false) (t := 46) rfl rfl rfl rfl (by decide) (fun aq wq hO hR hT => hT 46 rfl rfl) (fun hG aq wq hNq hO hR hT => ?_) (fun hno _ => fun hc => absurd (bn hc) hno)
      replace hG := nb hG
      replace hR := (Ext.drew _).trans hR
      exact does_loadD (o := 0) (n := 4) (mid := [w32 (root l).a, w32 (root l).b, w32 (root l).c, w32 (root l).d]) ((hO 5 rfl).trans s5_9) (hbb5_9.ext' hR) rfl rfl (Nat.le_of_ble_eq_true rfl) row_24 rfl ⟨Ext.refl _, fun _ => rfl⟩
    · refine Ask.guarded (B := !decide ((((prove l (i)).2 : Nat) : Int) = ((0 : Nat) : Int))) (want := false) (t := 46) rfl rfl rfl rfl (by decide) (fun aq wq hO hR hT => hT 46 rfl rfl) (fun hG aq wq hNq hO hR hT => ?_) (fun hno _ => fun hc => absurd (bn hc) hno)
      replace hG := nb hG
      replace hR := (Ext.drew _).trans hR
      exact does_move (V := x1) ((hO 0 rfl).trans s0_9) ⟨Ext.refl _, fun _ => rfl⟩
    · refine Ask.guarded (B := !decide ((((prove l (i)).2 : Nat) : Int) = ((0 : Nat) : Int))) (want := false) (t := 46) rfl rfl rfl rfl (by decide) (fun aq wq hO hR hT => hT 46 rfl rfl) (fun hG aq wq hNq hO hR hT => ?_) (fun hno _ => fun hc => absurd (bn hc) hno)
      replace hG := nb hG
      replace hR := (Ext.drew _).trans hR
      exact does_len (T := DG) (xs := l) sli_27 (SlT.at (hT 48 rfl rfl hG) (hsx1_9.ext' hR)) ⟨Ext.refl _, fun _ => rfl⟩
    · refine Ask.guarded (B := !decide ((((prove l (i)).2 : Nat) : Int) = ((0 : Nat) : Int))) (want := false) (t := 46) rfl rfl rfl rfl (by decide) (fun aq wq hO hR hT => hT 46 rfl rfl) (fun hG aq wq hNq hO hR hT => ?_) (fun hno _ => fun hc => absurd (bn hc) hno)
      replace hG := nb hG
      replace hR := (Ext.drew _).trans hR
      exact does_move (V := i64 (i)) ((hO 1 rfl).trans s1_9) ⟨Ext.refl _, fun _ => rfl⟩
    · refine Ask.guarded (B := !decide ((((prove l (i)).2 : Nat) : Int) = ((0 : Nat) : Int))) (want := false) (t := 46) rfl rfl rfl rfl (by decide) (fun aq wq hO hR hT => hT 46 rfl rfl) (fun hG aq wq hNq hO hR hT => ?_) (fun hno _ => fun hc => absurd (bn hc) hno)
      replace hG := nb hG
      replace hR := (Ext.drew _).trans hR
      exact does_move (V := x1) ((hO 0 rfl).trans s0_9) ⟨Ext.refl _, fun _ => rfl⟩
    · refine Ask.guarded (B := !decide ((((prove l (i)).2 : Nat) : Int) = ((0 : Nat) : Int))) (want := false) (t := 46) rfl rfl rfl rfl (by decide) (fun aq wq hO hR hT => hT 46 rfl rfl) (fun hG aq wq hNq hO hR hT => ?_) (fun hno _ => fun hc => absurd (bn hc) hno)
      replace hG := nb hG
      replace hR := (Ext.drew _).trans hR
      exact does_move (V := i64 (i)) ((hO 1 rfl).trans s1_9) ⟨Ext.refl _, fun _ => rfl⟩
    · refine Ask.guarded (B := !decide ((((prove l (i)).2 : Nat) : Int) = ((0 : Nat) : Int))) (want := false) (t := 46) rfl rfl rfl rfl (by decide) (fun aq wq hO hR hT => hT 46 rfl rfl) (fun hG aq wq hNq hO hR hT => ?_) (fun hno _ => fun hc => absurd (bn hc) hno)
      replace hG := nb hG
      replace hR := (Ext.drew _).trans hR
      have hpi := prove_in hG
      exact does_indexSl (T := DG) (xs := l) (i := i) (X := (l.getD (i).toNat Dg.zero)) sli_27 rfl (SlT.at (hT 51 rfl rfl hG) (hsx1_9.ext' hR)) (hT 52 rfl rfl hG) (by omega) (getD_of hpi) (fun v h => ⟨Ext.refl _, fun _ => h⟩)
    · refine Ask.guarded (B := !decide ((((prove l (i)).2 : Nat) : Int) = ((0 : Nat) : Int))) (want := false) (t := 46) rfl rfl rfl rfl (by decide) (fun aq wq hO hR hT => hT 46 rfl rfl) (fun hG aq wq hNq hO hR hT => ?_) (fun hno _ => fun hc => absurd (bn hc) hno)
      replace hG := nb hG
      replace hR := (Ext.drew _).trans hR
      exact does_loadP (cs := [w32 ((l.getD (i).toNat Dg.zero)).a, w32 ((l.getD (i).toNat Dg.zero)).b, w32 ((l.getD (i).toNat Dg.zero)).c, w32 ((l.getD (i).toNat Dg.zero)).d]) (hT 53 rfl rfl hG) row_24 rfl ⟨Ext.refl _, fun _ => rfl⟩
    · refine Ask.guarded (B := !decide ((((prove l (i)).2 : Nat) : Int) = ((0 : Nat) : Int))) (want := false) (t := 46) rfl rfl rfl rfl (by decide) (fun aq wq hO hR hT => hT 46 rfl rfl) (fun hG aq wq hNq hO hR hT => ?_) (fun hno _ => fun hc => absurd (bn hc) hno)
      replace hG := nb hG
      replace hR := (Ext.drew _).trans hR
      exact does_move (V := x6) ((hO 6 rfl).trans s6_9) ⟨Ext.refl _, fun _ => rfl⟩
    · refine Ask.guarded (B := !decide ((((prove l (i)).2 : Nat) : Int) = ((0 : Nat) : Int))) (want := false) (t := 46) rfl rfl rfl rfl (by decide) (fun aq wq hO hR hT => hT 46 rfl rfl) (fun hG aq wq hNq hO hR hT => ?_) (fun hno _ => fun hc => absurd (bn hc) hno)
      replace hG := nb hG
      replace hR := (Ext.drew _).trans hR
      exact does_ret (vs := #[Dg.val (root l), i64 ((l.length : Nat) : Int), i64 (i), Dg.val ((l.getD (i).toNat Dg.zero)), x6]) call_20 (args5 (hT 47 rfl rfl hG) (hT 49 rfl rfl hG) (hT 50 rfl rfl hG) (hT 54 rfl rfl hG) (hT 55 rfl rfl hG)) rfl ((check_ (root l) (((l.length : Nat) : Int)) (i) ((l.getD (i).toNat Dg.zero)) ((prove l (i)).1) (x6) wq (hL.ext (hE_9.trans hR)) ((hsx6_9.ext' hR).wide (Nat.zero_le _) (.inl rfl)) (Nat.le_trans prove_len2 (by omega))).mono fun v w2 h => ⟨h.2, fun _ => h.1⟩)
    · refine Ask.plain rfl rfl ?_
      intro aq wq hNq hO hR hT
      replace hR := (Ext.drew _).trans hR
      exact does_or (B := !decide ((((prove l (i)).2 : Nat) : Int) = ((0 : Nat) : Int))) (X := checks (root l) (((l.length : Nat) : Int)) (i) ((l.getD (i).toNat Dg.zero)) ((prove l (i)).1)) (hT 46 rfl rfl) rfl (fun hB => (hT 56 rfl rfl (nb hB))) ⟨Ext.refl _, rfl⟩
    · refine Ask.plain rfl rfl ?_
      intro aq wq hNq hO hR hT
      replace hR := (Ext.drew _).trans hR
      exact does_assign (V := Value.bool ((!decide ((((prove l (i)).2 : Nat) : Int) = ((0 : Nat) : Int))) || (checks (root l) (((l.length : Nat) : Int)) (i) ((l.getD (i).toNat Dg.zero)) ((prove l (i)).1)))) (hT 57 rfl rfl) ⟨Ext.refl _, rfl⟩
  intro a10 wd10 hN_10 hD_10 hO hR hA hU
  obtain ⟨_, _, _, _, _, _, _, _, _, _, _, _, _, _, t4, _⟩ := hA
  have hE_10 := hE_9.trans hR
  have hbb5_10 := hbb5_9.ext' hR
  have hsx1_10 := hsx1_9.ext' hR
  have hsx6_10 := hsx6_9.ext' hR
  have hsx8_10 := hsx8_9.ext' hR
  have hox6_10 := hox6_9.ext' hR
  have hox8_10 := hox8_9.ext' hR
  have s4_10 : get a10 4 = Value.bool ((!decide ((((prove l (i)).2 : Nat) : Int) = ((0 : Nat) : Int))) || (checks (root l) (((l.length : Nat) : Int)) (i) ((l.getD (i).toNat Dg.zero)) ((prove l (i)).1))) := t4
  clear hE_9 hN_9 hD_9 s0_9 s1_9 s5_9 s6_9 s7_9 s43_9 hbb5_9 hsx1_9 hsx6_9 hsx8_9 hox6_9 hox8_9
  refine tail_nil ?_
  refine wp_ret ?_
  refine res_one (V := Value.bool ((!decide ((((prove l (i)).2 : Nat) : Int) = ((0 : Nat) : Int))) || (checks (root l) (((l.length : Nat) : Int)) (i) ((l.getD (i).toNat Dg.zero)) ((prove l (i)).1)))) rfl hD_10 s4_10 ?_
  exact ⟨congrArg Value.bool (proves_law (by omega)), hE_10⟩

end Go.Proofs.YtncamojfjhbanaaDoor
