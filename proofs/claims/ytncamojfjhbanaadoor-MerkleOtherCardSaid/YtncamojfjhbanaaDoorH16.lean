/- The walks of functions of the program: printed. -/
import Derived.Test.YtncamojfjhbanaaDoorK
import Derived.Test.YtncamojfjhbanaaDoorG3
import Derived.Test.YtncamojfjhbanaaDoorG7
import Derived.Test.YtncamojfjhbanaaDoorG11
import Derived.Test.YtncamojfjhbanaaDoorG51
import Derived.Test.YtncamojfjhbanaaDoorG52
import Derived.Test.YtncamojfjhbanaaDoorG54
import Derived.Test.YtncamojfjhbanaaDoorF0
set_option maxRecDepth 100000
namespace Go.Proofs.YtncamojfjhbanaaDoor
open Go Go.RowKit Sk Sd
theorem call_10 : Callable Tryd.prog 10 := ⟨_, Tryd.func10, by kernel_rfl, rfl⟩
theorem call_20 : Callable Tryd.prog 20 := ⟨_, Tryd.func20, by kernel_rfl, rfl⟩
theorem otherLaw (l : List Dg) (i : Int) (leaf : Dg) (x1 : Value) (w0 : World) (hL : Laid w0) (hx1 : SlT DG 0 0 l x1 w0) :
    Gives Tryd.prog 7 #[x1, i64 (i), Dg.val (leaf)] w0 (Pr.ex (Value.bool true)) := by
  refine enter (N := 120) Tryd.func7 rfl rfl ?_
  intro a0 hN_0 hD_0 hA
  have s0_0 : get a0 0 = x1 := hA 0 _ rfl
  have s1_0 : get a0 1 = i64 (i) := hA 1 _ rfl
  have s2_0 : get a0 2 = Dg.val (leaf) := hA 2 _ rfl
  clear hA
  have hE_0 : Ext w0 w0 := Ext.refl w0
  have hsx1_0 := hx1.close
  refine wp_seq ?_
  refine region_lex [5] [(5, Pr.box' w0.heap.size 24 [w32 (leaf).a, w32 (leaf).b, w32 (leaf).c, w32 (leaf).d]), (6, Pr.ex (Value.bool (false)))] 2 hN_0 hD_0 (by kernel_rfl) (by kernel_rfl) ?_ ?_
  · refine Asks.cons ?_ (Asks.cons ?_ (Asks.zero _))
    · refine Ask.fresh rfl rfl ?_
      intro aq wq hNq hO hR hT
      exact does_box (V := Dg.val (leaf)) ((hO 2 rfl).trans s2_0) (fun b w2 he hlo hb => ⟨he, ⟨b, rfl, Nat.le_trans hR.size' hlo, hb⟩, ⟨b, rfl, hlo, hb.lt⟩⟩)
    · refine Ask.plain rfl rfl ?_
      intro aq wq hNq hO hR hT
      exact does_assign (V := Value.bool (false)) rfl ⟨Ext.refl _, rfl⟩
  intro a1 wd1 hN_1 hD_1 hO hR hA hU
  obtain ⟨t5, _, _⟩ := hA
  have hE_1 := hE_0.trans hR
  have s0_1 := (hO 0 rfl).trans s0_0
  have s1_1 := (hO 1 rfl).trans s1_0
  have hsx1_1 := hsx1_0.ext' hR
  obtain ⟨b5, s5_1, lo_b5, hbb5_1⟩ := t5
  have nb_x1_b5 := SlT.old hsx1_0 lo_b5
  have fr_b5 : w0.heap.size ≤ b5 := Nat.le_trans hE_0.size' lo_b5
  clear hE_0 hN_0 hD_0 s0_0 s1_0 s2_0 hsx1_0
  refine tail_nil ?_
  refine wp_seq ?_
  refine wp_seq ?_
  refine region_lex [] [(11, Pr.ex (Value.bool (true))), (12, Pr.ex (Value.bool (false)))] 2 hN_1 hD_1 (by kernel_rfl) (by kernel_rfl) ?_ ?_
  · refine Asks.cons ?_ (Asks.cons ?_ (Asks.zero _))
    · refine Ask.plain rfl rfl ?_
      intro aq wq hNq hO hR hT
      exact does_ret (vs := #[]) call_10 args0 rfl ((alive04 wq (hL.ext (hE_1.trans hR))).mono fun v w2 h => ⟨h.2, h.1⟩)
    · refine Ask.plain rfl rfl ?_
      intro aq wq hNq hO hR hT
      exact does_not (B := true) (hT 11 rfl rfl) ⟨Ext.refl _, rfl⟩
  intro a2 wd2 hN_2 hD_2 hO hR hA hU
  obtain ⟨_, t12, _⟩ := hA
  have hE_2 := hE_1.trans hR
  have s0_2 := (hO 0 rfl).trans s0_1
  have s1_2 := (hO 1 rfl).trans s1_1
  have s5_2 := (hO 5 rfl).trans s5_1
  have hbb5_2 := hbb5_1.ext' hR
  have hsx1_2 := hsx1_1.ext' hR
  have s12_2 : get a2 12 = Value.bool (false) := t12
  clear hE_1 hN_1 hD_1 s0_1 s1_1 s5_1 hbb5_1 hsx1_1
  refine tail_nil ?_
  refine wp_ifF s12_2 ?_
  refine wp_skip ?_
  refine wp_seq ?_
  refine wp_seq ?_
  refine region_lex [] [(13, Pr.ex (x1)), (14, Pr.ex (i64 ((l.length : Nat) : Int))), (15, Pr.ex (Value.bool (decide (((30 : Nat) : Int) < ((l.length : Nat) : Int))))), (16, Pr.ex (Value.bool (decide (((30 : Nat) : Int) < ((l.length : Nat) : Int))))), (17, Pr.ifb (!(decide (((30 : Nat) : Int) < ((l.length : Nat) : Int)))) (Pr.ex (i64 (i)))), (18, Pr.ifb (!(decide (((30 : Nat) : Int) < ((l.length : Nat) : Int)))) (Pr.ex (Value.bool (decide (i < ((0 : Nat) : Int)))))), (19, Pr.ex (Value.bool ((decide (((30 : Nat) : Int) < ((l.length : Nat) : Int))) || (decide (i < ((0 : Nat) : Int)))))), (20, Pr.ex (Value.bool ((decide (((30 : Nat) : Int) < ((l.length : Nat) : Int))) || (decide (i < ((0 : Nat) : Int)))))), (21, Pr.ifb (!((decide (((30 : Nat) : Int) < ((l.length : Nat) : Int))) || (decide (i < ((0 : Nat) : Int))))) (Pr.ex (i64 (i)))), (22, Pr.ifb (!((decide (((30 : Nat) : Int) < ((l.length : Nat) : Int))) || (decide (i < ((0 : Nat) : Int))))) (Pr.ex (x1))), (23, Pr.ifb (!((decide (((30 : Nat) : Int) < ((l.length : Nat) : Int))) || (decide (i < ((0 : Nat) : Int))))) (Pr.ex (i64 ((l.length : Nat) : Int)))), (24, Pr.ifb (!((decide (((30 : Nat) : Int) < ((l.length : Nat) : Int))) || (decide (i < ((0 : Nat) : Int))))) (Pr.ex (Value.bool (decide (((l.length : Nat) : Int) ≤ i))))), (25, Pr.ex (Value.bool (((decide (((30 : Nat) : Int) < ((l.length : Nat) : Int))) || (decide (i < ((0 : Nat) : Int)))) || (decide (((l.length : Nat) : Int) ≤ i)))))] 13 hN_2 hD_2 (by kernel_rfl) (by kernel_rfl) ?_ ?_
  · refine Asks.cons ?_ (Asks.cons ?_ (Asks.cons ?_ (Asks.cons ?_ (Asks.cons ?_ (Asks.cons ?_ (Asks.cons ?_ (Asks.cons ?_ (Asks.cons ?_ (Asks.cons ?_ (Asks.cons ?_ (Asks.cons ?_ (Asks.cons ?_ (Asks.zero _)))))))))))))
    · refine Ask.plain rfl rfl ?_
      intro aq wq hNq hO hR hT
      exact does_move (V := x1) ((hO 0 rfl).trans s0_2) ⟨Ext.refl _, rfl⟩
    · refine Ask.plain rfl rfl ?_
      intro aq wq hNq hO hR hT
      exact does_len (T := DG) (xs := l) sli_27 (SlT.at (hT 13 rfl rfl) (hsx1_2.ext' hR)) ⟨Ext.refl _, rfl⟩
    · refine Ask.plain rfl rfl ?_
      intro aq wq hNq hO hR hT
      exact does_gtr (a := ((l.length : Nat) : Int)) (b := ((30 : Nat) : Int)) (hT 14 rfl rfl) rfl ⟨Ext.refl _, rfl⟩
    · refine Ask.plain rfl rfl ?_
      intro aq wq hNq hO hR hT
      exact does_move (V := Value.bool (decide (((30 : Nat) : Int) < ((l.length : Nat) : Int)))) (hT 15 rfl rfl) ⟨Ext.refl _, rfl⟩
    · refine Ask.guarded (B := decide (((30 : Nat) : Int) < ((l.length : Nat) : Int))) (want := false) (t := 16) rfl rfl rfl rfl (by decide) (fun aq wq hO hR hT => hT 16 rfl rfl) (fun hG aq wq hNq hO hR hT => ?_) (fun hno _ => fun hc => absurd (bn hc) hno)
      replace hG := nb hG
      exact does_move (V := i64 (i)) ((hO 1 rfl).trans s1_2) ⟨Ext.refl _, fun _ => rfl⟩
    · refine Ask.guarded (B := decide (((30 : Nat) : Int) < ((l.length : Nat) : Int))) (want := false) (t := 16) rfl rfl rfl rfl (by decide) (fun aq wq hO hR hT => hT 16 rfl rfl) (fun hG aq wq hNq hO hR hT => ?_) (fun hno _ => fun hc => absurd (bn hc) hno)
      replace hG := nb hG
      exact does_lss (a := i) (b := ((0 : Nat) : Int)) (hT 17 rfl rfl hG) rfl ⟨Ext.refl _, fun _ => rfl⟩
    · refine Ask.plain rfl rfl ?_
      intro aq wq hNq hO hR hT
      exact does_or (B := decide (((30 : Nat) : Int) < ((l.length : Nat) : Int))) (X := decide (i < ((0 : Nat) : Int))) (hT 16 rfl rfl) rfl (fun hB => (hT 18 rfl rfl (nb hB))) ⟨Ext.refl _, rfl⟩
    · refine Ask.plain rfl rfl ?_
      intro aq wq hNq hO hR hT
      exact does_move (V := Value.bool ((decide (((30 : Nat) : Int) < ((l.length : Nat) : Int))) || (decide (i < ((0 : Nat) : Int))))) (hT 19 rfl rfl) ⟨Ext.refl _, rfl⟩
    · refine Ask.guarded (B := (decide (((30 : Nat) : Int) < ((l.length : Nat) : Int))) || (decide (i < ((0 : Nat) : Int)))) (want := false) (t := 20) rfl rfl rfl rfl (by decide) (fun aq wq hO hR hT => hT 20 rfl rfl) (fun hG aq wq hNq hO hR hT => ?_) (fun hno _ => fun hc => absurd (bn hc) hno)
      replace hG := nb hG
      exact does_move (V := i64 (i)) ((hO 1 rfl).trans s1_2) ⟨Ext.refl _, fun _ => rfl⟩
    · refine Ask.guarded (B := (decide (((30 : Nat) : Int) < ((l.length : Nat) : Int))) || (decide (i < ((0 : Nat) : Int)))) (want := false) (t := 20) rfl rfl rfl rfl (by decide) (fun aq wq hO hR hT => hT 20 rfl rfl) (fun hG aq wq hNq hO hR hT => ?_) (fun hno _ => fun hc => absurd (bn hc) hno)
      replace hG := nb hG
      exact does_move (V := x1) ((hO 0 rfl).trans s0_2) ⟨Ext.refl _, fun _ => rfl⟩
    · refine Ask.guarded (B := (decide (((30 : Nat) : Int) < ((l.length : Nat) : Int))) || (decide (i < ((0 : Nat) : Int)))) (want := false) (t := 20) rfl rfl rfl rfl (by decide) (fun aq wq hO hR hT => hT 20 rfl rfl) (fun hG aq wq hNq hO hR hT => ?_) (fun hno _ => fun hc => absurd (bn hc) hno)
      replace hG := nb hG
      exact does_len (T := DG) (xs := l) sli_27 (SlT.at (hT 22 rfl rfl hG) (hsx1_2.ext' hR)) ⟨Ext.refl _, fun _ => rfl⟩
    · refine Ask.guarded (B := (decide (((30 : Nat) : Int) < ((l.length : Nat) : Int))) || (decide (i < ((0 : Nat) : Int)))) (want := false) (t := 20) rfl rfl rfl rfl (by decide) (fun aq wq hO hR hT => hT 20 rfl rfl) (fun hG aq wq hNq hO hR hT => ?_) (fun hno _ => fun hc => absurd (bn hc) hno)
      replace hG := nb hG
      exact does_geq (a := i) (b := ((l.length : Nat) : Int)) (hT 21 rfl rfl hG) (hT 23 rfl rfl hG) ⟨Ext.refl _, fun _ => rfl⟩
    · refine Ask.plain rfl rfl ?_
      intro aq wq hNq hO hR hT
      exact does_or (B := (decide (((30 : Nat) : Int) < ((l.length : Nat) : Int))) || (decide (i < ((0 : Nat) : Int)))) (X := decide (((l.length : Nat) : Int) ≤ i)) (hT 20 rfl rfl) rfl (fun hB => (hT 24 rfl rfl (nb hB))) ⟨Ext.refl _, rfl⟩
  intro a3 wd3 hN_3 hD_3 hO hR hA hU
  obtain ⟨_, _, _, _, _, _, _, _, _, _, _, _, t25, _⟩ := hA
  have hE_3 := hE_2.trans hR
  have s0_3 := (hO 0 rfl).trans s0_2
  have s1_3 := (hO 1 rfl).trans s1_2
  have s5_3 := (hO 5 rfl).trans s5_2
  have hbb5_3 := hbb5_2.ext' hR
  have hsx1_3 := hsx1_2.ext' hR
  have s25_3 : get a3 25 = Value.bool (((decide (((30 : Nat) : Int) < ((l.length : Nat) : Int))) || (decide (i < ((0 : Nat) : Int)))) || (decide (((l.length : Nat) : Int) ≤ i))) := t25
  clear hE_2 hN_2 hD_2 s0_2 s1_2 s5_2 s12_2 hbb5_2 hsx1_2
  refine tail_nil ?_
  refine wp_if (B := ((decide (((30 : Nat) : Int) < ((l.length : Nat) : Int))) || (decide (i < ((0 : Nat) : Int)))) || (decide (((l.length : Nat) : Int) ≤ i))) s25_3 (fun hc0 => ?_) (fun hc0 => ?_)
  · -- T 0
    refine wp_seq ?_
    refine region_lex [] [(6, Pr.ex (Value.bool (true)))] 1 hN_3 hD_3 (by kernel_rfl) (by kernel_rfl) ?_ ?_
    · refine Asks.cons ?_ (Asks.zero _)
      · refine Ask.plain rfl rfl ?_
        intro aq wq hNq hO hR hT
        exact does_assign (V := Value.bool (true)) rfl ⟨Ext.refl _, rfl⟩
    intro a4 wd4 hN_4 hD_4 hO hR hA hU
    obtain ⟨t6, _⟩ := hA
    have hE_4 := hE_3.trans hR
    have hbb5_4 := hbb5_3.ext' hR
    have hsx1_4 := hsx1_3.ext' hR
    have s6_4 : get a4 6 = Value.bool (true) := t6
    clear hE_3 hN_3 hD_3 s0_3 s1_3 s5_3 s25_3 hbb5_3 hsx1_3
    refine tail_nil ?_
    refine wp_ret ?_
    refine res_one (V := Value.bool (true)) rfl hD_4 s6_4 ?_
    exact ⟨rfl, hE_4⟩
  have hpi : (0 ≤ i ∧ i < (l.length : Int)) ∧ l.length ≤ 30 := by simp only [Bool.or_eq_false_iff, decide_eq_false_iff_not] at hc0; omega
  obtain ⟨hpi, hl30⟩ := hpi
  refine wp_skip ?_
  refine wp_seq ?_
  refine region_lex [7] [(26, Pr.ex (x1)), (27, Pr.ex (Dg.val (root l))), (7, Pr.box' wd3.heap.size 24 [w32 (Dg.zero).a, w32 (Dg.zero).b, w32 (Dg.zero).c, w32 (Dg.zero).d])] 3 hN_3 hD_3 (by kernel_rfl) (by kernel_rfl) ?_ ?_
  · refine Asks.cons ?_ (Asks.cons ?_ (Asks.cons ?_ (Asks.zero _)))
    · refine Ask.plain rfl rfl ?_
      intro aq wq hNq hO hR hT
      exact does_move (V := x1) ((hO 0 rfl).trans s0_3) ⟨Ext.refl _, rfl⟩
    · refine Ask.plain rfl rfl ?_
      intro aq wq hNq hO hR hT
      exact does_ret (vs := #[x1]) call_16 (args1 (hT 26 rfl rfl)) rfl ((root_ (l) (x1) wq (hL.ext (hE_3.trans hR)) ((hsx1_3.ext' hR).wide (Nat.zero_le _) (.inl rfl)) (by omega)).mono fun v w2 h => ⟨h.2, h.1⟩)
    · refine Ask.fresh rfl rfl ?_
      intro aq wq hNq hO hR hT
      exact does_alloc zero_24 (fun b w2 he hlo hb => ⟨he, ⟨b, rfl, Nat.le_trans hR.size' hlo, hb⟩, ⟨b, rfl, hlo, hb.lt⟩⟩)
  intro a5 wd5 hN_5 hD_5 hO hR hA hU
  obtain ⟨_, t27, t7, _⟩ := hA
  have hE_5 := hE_3.trans hR
  have s0_5 := (hO 0 rfl).trans s0_3
  have s1_5 := (hO 1 rfl).trans s1_3
  have s5_5 := (hO 5 rfl).trans s5_3
  have hbb5_5 := hbb5_3.ext' hR
  have hsx1_5 := hsx1_3.ext' hR
  have s27_5 : get a5 27 = Dg.val (root l) := t27
  obtain ⟨b7, s7_5, lo_b7, hbb7_5⟩ := t7
  have ne_b5_b7 : b5 ≠ b7 := fun e => Nat.lt_irrefl _ (Nat.lt_of_lt_of_le hbb5_3.lt (e ▸ lo_b7))
  have nb_x1_b7 := SlT.old hsx1_3 lo_b7
  have fr_b7 : w0.heap.size ≤ b7 := Nat.le_trans hE_3.size' lo_b7
  clear hE_3 hN_3 hD_3 s0_3 s1_3 s5_3 s25_3 hbb5_3 hsx1_3
  refine tail_none rfl rfl (does_storeD (o := 0) (n := 4) (cs' := [w32 (root l).a, w32 (root l).b, w32 (root l).c, w32 (root l).d]) (V := Dg.val (root l)) s7_5 s27_5 hbb7_5 (Nat.le_of_ble_eq_true rfl) rfl siz_24 rfl rfl (fun wd6 hX hz hbb7_6 => ?_))
  have hE_6 := hE_5.since hX (fun k e => e ▸ fr_b7)
  have hbb5_6 := hbb5_5.ext hX ne_b5_b7
  have hsx1_6 := SlT.over hsx1_5 hX nb_x1_b7
  clear hX hz hE_5 hbb5_5 hbb7_5 hsx1_5
  refine tail_nil ?_
  refine wp_seq ?_
  refine region_lex [] [(29, Pr.ex (x1)), (30, Pr.ex (i64 (i))), (31, Pr.t2 (Pr.own' DG wd6.heap.size 24 ((prove l (i)).1)) (Pr.ex (i64 (((prove l (i)).2 : Nat) : Int)))), (28, Pr.t2 (Pr.own' DG wd6.heap.size 24 ((prove l (i)).1)) (Pr.ex (i64 (((prove l (i)).2 : Nat) : Int)))), (32, Pr.own' DG wd6.heap.size 24 ((prove l (i)).1)), (33, Pr.ex (i64 (((prove l (i)).2 : Nat) : Int))), (8, Pr.own' DG wd6.heap.size 24 ((prove l (i)).1)), (9, Pr.ex (i64 (((prove l (i)).2 : Nat) : Int)))] 8 hN_5 hD_5 (by kernel_rfl) (by kernel_rfl) ?_ ?_
  · refine Asks.cons ?_ (Asks.cons ?_ (Asks.cons ?_ (Asks.cons ?_ (Asks.cons ?_ (Asks.cons ?_ (Asks.cons ?_ (Asks.cons ?_ (Asks.zero _))))))))
    · refine Ask.plain rfl rfl ?_
      intro aq wq hNq hO hR hT
      exact does_move (V := x1) ((hO 0 rfl).trans s0_5) ⟨Ext.refl _, rfl⟩
    · refine Ask.plain rfl rfl ?_
      intro aq wq hNq hO hR hT
      exact does_move (V := i64 (i)) ((hO 1 rfl).trans s1_5) ⟨Ext.refl _, rfl⟩
    · refine Ask.plain rfl rfl ?_
      intro aq wq hNq hO hR hT
      exact does_ret (vs := #[x1, i64 (i)]) call_11 (args2 (hT 29 rfl rfl) (hT 30 rfl rfl)) rfl ((prove_ (l) (i) (x1) wq (hL.ext (hE_6.trans hR)) ((hsx1_6.ext' hR).wide (Nat.zero_le _) (.inl rfl)) (by omega)).mono fun v w2 h => ⟨h.2, by obtain ⟨x0, x1, hv, k0, k1⟩ := h.1; exact ⟨x0, x1, hv, OwnT.base k0 hR.size', k1⟩⟩)
    · refine Ask.plain rfl rfl ?_
      intro aq wq hNq hO hR hT
      exact does_move rfl ⟨Ext.refl _, (hT 31 rfl rfl)⟩
    · refine Ask.plain rfl rfl ?_
      intro aq wq hNq hO hR hT
      obtain ⟨x0, x1, hv, k0, k1⟩ := (hT 28 rfl rfl)
      exact does_extract hv rfl ⟨Ext.refl _, k0⟩
    · refine Ask.plain rfl rfl ?_
      intro aq wq hNq hO hR hT
      obtain ⟨x0, x1, hv, k0, k1⟩ := (hT 28 rfl rfl)
      exact does_extract (V := i64 (((prove l (i)).2 : Nat) : Int)) hv (by rw [show x1 = i64 (((prove l (i)).2 : Nat) : Int) from k1]; rfl) ⟨Ext.refl _, rfl⟩
    · refine Ask.plain rfl rfl ?_
      intro aq wq hNq hO hR hT
      exact does_assign rfl ⟨Ext.refl _, (hT 32 rfl rfl)⟩
    · refine Ask.plain rfl rfl ?_
      intro aq wq hNq hO hR hT
      exact does_assign (V := i64 (((prove l (i)).2 : Nat) : Int)) (hT 33 rfl rfl) ⟨Ext.refl _, rfl⟩
  intro a7 wd7 hN_7 hD_7 hO hR hA hU
  obtain ⟨_, _, _, _, _, _, t8, t9, _⟩ := hA
  have hE_7 := hE_6.trans hR
  have s0_7 := (hO 0 rfl).trans s0_5
  have s1_7 := (hO 1 rfl).trans s1_5
  have s5_7 := (hO 5 rfl).trans s5_5
  have s7_7 := (hO 7 rfl).trans s7_5
  have hbb5_7 := hbb5_6.ext' hR
  have hbb7_7 := hbb7_6.ext' hR
  have hsx1_7 := hsx1_6.ext' hR
  obtain ⟨x8, s8_7⟩ : ∃ x, get a7 8 = x := ⟨_, rfl⟩
  replace t8 : OwnT DG wd6.heap.size 24 ((prove l (i)).1) x8 wd7 := by rw [← s8_7]; exact t8
  have nbo_x8_b5 : x8.ownBlock ≠ some b5 := fun e => Nat.lt_irrefl _ (Nat.lt_of_lt_of_le hbb5_6.lt (OwnT.block_lt t8 e).1)
  have nbo_x8_b7 : x8.ownBlock ≠ some b7 := fun e => Nat.lt_irrefl _ (Nat.lt_of_lt_of_le hbb7_6.lt (OwnT.block_lt t8 e).1)
  have hsx8_7 := t8.sl.wide (Nat.zero_le _) (.inl rfl)
  have hox8_7 := OwnT.base t8 hE_6.size'
  have s9_7 : get a7 9 = i64 (((prove l (i)).2 : Nat) : Int) := t9
  clear hE_6 hN_5 hD_5 s0_5 s1_5 s5_5 s7_5 s27_5 hbb5_6 hbb7_6 hsx1_6
  refine tail_nil ?_
  refine wp_seq ?_
  refine wp_seq ?_
  refine region_lex [] [(34, Pr.ex (i64 (((prove l (i)).2 : Nat) : Int))), (35, Pr.ex (Value.bool (!decide ((((prove l (i)).2 : Nat) : Int) = ((0 : Nat) : Int)))))] 2 hN_7 hD_7 (by kernel_rfl) (by kernel_rfl) ?_ ?_
  · refine Asks.cons ?_ (Asks.cons ?_ (Asks.zero _))
    · refine Ask.plain rfl rfl ?_
      intro aq wq hNq hO hR hT
      exact does_move (V := i64 (((prove l (i)).2 : Nat) : Int)) ((hO 9 rfl).trans s9_7) ⟨Ext.refl _, rfl⟩
    · refine Ask.plain rfl rfl ?_
      intro aq wq hNq hO hR hT
      exact does_neq (a := (((prove l (i)).2 : Nat) : Int)) (b := ((0 : Nat) : Int)) (hT 34 rfl rfl) rfl ⟨Ext.refl _, rfl⟩
  intro a8 wd8 hN_8 hD_8 hO hR hA hU
  obtain ⟨_, t35, _⟩ := hA
  have hE_8 := hE_7.trans hR
  have s0_8 := (hO 0 rfl).trans s0_7
  have s1_8 := (hO 1 rfl).trans s1_7
  have s5_8 := (hO 5 rfl).trans s5_7
  have s7_8 := (hO 7 rfl).trans s7_7
  have s8_8 := (hO 8 rfl).trans s8_7
  have hbb5_8 := hbb5_7.ext' hR
  have hbb7_8 := hbb7_7.ext' hR
  have hsx1_8 := hsx1_7.ext' hR
  have hsx8_8 := hsx8_7.ext' hR
  have hox8_8 := hox8_7.ext' hR
  have s35_8 : get a8 35 = Value.bool (!decide ((((prove l (i)).2 : Nat) : Int) = ((0 : Nat) : Int))) := t35
  clear hE_7 hN_7 hD_7 s0_7 s1_7 s5_7 s7_7 s8_7 s9_7 hbb5_7 hbb7_7 hsx1_7 hsx8_7 hox8_7
  refine tail_nil ?_
  refine wp_if (B := !decide ((((prove l (i)).2 : Nat) : Int) = ((0 : Nat) : Int))) s35_8 (fun hc1 => ?_) (fun hc1 => ?_)
  · -- T 1
    have hc1 := of_decide_eq_false (bn hc1)
    rw [prove_ok hpi] at hc1; simp at hc1
  have hc1 := of_decide_eq_true (bn' hc1)
  refine wp_skip ?_
  refine wp_seq ?_
  refine wp_seq ?_
  refine region_any [] [(36, Pr.ex (Dg.val (leaf))), (37, Pr.ex (x1)), (38, Pr.ex (i64 (i))), (39, Pr.pt' 0 (w0.heap.size + 1) [w32 ((l.getD (i).toNat Dg.zero)).a, w32 ((l.getD (i).toNat Dg.zero)).b, w32 ((l.getD (i).toNat Dg.zero)).c, w32 ((l.getD (i).toNat Dg.zero)).d]), (40, Pr.ex (Dg.val ((l.getD (i).toNat Dg.zero)))), (41, Pr.ex (Value.bool (!decide (leaf = (l.getD (i).toNat Dg.zero))))), (42, Pr.ex (Value.bool (!decide (leaf = (l.getD (i).toNat Dg.zero))))), (43, Pr.ifb (!decide (leaf = (l.getD (i).toNat Dg.zero))) (Pr.ex (Dg.val (root l)))), (44, Pr.ifb (!decide (leaf = (l.getD (i).toNat Dg.zero))) (Pr.ex (x1))), (45, Pr.ifb (!decide (leaf = (l.getD (i).toNat Dg.zero))) (Pr.ex (i64 ((l.length : Nat) : Int)))), (46, Pr.ifb (!decide (leaf = (l.getD (i).toNat Dg.zero))) (Pr.ex (i64 (i)))), (47, Pr.ifb (!decide (leaf = (l.getD (i).toNat Dg.zero))) (Pr.ex (Dg.val (leaf)))), (48, Pr.ifb (!decide (leaf = (l.getD (i).toNat Dg.zero))) (Pr.ex (x8))), (49, Pr.ifb (!decide (leaf = (l.getD (i).toNat Dg.zero))) (Pr.ex (Value.bool (checks (root l) (((l.length : Nat) : Int)) (i) leaf ((prove l (i)).1))))), (50, Pr.ex (Value.bool ((!decide (leaf = (l.getD (i).toNat Dg.zero))) && (checks (root l) (((l.length : Nat) : Int)) (i) leaf ((prove l (i)).1))))), (51, Pr.ex (Value.bool ((!decide (leaf = (l.getD (i).toNat Dg.zero))) && (checks (root l) (((l.length : Nat) : Int)) (i) leaf ((prove l (i)).1))))), (52, Pr.ifb ((!decide (leaf = (l.getD (i).toNat Dg.zero))) && (checks (root l) (((l.length : Nat) : Int)) (i) leaf ((prove l (i)).1))) (Pr.ex (x1))), (53, Pr.ifb ((!decide (leaf = (l.getD (i).toNat Dg.zero))) && (checks (root l) (((l.length : Nat) : Int)) (i) leaf ((prove l (i)).1))) (Pr.ex (i64 (i)))), (54, Pr.ifb ((!decide (leaf = (l.getD (i).toNat Dg.zero))) && (checks (root l) (((l.length : Nat) : Int)) (i) leaf ((prove l (i)).1))) (Pr.ex (Dg.val (leaf)))), (55, Pr.ifb ((!decide (leaf = (l.getD (i).toNat Dg.zero))) && (checks (root l) (((l.length : Nat) : Int)) (i) leaf ((prove l (i)).1))) (Pr.ex (x8))), (56, Pr.ifb ((!decide (leaf = (l.getD (i).toNat Dg.zero))) && (checks (root l) (((l.length : Nat) : Int)) (i) leaf ((prove l (i)).1))) (Pr.ex (Value.bool (fooled l (i).toNat leaf ((prove l (i)).1).reverse)))), (57, Pr.ifb ((!decide (leaf = (l.getD (i).toNat Dg.zero))) && (checks (root l) (((l.length : Nat) : Int)) (i) leaf ((prove l (i)).1))) (Pr.ex (Value.bool (!(fooled l (i).toNat leaf ((prove l (i)).1).reverse))))), (58, Pr.ex (Value.bool (((!decide (leaf = (l.getD (i).toNat Dg.zero))) && (checks (root l) (((l.length : Nat) : Int)) (i) leaf ((prove l (i)).1))) && (!(fooled l (i).toNat leaf ((prove l (i)).1).reverse)))))] 23 mixed hN_8 hD_8 (by kernel_rfl) (by kernel_rfl) (by kernel_rfl) ?_ ?_
  · refine Asks.cons ?_ (Asks.cons ?_ (Asks.cons ?_ (Asks.cons ?_ (Asks.cons ?_ (Asks.cons ?_ (Asks.cons ?_ (Asks.cons ?_ (Asks.cons ?_ (Asks.cons ?_ (Asks.cons ?_ (Asks.cons ?_ (Asks.cons ?_ (Asks.cons ?_ (Asks.cons ?_ (Asks.cons ?_ (Asks.cons ?_ (Asks.cons ?_ (Asks.cons ?_ (Asks.cons ?_ (Asks.cons ?_ (Asks.cons ?_ (Asks.cons ?_ (Asks.zero _)))))))))))))))))))))))
    · refine Ask.plain rfl rfl ?_
      intro aq wq hNq hO hR hT
      replace hR := (Ext.drew _).trans hR
      exact does_loadD (o := 0) (n := 4) (mid := [w32 (leaf).a, w32 (leaf).b, w32 (leaf).c, w32 (leaf).d]) ((hO 5 rfl).trans s5_8) (hbb5_8.ext' hR) rfl rfl (Nat.le_of_ble_eq_true rfl) row_24 rfl ⟨Ext.refl _, rfl⟩
    · refine Ask.plain rfl rfl ?_
      intro aq wq hNq hO hR hT
      replace hR := (Ext.drew _).trans hR
      exact does_move (V := x1) ((hO 0 rfl).trans s0_8) ⟨Ext.refl _, rfl⟩
    · refine Ask.plain rfl rfl ?_
      intro aq wq hNq hO hR hT
      replace hR := (Ext.drew _).trans hR
      exact does_move (V := i64 (i)) ((hO 1 rfl).trans s1_8) ⟨Ext.refl _, rfl⟩
    · refine Ask.plain rfl rfl ?_
      intro aq wq hNq hO hR hT
      replace hR := (Ext.drew _).trans hR
      exact does_indexSl (T := DG) (xs := l) (i := i) (X := (l.getD (i).toNat Dg.zero)) sli_27 rfl (SlT.at (hT 37 rfl rfl) (hsx1_8.ext' hR)) (hT 38 rfl rfl) (by omega) (getD_of hpi) (fun v h => ⟨Ext.refl _, h⟩)
    · refine Ask.plain rfl rfl ?_
      intro aq wq hNq hO hR hT
      replace hR := (Ext.drew _).trans hR
      exact does_loadP (cs := [w32 ((l.getD (i).toNat Dg.zero)).a, w32 ((l.getD (i).toNat Dg.zero)).b, w32 ((l.getD (i).toNat Dg.zero)).c, w32 ((l.getD (i).toNat Dg.zero)).d]) (hT 39 rfl rfl) row_24 rfl ⟨Ext.refl _, rfl⟩
    · refine Ask.plain rfl rfl ?_
      intro aq wq hNq hO hR hT
      replace hR := (Ext.drew _).trans hR
      exact does_neT (a := leaf) (b := (l.getD (i).toNat Dg.zero)) eq_24 (hT 36 rfl rfl) (hT 40 rfl rfl) ⟨Ext.refl _, rfl⟩
    · refine Ask.plain rfl rfl ?_
      intro aq wq hNq hO hR hT
      replace hR := (Ext.drew _).trans hR
      exact does_move (V := Value.bool (!decide (leaf = (l.getD (i).toNat Dg.zero)))) (hT 41 rfl rfl) ⟨Ext.refl _, rfl⟩
    · refine Ask.guarded (B := !decide (leaf = (l.getD (i).toNat Dg.zero))) (want := true) (t := 42) rfl rfl rfl rfl (by decide) (fun aq wq hO hR hT => hT 42 rfl rfl) (fun hG aq wq hNq hO hR hT => ?_) (fun hno _ => fun hc => absurd hc hno)
      replace hR := (Ext.drew _).trans hR
      exact does_loadD (o := 0) (n := 4) (mid := [w32 (root l).a, w32 (root l).b, w32 (root l).c, w32 (root l).d]) ((hO 7 rfl).trans s7_8) (hbb7_8.ext' hR) rfl rfl (Nat.le_of_ble_eq_true rfl) row_24 rfl ⟨Ext.refl _, fun _ => rfl⟩
    · refine Ask.guarded (B := !decide (leaf = (l.getD (i).toNat Dg.zero))) (want := true) (t := 42) rfl rfl rfl rfl (by decide) (fun aq wq hO hR hT => hT 42 rfl rfl) (fun hG aq wq hNq hO hR hT => ?_) (fun hno _ => fun hc => absurd hc hno)
      replace hR := (Ext.drew _).trans hR
      exact does_move (V := x1) ((hO 0 rfl).trans s0_8) ⟨Ext.refl _, fun _ => rfl⟩
    · refine Ask.guarded (B := !decide (leaf = (l.getD (i).toNat Dg.zero))) (want := true) (t := 42) rfl rfl rfl rfl (by decide) (fun aq wq hO hR hT => hT 42 rfl rfl) (fun hG aq wq hNq hO hR hT => ?_) (fun hno _ => fun hc => absurd hc hno)
      replace hR := (Ext.drew _).trans hR
      exact does_len (T := DG) (xs := l) sli_27 (SlT.at (hT 44 rfl rfl hG) (hsx1_8.ext' hR)) ⟨Ext.refl _, fun _ => rfl⟩
    · refine Ask.guarded (B := !decide (leaf = (l.getD (i).toNat Dg.zero))) (want := true) (t := 42) rfl rfl rfl rfl (by decide) (fun aq wq hO hR hT => hT 42 rfl rfl) (fun hG aq wq hNq hO hR hT => ?_) (fun hno _ => fun hc => absurd hc hno)
      replace hR := (Ext.drew _).trans hR
      exact does_move (V := i64 (i)) ((hO 1 rfl).trans s1_8) ⟨Ext.refl _, fun _ => rfl⟩
    · refine Ask.guarded (B := !decide (leaf = (l.getD (i).toNat Dg.zero))) (want := true) (t := 42) rfl rfl rfl rfl (by decide) (fun aq wq hO hR hT => hT 42 rfl rfl) (fun hG aq wq hNq hO hR hT => ?_) (fun hno _ => fun hc => absurd hc hno)
      replace hR := (Ext.drew _).trans hR
      exact does_loadD (o := 0) (n := 4) (mid := [w32 (leaf).a, w32 (leaf).b, w32 (leaf).c, w32 (leaf).d]) ((hO 5 rfl).trans s5_8) (hbb5_8.ext' hR) rfl rfl (Nat.le_of_ble_eq_true rfl) row_24 rfl ⟨Ext.refl _, fun _ => rfl⟩
    · refine Ask.guarded (B := !decide (leaf = (l.getD (i).toNat Dg.zero))) (want := true) (t := 42) rfl rfl rfl rfl (by decide) (fun aq wq hO hR hT => hT 42 rfl rfl) (fun hG aq wq hNq hO hR hT => ?_) (fun hno _ => fun hc => absurd hc hno)
      replace hR := (Ext.drew _).trans hR
      exact does_move (V := x8) ((hO 8 rfl).trans s8_8) ⟨Ext.refl _, fun _ => rfl⟩
    · refine Ask.guarded (B := !decide (leaf = (l.getD (i).toNat Dg.zero))) (want := true) (t := 42) rfl rfl rfl rfl (by decide) (fun aq wq hO hR hT => hT 42 rfl rfl) (fun hG aq wq hNq hO hR hT => ?_) (fun hno _ => fun hc => absurd hc hno)
      replace hR := (Ext.drew _).trans hR
      exact does_ret (vs := #[Dg.val (root l), i64 ((l.length : Nat) : Int), i64 (i), Dg.val (leaf), x8]) call_20 (args5 (hT 43 rfl rfl hG) (hT 45 rfl rfl hG) (hT 46 rfl rfl hG) (hT 47 rfl rfl hG) (hT 48 rfl rfl hG)) rfl ((check_ (root l) (((l.length : Nat) : Int)) (i) (leaf) ((prove l (i)).1) (x8) wq (hL.ext (hE_8.trans hR)) ((hsx8_8.ext' hR).wide (Nat.zero_le _) (.inl rfl)) (by have := prove_len2 (l := l) (i := i); first | omega | (simp only [List.length_append, List.length_cons, List.length_nil, List.length_take]; omega))).mono fun v w2 h => ⟨h.2, fun _ => h.1⟩)
    · refine Ask.plain rfl rfl ?_
      intro aq wq hNq hO hR hT
      replace hR := (Ext.drew _).trans hR
      exact does_and (B := !decide (leaf = (l.getD (i).toNat Dg.zero))) (X := checks (root l) (((l.length : Nat) : Int)) (i) leaf ((prove l (i)).1)) (hT 42 rfl rfl) (fun hB => (hT 49 rfl rfl hB)) rfl ⟨Ext.refl _, rfl⟩
    · refine Ask.plain rfl rfl ?_
      intro aq wq hNq hO hR hT
      replace hR := (Ext.drew _).trans hR
      exact does_move (V := Value.bool ((!decide (leaf = (l.getD (i).toNat Dg.zero))) && (checks (root l) (((l.length : Nat) : Int)) (i) leaf ((prove l (i)).1)))) (hT 50 rfl rfl) ⟨Ext.refl _, rfl⟩
    · refine Ask.guarded (B := (!decide (leaf = (l.getD (i).toNat Dg.zero))) && (checks (root l) (((l.length : Nat) : Int)) (i) leaf ((prove l (i)).1))) (want := true) (t := 51) rfl rfl rfl rfl (by decide) (fun aq wq hO hR hT => hT 51 rfl rfl) (fun hG aq wq hNq hO hR hT => ?_) (fun hno _ => fun hc => absurd hc hno)
      replace hR := (Ext.drew _).trans hR
      exact does_move (V := x1) ((hO 0 rfl).trans s0_8) ⟨Ext.refl _, fun _ => rfl⟩
    · refine Ask.guarded (B := (!decide (leaf = (l.getD (i).toNat Dg.zero))) && (checks (root l) (((l.length : Nat) : Int)) (i) leaf ((prove l (i)).1))) (want := true) (t := 51) rfl rfl rfl rfl (by decide) (fun aq wq hO hR hT => hT 51 rfl rfl) (fun hG aq wq hNq hO hR hT => ?_) (fun hno _ => fun hc => absurd hc hno)
      replace hR := (Ext.drew _).trans hR
      exact does_move (V := i64 (i)) ((hO 1 rfl).trans s1_8) ⟨Ext.refl _, fun _ => rfl⟩
    · refine Ask.guarded (B := (!decide (leaf = (l.getD (i).toNat Dg.zero))) && (checks (root l) (((l.length : Nat) : Int)) (i) leaf ((prove l (i)).1))) (want := true) (t := 51) rfl rfl rfl rfl (by decide) (fun aq wq hO hR hT => hT 51 rfl rfl) (fun hG aq wq hNq hO hR hT => ?_) (fun hno _ => fun hc => absurd hc hno)
      replace hR := (Ext.drew _).trans hR
      exact does_loadD (o := 0) (n := 4) (mid := [w32 (leaf).a, w32 (leaf).b, w32 (leaf).c, w32 (leaf).d]) ((hO 5 rfl).trans s5_8) (hbb5_8.ext' hR) rfl rfl (Nat.le_of_ble_eq_true rfl) row_24 rfl ⟨Ext.refl _, fun _ => rfl⟩
    · refine Ask.guarded (B := (!decide (leaf = (l.getD (i).toNat Dg.zero))) && (checks (root l) (((l.length : Nat) : Int)) (i) leaf ((prove l (i)).1))) (want := true) (t := 51) rfl rfl rfl rfl (by decide) (fun aq wq hO hR hT => hT 51 rfl rfl) (fun hG aq wq hNq hO hR hT => ?_) (fun hno _ => fun hc => absurd hc hno)
      replace hR := (Ext.drew _).trans hR
      exact does_move (V := x8) ((hO 8 rfl).trans s8_8) ⟨Ext.refl _, fun _ => rfl⟩
    · refine Ask.guarded (B := (!decide (leaf = (l.getD (i).toNat Dg.zero))) && (checks (root l) (((l.length : Nat) : Int)) (i) leaf ((prove l (i)).1))) (want := true) (t := 51) rfl rfl rfl rfl (by decide) (fun aq wq hO hR hT => hT 51 rfl rfl) (fun hG aq wq hNq hO hR hT => ?_) (fun hno _ => fun hc => absurd hc hno)
      replace hR := (Ext.drew _).trans hR
      exact does_ret (vs := #[x1, i64 (i), Dg.val (leaf), x8]) call_22 (args4 (hT 52 rfl rfl hG) (hT 53 rfl rfl hG) (hT 54 rfl rfl hG) (hT 55 rfl rfl hG)) rfl ((fooledI l (i) leaf ((prove l (i)).1) (x1) (x8) wq ((hsx1_8.ext' hR).wide (Nat.zero_le _) (.inl rfl)) ((hsx8_8.ext' hR).wide (Nat.zero_le _) (.inl rfl)) hpi (by omega) (by have := prove_len2 (l := l) (i := i); first | omega | (simp only [List.length_append, List.length_cons, List.length_nil, List.length_take]; omega))).mono fun v w2 h => ⟨h.2, fun _ => h.1⟩)
    · refine Ask.guarded (B := (!decide (leaf = (l.getD (i).toNat Dg.zero))) && (checks (root l) (((l.length : Nat) : Int)) (i) leaf ((prove l (i)).1))) (want := true) (t := 51) rfl rfl rfl rfl (by decide) (fun aq wq hO hR hT => hT 51 rfl rfl) (fun hG aq wq hNq hO hR hT => ?_) (fun hno _ => fun hc => absurd hc hno)
      replace hR := (Ext.drew _).trans hR
      exact does_not (B := fooled l (i).toNat leaf ((prove l (i)).1).reverse) (hT 56 rfl rfl hG) ⟨Ext.refl _, fun _ => rfl⟩
    · refine Ask.plain rfl rfl ?_
      intro aq wq hNq hO hR hT
      replace hR := (Ext.drew _).trans hR
      exact does_and (B := (!decide (leaf = (l.getD (i).toNat Dg.zero))) && (checks (root l) (((l.length : Nat) : Int)) (i) leaf ((prove l (i)).1))) (X := !(fooled l (i).toNat leaf ((prove l (i)).1).reverse)) (hT 51 rfl rfl) (fun hB => (hT 57 rfl rfl hB)) rfl ⟨Ext.refl _, rfl⟩
  intro a9 wd9 hN_9 hD_9 hO hR hA hU
  obtain ⟨_, _, _, _, _, _, _, _, _, _, _, _, _, _, _, _, _, _, _, _, _, _, t58, _⟩ := hA
  have hE_9 := hE_8.trans hR
  have s0_9 := (hO 0 rfl).trans s0_8
  have s1_9 := (hO 1 rfl).trans s1_8
  have s5_9 := (hO 5 rfl).trans s5_8
  have s7_9 := (hO 7 rfl).trans s7_8
  have s8_9 := (hO 8 rfl).trans s8_8
  have hbb5_9 := hbb5_8.ext' hR
  have hbb7_9 := hbb7_8.ext' hR
  have hsx1_9 := hsx1_8.ext' hR
  have hsx8_9 := hsx8_8.ext' hR
  have hox8_9 := hox8_8.ext' hR
  have s58_9 : get a9 58 = Value.bool (((!decide (leaf = (l.getD (i).toNat Dg.zero))) && (checks (root l) (((l.length : Nat) : Int)) (i) leaf ((prove l (i)).1))) && (!(fooled l (i).toNat leaf ((prove l (i)).1).reverse))) := t58
  clear hE_8 hN_8 hD_8 s0_8 s1_8 s5_8 s7_8 s8_8 s35_8 hbb5_8 hbb7_8 hsx1_8 hsx8_8 hox8_8
  refine tail_nil ?_
  refine wp_if (B := ((!decide (leaf = (l.getD (i).toNat Dg.zero))) && (checks (root l) (((l.length : Nat) : Int)) (i) leaf ((prove l (i)).1))) && (!(fooled l (i).toNat leaf ((prove l (i)).1).reverse))) s58_9 (fun hc2 => ?_) (fun hc2 => ?_)
  · -- T 2
    rw [other_fooled hpi (by omega)] at hc2; cases hc2
  refine wp_skip ?_
  refine wp_seq ?_
  refine region_any [] [(59, Pr.own0 DG wd9.heap.size 24), (60, Pr.ex (x8)), (61, Pr.own' DG wd9.heap.size 24 ((prove l (i)).1)), (62, Pr.ex (Dg.val (leaf))), (63, Pr.own' DG wd9.heap.size 24 ([leaf]))] 5 mixed hN_9 hD_9 (by kernel_rfl) (by kernel_rfl) (by kernel_rfl) ?_ ?_
  · refine Asks.cons ?_ (Asks.cons ?_ (Asks.cons ?_ (Asks.cons ?_ (Asks.cons ?_ (Asks.zero _)))))
    · refine Ask.plain rfl rfl ?_
      intro aq wq hNq hO hR hT
      replace hR := (Ext.drew _).trans hR
      exact does_slice00 (T := DG) app_27 rfl (fun v w2 he ho => ⟨he, OwnT.base ho.1 hR.size', ho.2⟩)
    · refine Ask.plain rfl rfl ?_
      intro aq wq hNq hO hR hT
      replace hR := (Ext.drew _).trans hR
      exact does_move (V := x8) ((hO 8 rfl).trans s8_9) ⟨Ext.refl _, rfl⟩
    · refine Ask.plain rfl rfl ?_
      intro aq wq hNq hO hR hT
      replace hR := (Ext.drew _).trans hR
      exact does_append0 (T := DG) (base := wd9.heap.size) (ys := (prove l (i)).1) app_27 (hT 59 rfl rfl) (SlT.at (hT 60 rfl rfl) (hsx8_9.ext' hR)) (by have := prove_len2 (l := l) (i := i); first | omega | (simp only [List.length_append, List.length_cons, List.length_nil, List.length_take]; omega)) (by have := prove_len2 (l := l) (i := i); first | omega | (simp only [List.length_append, List.length_cons, List.length_nil, List.length_take]; omega)) hR.size' (fun v w2 he ho => ⟨he, ho⟩)
    · refine Ask.plain rfl rfl ?_
      intro aq wq hNq hO hR hT
      replace hR := (Ext.drew _).trans hR
      exact does_loadD (o := 0) (n := 4) (mid := [w32 (leaf).a, w32 (leaf).b, w32 (leaf).c, w32 (leaf).d]) ((hO 5 rfl).trans s5_9) (hbb5_9.ext' hR) rfl rfl (Nat.le_of_ble_eq_true rfl) row_24 rfl ⟨Ext.refl _, rfl⟩
    · refine Ask.plain rfl rfl ?_
      intro aq wq hNq hO hR hT
      replace hR := (Ext.drew _).trans hR
      exact does_slice1 (T := DG) (X := leaf) (V := Dg.val (leaf)) app_27 rfl (by decide) (hT 62 rfl rfl) rfl (fun v w2 he _ ho => ⟨he, OwnT.base ho hR.size'⟩)
  intro a10 wd10 hN_10 hD_10 hO hR hA hU
  obtain ⟨_, _, t61, _, t63, _⟩ := hA
  have hE_10 := hE_9.trans hR
  have s0_10 := (hO 0 rfl).trans s0_9
  have s1_10 := (hO 1 rfl).trans s1_9
  have s7_10 := (hO 7 rfl).trans s7_9
  have s8_10 := (hO 8 rfl).trans s8_9
  have hbb5_10 := hbb5_9.ext' hR
  have hbb7_10 := hbb7_9.ext' hR
  have hsx1_10 := hsx1_9.ext' hR
  have hsx8_10 := hsx8_9.ext' hR
  have hox8_10 := hox8_9.ext' hR
  obtain ⟨x61, s61_10⟩ : ∃ x, get a10 61 = x := ⟨_, rfl⟩
  replace t61 : OwnT DG wd9.heap.size 24 ((prove l (i)).1) x61 wd10 := by rw [← s61_10]; exact t61
  have nbo_x61_b5 : x61.ownBlock ≠ some b5 := fun e => Nat.lt_irrefl _ (Nat.lt_of_lt_of_le hbb5_9.lt (OwnT.block_lt t61 e).1)
  have nbo_x61_b7 : x61.ownBlock ≠ some b7 := fun e => Nat.lt_irrefl _ (Nat.lt_of_lt_of_le hbb7_9.lt (OwnT.block_lt t61 e).1)
  have no_x61_x8 : ∀ k, x61.ownBlock = some k → x8.ownBlock ≠ some k := fun k e e' => Nat.lt_irrefl _ (Nat.lt_of_lt_of_le (OwnT.block_lt hox8_9 e').2 (OwnT.block_lt t61 e).1)
  have hsx61_10 := t61.sl.wide (Nat.zero_le _) (.inl rfl)
  have hox61_10 := OwnT.base t61 hE_9.size'
  obtain ⟨x63, s63_10⟩ : ∃ x, get a10 63 = x := ⟨_, rfl⟩
  replace t63 : OwnT DG wd9.heap.size 24 ([leaf]) x63 wd10 := by rw [← s63_10]; exact t63
  have nbo_x63_b5 : x63.ownBlock ≠ some b5 := fun e => Nat.lt_irrefl _ (Nat.lt_of_lt_of_le hbb5_9.lt (OwnT.block_lt t63 e).1)
  have nbo_x63_b7 : x63.ownBlock ≠ some b7 := fun e => Nat.lt_irrefl _ (Nat.lt_of_lt_of_le hbb7_9.lt (OwnT.block_lt t63 e).1)
  have no_x63_x8 : ∀ k, x63.ownBlock = some k → x8.ownBlock ≠ some k := fun k e e' => Nat.lt_irrefl _ (Nat.lt_of_lt_of_le (OwnT.block_lt hox8_9 e').2 (OwnT.block_lt t63 e).1)
  have hsx63_10 := t63.sl.wide (Nat.zero_le _) (.inl rfl)
  have hox63_10 := OwnT.base t63 hE_9.size'
  clear hE_9 hN_9 hD_9 s0_9 s1_9 s5_9 s7_9 s8_9 s58_9 hbb5_9 hbb7_9 hsx1_9 hsx8_9 hox8_9
  refine tail_put rfl rfl hN_10 hD_10 (by decide) (does_append (T := DG) (base := w0.heap.size) (xs := (prove l (i)).1) (ys := [leaf]) (v := x61) app_27 s61_10 hox61_10 (SlT.at s63_10 hsx63_10) (by simp) (by have := prove_len2 (l := l) (i := i); first | omega | (simp only [List.length_append, List.length_cons, List.length_nil, List.length_take]; omega)) (by have := prove_len2 (l := l) (i := i); first | omega | (simp only [List.length_append, List.length_cons, List.length_nil, List.length_take]; omega)) hE_10.size' (fun x64 wd11 hX hox64_11 hk a11 hN_11 hD_11 hv hO => ?_))
  have hE_11 := hE_10.since hX (fun b hb => Nat.le_trans (Nat.le_refl _) (OwnT.block_lt hox61_10 hb).1)
  have hbb5_11 := hbb5_10.ext hX nbo_x61_b5
  have nbo_x64_b5 : x64.ownBlock ≠ some b5 := fun e => (hk _ e).elim nbo_x61_b5 (fun h => Nat.lt_irrefl _ (Nat.lt_of_lt_of_le hbb5_10.lt h))
  have hbb7_11 := hbb7_10.ext hX nbo_x61_b7
  have nbo_x64_b7 : x64.ownBlock ≠ some b7 := fun e => (hk _ e).elim nbo_x61_b7 (fun h => Nat.lt_irrefl _ (Nat.lt_of_lt_of_le hbb7_10.lt h))
  have hsx1_11 := SlT.overOwn hsx1_10 hox61_10 hX
  have hox8_11 := OwnT.ext hox8_10 hX (fun k hk e => no_x61_x8 k e hk)
  have no_x64_x8 : ∀ k, x64.ownBlock = some k → x8.ownBlock ≠ some k := fun k e e' => (hk k e).elim (fun h => no_x61_x8 k h e') (fun h => Nat.lt_irrefl _ (Nat.lt_of_lt_of_le (OwnT.block_lt hox8_10 e').2 h))
  have hsx8_11 := hox8_11.sl.wide (Nat.zero_le _) (.inl rfl)
  have hsx64_11 := hox64_11.sl.wide (Nat.zero_le _) (.inl rfl)
  have s64_11 := hv
  have s0_11 := (hO 0 rfl).trans s0_10
  have s1_11 := (hO 1 rfl).trans s1_10
  have s7_11 := (hO 7 rfl).trans s7_10
  have s8_11 := (hO 8 rfl).trans s8_10
  clear hO hv hX hk hN_10 hD_10 hE_10 hbb5_10 hbb7_10 hsx1_10 hox8_10 s0_10 s1_10 s7_10 s8_10 s61_10 s63_10
  refine tail_put rfl rfl hN_11 hD_11 (by decide) (does_assign (V := x64) s64_11 (fun a12 hN_12 hD_12 hv hO => ?_))
  have s10_12 := hv
  have s0_12 := (hO 0 rfl).trans s0_11
  have s1_12 := (hO 1 rfl).trans s1_11
  have s7_12 := (hO 7 rfl).trans s7_11
  have s8_12 := (hO 8 rfl).trans s8_11
  clear hO hv hN_11 hD_11 s0_11 s1_11 s7_11 s8_11 s64_11
  refine tail_nil ?_
  refine wp_seq ?_
  refine wp_seq ?_
  refine region_any [] [(65, Pr.ex (Dg.val (root l))), (66, Pr.ex (x1)), (67, Pr.ex (i64 ((l.length : Nat) : Int))), (68, Pr.ex (i64 (i))), (69, Pr.ex (x1)), (70, Pr.ex (i64 (i))), (71, Pr.pt' 0 (w0.heap.size + 1) [w32 ((l.getD (i).toNat Dg.zero)).a, w32 ((l.getD (i).toNat Dg.zero)).b, w32 ((l.getD (i).toNat Dg.zero)).c, w32 ((l.getD (i).toNat Dg.zero)).d]), (72, Pr.ex (Dg.val ((l.getD (i).toNat Dg.zero)))), (73, Pr.ex (x64)), (74, Pr.ex (Value.bool (checks (root l) (((l.length : Nat) : Int)) (i) ((l.getD (i).toNat Dg.zero)) (((prove l (i)).1) ++ [leaf])))), (75, Pr.ex (Value.bool (checks (root l) (((l.length : Nat) : Int)) (i) ((l.getD (i).toNat Dg.zero)) (((prove l (i)).1) ++ [leaf])))), (76, Pr.ifb (!(checks (root l) (((l.length : Nat) : Int)) (i) ((l.getD (i).toNat Dg.zero)) (((prove l (i)).1) ++ [leaf]))) (Pr.ex (x8))), (77, Pr.ifb (!(checks (root l) (((l.length : Nat) : Int)) (i) ((l.getD (i).toNat Dg.zero)) (((prove l (i)).1) ++ [leaf]))) (Pr.ex (i64 ((((prove l (i)).1).length : Nat) : Int)))), (78, Pr.ifb (!(checks (root l) (((l.length : Nat) : Int)) (i) ((l.getD (i).toNat Dg.zero)) (((prove l (i)).1) ++ [leaf]))) (Pr.ex (Value.bool (decide (((0 : Nat) : Int) < ((((prove l (i)).1).length : Nat) : Int)))))), (79, Pr.ifu (!(checks (root l) (((l.length : Nat) : Int)) (i) ((l.getD (i).toNat Dg.zero)) (((prove l (i)).1) ++ [leaf]))) (Pr.ex (Value.bool (decide (((0 : Nat) : Int) < ((((prove l (i)).1).length : Nat) : Int)))))), (80, Pr.ifb ((!(checks (root l) (((l.length : Nat) : Int)) (i) ((l.getD (i).toNat Dg.zero)) (((prove l (i)).1) ++ [leaf]))) && (decide (((0 : Nat) : Int) < ((((prove l (i)).1).length : Nat) : Int)))) (Pr.ex (Dg.val (root l)))), (81, Pr.ifb ((!(checks (root l) (((l.length : Nat) : Int)) (i) ((l.getD (i).toNat Dg.zero)) (((prove l (i)).1) ++ [leaf]))) && (decide (((0 : Nat) : Int) < ((((prove l (i)).1).length : Nat) : Int)))) (Pr.ex (x1))), (82, Pr.ifb ((!(checks (root l) (((l.length : Nat) : Int)) (i) ((l.getD (i).toNat Dg.zero)) (((prove l (i)).1) ++ [leaf]))) && (decide (((0 : Nat) : Int) < ((((prove l (i)).1).length : Nat) : Int)))) (Pr.ex (i64 ((l.length : Nat) : Int)))), (83, Pr.ifb ((!(checks (root l) (((l.length : Nat) : Int)) (i) ((l.getD (i).toNat Dg.zero)) (((prove l (i)).1) ++ [leaf]))) && (decide (((0 : Nat) : Int) < ((((prove l (i)).1).length : Nat) : Int)))) (Pr.ex (i64 (i)))), (84, Pr.ifb ((!(checks (root l) (((l.length : Nat) : Int)) (i) ((l.getD (i).toNat Dg.zero)) (((prove l (i)).1) ++ [leaf]))) && (decide (((0 : Nat) : Int) < ((((prove l (i)).1).length : Nat) : Int)))) (Pr.ex (x1))), (85, Pr.ifb ((!(checks (root l) (((l.length : Nat) : Int)) (i) ((l.getD (i).toNat Dg.zero)) (((prove l (i)).1) ++ [leaf]))) && (decide (((0 : Nat) : Int) < ((((prove l (i)).1).length : Nat) : Int)))) (Pr.ex (i64 (i)))), (86, Pr.ifb ((!(checks (root l) (((l.length : Nat) : Int)) (i) ((l.getD (i).toNat Dg.zero)) (((prove l (i)).1) ++ [leaf]))) && (decide (((0 : Nat) : Int) < ((((prove l (i)).1).length : Nat) : Int)))) (Pr.pt' 0 (w0.heap.size + 1) [w32 ((l.getD (i).toNat Dg.zero)).a, w32 ((l.getD (i).toNat Dg.zero)).b, w32 ((l.getD (i).toNat Dg.zero)).c, w32 ((l.getD (i).toNat Dg.zero)).d])), (87, Pr.ifb ((!(checks (root l) (((l.length : Nat) : Int)) (i) ((l.getD (i).toNat Dg.zero)) (((prove l (i)).1) ++ [leaf]))) && (decide (((0 : Nat) : Int) < ((((prove l (i)).1).length : Nat) : Int)))) (Pr.ex (Dg.val ((l.getD (i).toNat Dg.zero))))), (88, Pr.ifb ((!(checks (root l) (((l.length : Nat) : Int)) (i) ((l.getD (i).toNat Dg.zero)) (((prove l (i)).1) ++ [leaf]))) && (decide (((0 : Nat) : Int) < ((((prove l (i)).1).length : Nat) : Int)))) (Pr.ex (x8))), (89, Pr.ifb ((!(checks (root l) (((l.length : Nat) : Int)) (i) ((l.getD (i).toNat Dg.zero)) (((prove l (i)).1) ++ [leaf]))) && (decide (((0 : Nat) : Int) < ((((prove l (i)).1).length : Nat) : Int)))) (Pr.ex (x8))), (90, Pr.ifb ((!(checks (root l) (((l.length : Nat) : Int)) (i) ((l.getD (i).toNat Dg.zero)) (((prove l (i)).1) ++ [leaf]))) && (decide (((0 : Nat) : Int) < ((((prove l (i)).1).length : Nat) : Int)))) (Pr.ex (i64 ((((prove l (i)).1).length : Nat) : Int)))), (91, Pr.ifb ((!(checks (root l) (((l.length : Nat) : Int)) (i) ((l.getD (i).toNat Dg.zero)) (((prove l (i)).1) ++ [leaf]))) && (decide (((0 : Nat) : Int) < ((((prove l (i)).1).length : Nat) : Int)))) (Pr.ex (i64 (((((prove l (i)).1).length) - 1 : Nat) : Int)))), (92, Pr.ifb ((!(checks (root l) (((l.length : Nat) : Int)) (i) ((l.getD (i).toNat Dg.zero)) (((prove l (i)).1) ++ [leaf]))) && (decide (((0 : Nat) : Int) < ((((prove l (i)).1).length : Nat) : Int)))) (Pr.sl' DG 0 0 (((prove l (i)).1).take ((((prove l (i)).1).length) - 1)))), (93, Pr.ifb ((!(checks (root l) (((l.length : Nat) : Int)) (i) ((l.getD (i).toNat Dg.zero)) (((prove l (i)).1) ++ [leaf]))) && (decide (((0 : Nat) : Int) < ((((prove l (i)).1).length : Nat) : Int)))) (Pr.ex (Value.bool (checks (root l) (((l.length : Nat) : Int)) (i) ((l.getD (i).toNat Dg.zero)) (((prove l (i)).1).take ((((prove l (i)).1).length) - 1)))))), (94, Pr.ifb (!(checks (root l) (((l.length : Nat) : Int)) (i) ((l.getD (i).toNat Dg.zero)) (((prove l (i)).1) ++ [leaf]))) (Pr.ex (Value.bool ((decide (((0 : Nat) : Int) < ((((prove l (i)).1).length : Nat) : Int))) && (checks (root l) (((l.length : Nat) : Int)) (i) ((l.getD (i).toNat Dg.zero)) (((prove l (i)).1).take ((((prove l (i)).1).length) - 1))))))), (95, Pr.ex (Value.bool ((checks (root l) (((l.length : Nat) : Int)) (i) ((l.getD (i).toNat Dg.zero)) (((prove l (i)).1) ++ [leaf])) || ((decide (((0 : Nat) : Int) < ((((prove l (i)).1).length : Nat) : Int))) && (checks (root l) (((l.length : Nat) : Int)) (i) ((l.getD (i).toNat Dg.zero)) (((prove l (i)).1).take ((((prove l (i)).1).length) - 1)))))))] 31 mixed hN_12 hD_12 (by kernel_rfl) (by kernel_rfl) (by kernel_rfl) ?_ ?_
  · refine Asks.cons ?_ (Asks.cons ?_ (Asks.cons ?_ (Asks.cons ?_ (Asks.cons ?_ (Asks.cons ?_ (Asks.cons ?_ (Asks.cons ?_ (Asks.cons ?_ (Asks.cons ?_ (Asks.cons ?_ (Asks.cons ?_ (Asks.cons ?_ (Asks.cons ?_ (Asks.cons ?_ (Asks.cons ?_ (Asks.cons ?_ (Asks.cons ?_ (Asks.cons ?_ (Asks.cons ?_ (Asks.cons ?_ (Asks.cons ?_ (Asks.cons ?_ (Asks.cons ?_ (Asks.cons ?_ (Asks.cons ?_ (Asks.cons ?_ (Asks.cons ?_ (Asks.cons ?_ (Asks.cons ?_ (Asks.cons ?_ (Asks.zero _)))))))))))))))))))))))))))))))
    · refine Ask.plain rfl rfl ?_
      intro aq wq hNq hO hR hT
      replace hR := (Ext.drew _).trans hR
      exact does_loadD (o := 0) (n := 4) (mid := [w32 (root l).a, w32 (root l).b, w32 (root l).c, w32 (root l).d]) ((hO 7 rfl).trans s7_12) (hbb7_11.ext' hR) rfl rfl (Nat.le_of_ble_eq_true rfl) row_24 rfl ⟨Ext.refl _, rfl⟩
    · refine Ask.plain rfl rfl ?_
      intro aq wq hNq hO hR hT
      replace hR := (Ext.drew _).trans hR
      exact does_move (V := x1) ((hO 0 rfl).trans s0_12) ⟨Ext.refl _, rfl⟩
    · refine Ask.plain rfl rfl ?_
      intro aq wq hNq hO hR hT
      replace hR := (Ext.drew _).trans hR
      exact does_len (T := DG) (xs := l) sli_27 (SlT.at (hT 66 rfl rfl) (hsx1_11.ext' hR)) ⟨Ext.refl _, rfl⟩
    · refine Ask.plain rfl rfl ?_
      intro aq wq hNq hO hR hT
      replace hR := (Ext.drew _).trans hR
      exact does_move (V := i64 (i)) ((hO 1 rfl).trans s1_12) ⟨Ext.refl _, rfl⟩
    · refine Ask.plain rfl rfl ?_
      intro aq wq hNq hO hR hT
      replace hR := (Ext.drew _).trans hR
      exact does_move (V := x1) ((hO 0 rfl).trans s0_12) ⟨Ext.refl _, rfl⟩
    · refine Ask.plain rfl rfl ?_
      intro aq wq hNq hO hR hT
      replace hR := (Ext.drew _).trans hR
      exact does_move (V := i64 (i)) ((hO 1 rfl).trans s1_12) ⟨Ext.refl _, rfl⟩
    · refine Ask.plain rfl rfl ?_
      intro aq wq hNq hO hR hT
      replace hR := (Ext.drew _).trans hR
      exact does_indexSl (T := DG) (xs := l) (i := i) (X := (l.getD (i).toNat Dg.zero)) sli_27 rfl (SlT.at (hT 69 rfl rfl) (hsx1_11.ext' hR)) (hT 70 rfl rfl) (by omega) (getD_of hpi) (fun v h => ⟨Ext.refl _, h⟩)
    · refine Ask.plain rfl rfl ?_
      intro aq wq hNq hO hR hT
      replace hR := (Ext.drew _).trans hR
      exact does_loadP (cs := [w32 ((l.getD (i).toNat Dg.zero)).a, w32 ((l.getD (i).toNat Dg.zero)).b, w32 ((l.getD (i).toNat Dg.zero)).c, w32 ((l.getD (i).toNat Dg.zero)).d]) (hT 71 rfl rfl) row_24 rfl ⟨Ext.refl _, rfl⟩
    · refine Ask.plain rfl rfl ?_
      intro aq wq hNq hO hR hT
      replace hR := (Ext.drew _).trans hR
      exact does_move (V := x64) ((hO 10 rfl).trans s10_12) ⟨Ext.refl _, rfl⟩
    · refine Ask.plain rfl rfl ?_
      intro aq wq hNq hO hR hT
      replace hR := (Ext.drew _).trans hR
      exact does_ret (vs := #[Dg.val (root l), i64 ((l.length : Nat) : Int), i64 (i), Dg.val ((l.getD (i).toNat Dg.zero)), x64]) call_20 (args5 (hT 65 rfl rfl) (hT 67 rfl rfl) (hT 68 rfl rfl) (hT 72 rfl rfl) (hT 73 rfl rfl)) rfl ((check_ (root l) (((l.length : Nat) : Int)) (i) ((l.getD (i).toNat Dg.zero)) (((prove l (i)).1) ++ [leaf]) (x64) wq (hL.ext (hE_11.trans hR)) ((hsx64_11.ext' hR).wide (Nat.zero_le _) (.inl rfl)) (by have := prove_len2 (l := l) (i := i); first | omega | (simp only [List.length_append, List.length_cons, List.length_nil, List.length_take]; omega))).mono fun v w2 h => ⟨h.2, h.1⟩)
    · refine Ask.plain rfl rfl ?_
      intro aq wq hNq hO hR hT
      replace hR := (Ext.drew _).trans hR
      exact does_move (V := Value.bool (checks (root l) (((l.length : Nat) : Int)) (i) ((l.getD (i).toNat Dg.zero)) (((prove l (i)).1) ++ [leaf]))) (hT 74 rfl rfl) ⟨Ext.refl _, rfl⟩
    · refine Ask.guarded (B := checks (root l) (((l.length : Nat) : Int)) (i) ((l.getD (i).toNat Dg.zero)) (((prove l (i)).1) ++ [leaf])) (want := false) (t := 75) rfl rfl rfl rfl (by decide) (fun aq wq hO hR hT => hT 75 rfl rfl) (fun hG aq wq hNq hO hR hT => ?_) (fun hno _ => fun hc => absurd (bn hc) hno)
      replace hG := nb hG
      replace hR := (Ext.drew _).trans hR
      exact does_move (V := x8) ((hO 8 rfl).trans s8_12) ⟨Ext.refl _, fun _ => rfl⟩
    · refine Ask.guarded (B := checks (root l) (((l.length : Nat) : Int)) (i) ((l.getD (i).toNat Dg.zero)) (((prove l (i)).1) ++ [leaf])) (want := false) (t := 75) rfl rfl rfl rfl (by decide) (fun aq wq hO hR hT => hT 75 rfl rfl) (fun hG aq wq hNq hO hR hT => ?_) (fun hno _ => fun hc => absurd (bn hc) hno)
      replace hG := nb hG
      replace hR := (Ext.drew _).trans hR
      exact does_len (T := DG) (xs := (prove l (i)).1) sli_27 (SlT.at (hT 76 rfl rfl hG) (hsx8_11.ext' hR)) ⟨Ext.refl _, fun _ => rfl⟩
    · refine Ask.guarded (B := checks (root l) (((l.length : Nat) : Int)) (i) ((l.getD (i).toNat Dg.zero)) (((prove l (i)).1) ++ [leaf])) (want := false) (t := 75) rfl rfl rfl rfl (by decide) (fun aq wq hO hR hT => hT 75 rfl rfl) (fun hG aq wq hNq hO hR hT => ?_) (fun hno _ => fun hc => absurd (bn hc) hno)
      replace hG := nb hG
      replace hR := (Ext.drew _).trans hR
      exact does_gtr (a := ((((prove l (i)).1).length : Nat) : Int)) (b := ((0 : Nat) : Int)) (hT 77 rfl rfl hG) rfl ⟨Ext.refl _, fun _ => rfl⟩
    · refine Ask.guarded (B := checks (root l) (((l.length : Nat) : Int)) (i) ((l.getD (i).toNat Dg.zero)) (((prove l (i)).1) ++ [leaf])) (want := false) (t := 75) rfl rfl rfl rfl (by decide) (fun aq wq hO hR hT => hT 75 rfl rfl) (fun hG aq wq hNq hO hR hT => ?_) (fun hno _ => ⟨fun hc => absurd (bn hc) hno, fun _ => rfl⟩)
      replace hG := nb hG
      replace hR := (Ext.drew _).trans hR
      exact does_move (V := Value.bool (decide (((0 : Nat) : Int) < ((((prove l (i)).1).length : Nat) : Int)))) (hT 78 rfl rfl hG) ⟨Ext.refl _, fun _ => rfl, fun hc => (by rw [hG] at hc; cases hc)⟩
    · refine Ask.guarded2 (C := !(checks (root l) (((l.length : Nat) : Int)) (i) ((l.getD (i).toNat Dg.zero)) (((prove l (i)).1) ++ [leaf]))) (B := decide (((0 : Nat) : Int) < ((((prove l (i)).1).length : Nat) : Int))) (want := true) (t := 79) rfl rfl rfl rfl (by decide) (fun aq wq hO hR hT => hT 79 rfl rfl) (fun hC hG aq wq hNq hO hR hT => ?_) (fun hno _ => fun hc => absurd ⟨andl hc, andr hc⟩ hno)
      replace hG := andi hC hG
      replace hR := (Ext.drew _).trans hR
      exact does_loadD (o := 0) (n := 4) (mid := [w32 (root l).a, w32 (root l).b, w32 (root l).c, w32 (root l).d]) ((hO 7 rfl).trans s7_12) (hbb7_11.ext' hR) rfl rfl (Nat.le_of_ble_eq_true rfl) row_24 rfl ⟨Ext.refl _, fun _ => rfl⟩
    · refine Ask.guarded2 (C := !(checks (root l) (((l.length : Nat) : Int)) (i) ((l.getD (i).toNat Dg.zero)) (((prove l (i)).1) ++ [leaf]))) (B := decide (((0 : Nat) : Int) < ((((prove l (i)).1).length : Nat) : Int))) (want := true) (t := 79) rfl rfl rfl rfl (by decide) (fun aq wq hO hR hT => hT 79 rfl rfl) (fun hC hG aq wq hNq hO hR hT => ?_) (fun hno _ => fun hc => absurd ⟨andl hc, andr hc⟩ hno)
      replace hG := andi hC hG
      replace hR := (Ext.drew _).trans hR
      exact does_move (V := x1) ((hO 0 rfl).trans s0_12) ⟨Ext.refl _, fun _ => rfl⟩
    · refine Ask.guarded2 (C := !(checks (root l) (((l.length : Nat) : Int)) (i) ((l.getD (i).toNat Dg.zero)) (((prove l (i)).1) ++ [leaf]))) (B := decide (((0 : Nat) : Int) < ((((prove l (i)).1).length : Nat) : Int))) (want := true) (t := 79) rfl rfl rfl rfl (by decide) (fun aq wq hO hR hT => hT 79 rfl rfl) (fun hC hG aq wq hNq hO hR hT => ?_) (fun hno _ => fun hc => absurd ⟨andl hc, andr hc⟩ hno)
      replace hG := andi hC hG
      replace hR := (Ext.drew _).trans hR
      exact does_len (T := DG) (xs := l) sli_27 (SlT.at (hT 81 rfl rfl hG) (hsx1_11.ext' hR)) ⟨Ext.refl _, fun _ => rfl⟩
    · refine Ask.guarded2 (C := !(checks (root l) (((l.length : Nat) : Int)) (i) ((l.getD (i).toNat Dg.zero)) (((prove l (i)).1) ++ [leaf]))) (B := decide (((0 : Nat) : Int) < ((((prove l (i)).1).length : Nat) : Int))) (want := true) (t := 79) rfl rfl rfl rfl (by decide) (fun aq wq hO hR hT => hT 79 rfl rfl) (fun hC hG aq wq hNq hO hR hT => ?_) (fun hno _ => fun hc => absurd ⟨andl hc, andr hc⟩ hno)
      replace hG := andi hC hG
      replace hR := (Ext.drew _).trans hR
      exact does_move (V := i64 (i)) ((hO 1 rfl).trans s1_12) ⟨Ext.refl _, fun _ => rfl⟩
    · refine Ask.guarded2 (C := !(checks (root l) (((l.length : Nat) : Int)) (i) ((l.getD (i).toNat Dg.zero)) (((prove l (i)).1) ++ [leaf]))) (B := decide (((0 : Nat) : Int) < ((((prove l (i)).1).length : Nat) : Int))) (want := true) (t := 79) rfl rfl rfl rfl (by decide) (fun aq wq hO hR hT => hT 79 rfl rfl) (fun hC hG aq wq hNq hO hR hT => ?_) (fun hno _ => fun hc => absurd ⟨andl hc, andr hc⟩ hno)
      replace hG := andi hC hG
      replace hR := (Ext.drew _).trans hR
      exact does_move (V := x1) ((hO 0 rfl).trans s0_12) ⟨Ext.refl _, fun _ => rfl⟩
    · refine Ask.guarded2 (C := !(checks (root l) (((l.length : Nat) : Int)) (i) ((l.getD (i).toNat Dg.zero)) (((prove l (i)).1) ++ [leaf]))) (B := decide (((0 : Nat) : Int) < ((((prove l (i)).1).length : Nat) : Int))) (want := true) (t := 79) rfl rfl rfl rfl (by decide) (fun aq wq hO hR hT => hT 79 rfl rfl) (fun hC hG aq wq hNq hO hR hT => ?_) (fun hno _ => fun hc => absurd ⟨andl hc, andr hc⟩ hno)
      replace hG := andi hC hG
      replace hR := (Ext.drew _).trans hR
      exact does_move (V := i64 (i)) ((hO 1 rfl).trans s1_12) ⟨Ext.refl _, fun _ => rfl⟩
    · refine Ask.guarded2 (C := !(checks (root l) (((l.length : Nat) : Int)) (i) ((l.getD (i).toNat Dg.zero)) (((prove l (i)).1) ++ [leaf]))) (B := decide (((0 : Nat) : Int) < ((((prove l (i)).1).length : Nat) : Int))) (want := true) (t := 79) rfl rfl rfl rfl (by decide) (fun aq wq hO hR hT => hT 79 rfl rfl) (fun hC hG aq wq hNq hO hR hT => ?_) (fun hno _ => fun hc => absurd ⟨andl hc, andr hc⟩ hno)
      replace hG := andi hC hG
      replace hR := (Ext.drew _).trans hR
      exact does_indexSl (T := DG) (xs := l) (i := i) (X := (l.getD (i).toNat Dg.zero)) sli_27 rfl (SlT.at (hT 84 rfl rfl hG) (hsx1_11.ext' hR)) (hT 85 rfl rfl hG) (by omega) (getD_of hpi) (fun v h => ⟨Ext.refl _, fun _ => h⟩)
    · refine Ask.guarded2 (C := !(checks (root l) (((l.length : Nat) : Int)) (i) ((l.getD (i).toNat Dg.zero)) (((prove l (i)).1) ++ [leaf]))) (B := decide (((0 : Nat) : Int) < ((((prove l (i)).1).length : Nat) : Int))) (want := true) (t := 79) rfl rfl rfl rfl (by decide) (fun aq wq hO hR hT => hT 79 rfl rfl) (fun hC hG aq wq hNq hO hR hT => ?_) (fun hno _ => fun hc => absurd ⟨andl hc, andr hc⟩ hno)
      replace hG := andi hC hG
      replace hR := (Ext.drew _).trans hR
      exact does_loadP (cs := [w32 ((l.getD (i).toNat Dg.zero)).a, w32 ((l.getD (i).toNat Dg.zero)).b, w32 ((l.getD (i).toNat Dg.zero)).c, w32 ((l.getD (i).toNat Dg.zero)).d]) (hT 86 rfl rfl hG) row_24 rfl ⟨Ext.refl _, fun _ => rfl⟩
    · refine Ask.guarded2 (C := !(checks (root l) (((l.length : Nat) : Int)) (i) ((l.getD (i).toNat Dg.zero)) (((prove l (i)).1) ++ [leaf]))) (B := decide (((0 : Nat) : Int) < ((((prove l (i)).1).length : Nat) : Int))) (want := true) (t := 79) rfl rfl rfl rfl (by decide) (fun aq wq hO hR hT => hT 79 rfl rfl) (fun hC hG aq wq hNq hO hR hT => ?_) (fun hno _ => fun hc => absurd ⟨andl hc, andr hc⟩ hno)
      replace hG := andi hC hG
      replace hR := (Ext.drew _).trans hR
      exact does_move (V := x8) ((hO 8 rfl).trans s8_12) ⟨Ext.refl _, fun _ => rfl⟩
    · refine Ask.guarded2 (C := !(checks (root l) (((l.length : Nat) : Int)) (i) ((l.getD (i).toNat Dg.zero)) (((prove l (i)).1) ++ [leaf]))) (B := decide (((0 : Nat) : Int) < ((((prove l (i)).1).length : Nat) : Int))) (want := true) (t := 79) rfl rfl rfl rfl (by decide) (fun aq wq hO hR hT => hT 79 rfl rfl) (fun hC hG aq wq hNq hO hR hT => ?_) (fun hno _ => fun hc => absurd ⟨andl hc, andr hc⟩ hno)
      replace hG := andi hC hG
      replace hR := (Ext.drew _).trans hR
      exact does_move (V := x8) ((hO 8 rfl).trans s8_12) ⟨Ext.refl _, fun _ => rfl⟩
    · refine Ask.guarded2 (C := !(checks (root l) (((l.length : Nat) : Int)) (i) ((l.getD (i).toNat Dg.zero)) (((prove l (i)).1) ++ [leaf]))) (B := decide (((0 : Nat) : Int) < ((((prove l (i)).1).length : Nat) : Int))) (want := true) (t := 79) rfl rfl rfl rfl (by decide) (fun aq wq hO hR hT => hT 79 rfl rfl) (fun hC hG aq wq hNq hO hR hT => ?_) (fun hno _ => fun hc => absurd ⟨andl hc, andr hc⟩ hno)
      replace hG := andi hC hG
      replace hR := (Ext.drew _).trans hR
      exact does_len (T := DG) (xs := (prove l (i)).1) sli_27 (SlT.at (hT 89 rfl rfl hG) (hsx8_11.ext' hR)) ⟨Ext.refl _, fun _ => rfl⟩
    · refine Ask.guarded2 (C := !(checks (root l) (((l.length : Nat) : Int)) (i) ((l.getD (i).toNat Dg.zero)) (((prove l (i)).1) ++ [leaf]))) (B := decide (((0 : Nat) : Int) < ((((prove l (i)).1).length : Nat) : Int))) (want := true) (t := 79) rfl rfl rfl rfl (by decide) (fun aq wq hO hR hT => hT 79 rfl rfl) (fun hC hG aq wq hNq hO hR hT => ?_) (fun hno _ => fun hc => absurd ⟨andl hc, andr hc⟩ hno)
      replace hG := andi hC hG
      replace hR := (Ext.drew _).trans hR
      have hpos := of_decide_eq_true (andr hG)
      have hpl := prove_len2 (l := l) (i := i)
      exact does_sub (a := ((((prove l (i)).1).length : Nat) : Int)) (b := ((1 : Nat) : Int)) (r := (((((prove l (i)).1).length) - 1 : Nat) : Int)) (hT 90 rfl rfl hG) rfl (by omega) (by omega) (by omega) ⟨Ext.refl _, fun _ => rfl⟩
    · refine Ask.guarded2 (C := !(checks (root l) (((l.length : Nat) : Int)) (i) ((l.getD (i).toNat Dg.zero)) (((prove l (i)).1) ++ [leaf]))) (B := decide (((0 : Nat) : Int) < ((((prove l (i)).1).length : Nat) : Int))) (want := true) (t := 79) rfl rfl rfl rfl (by decide) (fun aq wq hO hR hT => hT 79 rfl rfl) (fun hC hG aq wq hNq hO hR hT => ?_) (fun hno _ => fun hc => absurd ⟨andl hc, andr hc⟩ hno)
      replace hG := andi hC hG
      replace hR := (Ext.drew _).trans hR
      have hpos := of_decide_eq_true (andr hG)
      have hpl := prove_len2 (l := l) (i := i)
      exact does_sliceHi (T := DG) (xs := (prove l (i)).1) (k := (((((prove l (i)).1).length) - 1 : Nat) : Int)) sli_27 rfl (SlT.at (hT 88 rfl rfl hG) (hsx8_11.ext' hR)) (hT 91 rfl rfl hG) (by omega) (by have := prove_len2 (l := l) (i := i); first | omega | (simp only [List.length_append, List.length_cons, List.length_nil, List.length_take]; omega)) (fun v h => ⟨Ext.refl _, fun _ => h⟩)
    · refine Ask.guarded2 (C := !(checks (root l) (((l.length : Nat) : Int)) (i) ((l.getD (i).toNat Dg.zero)) (((prove l (i)).1) ++ [leaf]))) (B := decide (((0 : Nat) : Int) < ((((prove l (i)).1).length : Nat) : Int))) (want := true) (t := 79) rfl rfl rfl rfl (by decide) (fun aq wq hO hR hT => hT 79 rfl rfl) (fun hC hG aq wq hNq hO hR hT => ?_) (fun hno _ => fun hc => absurd ⟨andl hc, andr hc⟩ hno)
      replace hG := andi hC hG
      replace hR := (Ext.drew _).trans hR
      exact does_ret (vs := #[Dg.val (root l), i64 ((l.length : Nat) : Int), i64 (i), Dg.val ((l.getD (i).toNat Dg.zero)), get aq 92]) call_20 (args5 (hT 80 rfl rfl hG) (hT 82 rfl rfl hG) (hT 83 rfl rfl hG) (hT 87 rfl rfl hG) rfl) rfl ((check_ (root l) (((l.length : Nat) : Int)) (i) ((l.getD (i).toNat Dg.zero)) (((prove l (i)).1).take ((((prove l (i)).1).length) - 1)) (get aq 92) wq (hL.ext (hE_11.trans hR)) ((hT 92 rfl rfl hG).wide (Nat.zero_le _) (.inl rfl)) (by have := prove_len2 (l := l) (i := i); first | omega | (simp only [List.length_append, List.length_cons, List.length_nil, List.length_take]; omega))).mono fun v w2 h => ⟨h.2, fun _ => h.1⟩)
    · refine Ask.guarded (B := checks (root l) (((l.length : Nat) : Int)) (i) ((l.getD (i).toNat Dg.zero)) (((prove l (i)).1) ++ [leaf])) (want := false) (t := 75) rfl rfl rfl rfl (by decide) (fun aq wq hO hR hT => hT 75 rfl rfl) (fun hG aq wq hNq hO hR hT => ?_) (fun hno _ => fun hc => absurd (bn hc) hno)
      replace hG := nb hG
      replace hR := (Ext.drew _).trans hR
      exact does_and (B := decide (((0 : Nat) : Int) < ((((prove l (i)).1).length : Nat) : Int))) (X := checks (root l) (((l.length : Nat) : Int)) (i) ((l.getD (i).toNat Dg.zero)) (((prove l (i)).1).take ((((prove l (i)).1).length) - 1))) (And.left (hT 79 rfl rfl) hG) (fun hB => (hT 93 rfl rfl (andi hG hB))) rfl ⟨Ext.refl _, fun _ => rfl⟩
    · refine Ask.plain rfl rfl ?_
      intro aq wq hNq hO hR hT
      replace hR := (Ext.drew _).trans hR
      exact does_or (B := checks (root l) (((l.length : Nat) : Int)) (i) ((l.getD (i).toNat Dg.zero)) (((prove l (i)).1) ++ [leaf])) (X := (decide (((0 : Nat) : Int) < ((((prove l (i)).1).length : Nat) : Int))) && (checks (root l) (((l.length : Nat) : Int)) (i) ((l.getD (i).toNat Dg.zero)) (((prove l (i)).1).take ((((prove l (i)).1).length) - 1)))) (hT 75 rfl rfl) rfl (fun hB => (hT 94 rfl rfl (nb hB))) ⟨Ext.refl _, rfl⟩
  intro a13 wd13 hN_13 hD_13 hO hR hA hU
  obtain ⟨_, _, _, _, _, _, _, _, _, _, _, _, _, _, _, _, _, _, _, _, _, _, _, _, _, _, _, _, _, _, t95, _⟩ := hA
  have hE_13 := hE_11.trans hR
  have s0_13 := (hO 0 rfl).trans s0_12
  have s1_13 := (hO 1 rfl).trans s1_12
  have s7_13 := (hO 7 rfl).trans s7_12
  have s8_13 := (hO 8 rfl).trans s8_12
  have hbb5_13 := hbb5_11.ext' hR
  have hbb7_13 := hbb7_11.ext' hR
  have hsx1_13 := hsx1_11.ext' hR
  have hsx8_13 := hsx8_11.ext' hR
  have hsx64_13 := hsx64_11.ext' hR
  have hox8_13 := hox8_11.ext' hR
  have hox64_13 := hox64_11.ext' hR
  have s95_13 : get a13 95 = Value.bool ((checks (root l) (((l.length : Nat) : Int)) (i) ((l.getD (i).toNat Dg.zero)) (((prove l (i)).1) ++ [leaf])) || ((decide (((0 : Nat) : Int) < ((((prove l (i)).1).length : Nat) : Int))) && (checks (root l) (((l.length : Nat) : Int)) (i) ((l.getD (i).toNat Dg.zero)) (((prove l (i)).1).take ((((prove l (i)).1).length) - 1))))) := t95
  clear hE_11 hN_12 hD_12 s0_12 s1_12 s7_12 s8_12 s10_12 hbb5_11 hbb7_11 hsx1_11 hsx8_11 hsx64_11 hox8_11 hox64_11
  refine tail_nil ?_
  refine wp_if (B := (checks (root l) (((l.length : Nat) : Int)) (i) ((l.getD (i).toNat Dg.zero)) (((prove l (i)).1) ++ [leaf])) || ((decide (((0 : Nat) : Int) < ((((prove l (i)).1).length : Nat) : Int))) && (checks (root l) (((l.length : Nat) : Int)) (i) ((l.getD (i).toNat Dg.zero)) (((prove l (i)).1).take ((((prove l (i)).1).length) - 1))))) s95_13 (fun hc3 => ?_) (fun hc3 => ?_)
  · -- T 3
    rw [more_less hpi (by omega)] at hc3; cases hc3
  refine wp_skip ?_
  refine wp_seq ?_
  refine region_any [] [(96, Pr.ex (Dg.val (root l))), (97, Pr.ex (x1)), (98, Pr.ex (i64 ((l.length : Nat) : Int))), (99, Pr.ex (x1)), (100, Pr.ex (i64 (i))), (101, Pr.pt' 0 (w0.heap.size + 1) [w32 ((l.getD (i).toNat Dg.zero)).a, w32 ((l.getD (i).toNat Dg.zero)).b, w32 ((l.getD (i).toNat Dg.zero)).c, w32 ((l.getD (i).toNat Dg.zero)).d]), (102, Pr.ex (Dg.val ((l.getD (i).toNat Dg.zero)))), (103, Pr.ex (x8)), (104, Pr.ex (Value.bool (checks (root l) (((l.length : Nat) : Int)) (-1) ((l.getD (i).toNat Dg.zero)) ((prove l (i)).1)))), (105, Pr.ex (Value.bool (!(checks (root l) (((l.length : Nat) : Int)) (-1) ((l.getD (i).toNat Dg.zero)) ((prove l (i)).1))))), (106, Pr.ex (Value.bool (!(checks (root l) (((l.length : Nat) : Int)) (-1) ((l.getD (i).toNat Dg.zero)) ((prove l (i)).1))))), (107, Pr.ifb (!(checks (root l) (((l.length : Nat) : Int)) (-1) ((l.getD (i).toNat Dg.zero)) ((prove l (i)).1))) (Pr.ex (Dg.val (root l)))), (108, Pr.ifb (!(checks (root l) (((l.length : Nat) : Int)) (-1) ((l.getD (i).toNat Dg.zero)) ((prove l (i)).1))) (Pr.ex (x1))), (109, Pr.ifb (!(checks (root l) (((l.length : Nat) : Int)) (-1) ((l.getD (i).toNat Dg.zero)) ((prove l (i)).1))) (Pr.ex (i64 ((l.length : Nat) : Int)))), (110, Pr.ifb (!(checks (root l) (((l.length : Nat) : Int)) (-1) ((l.getD (i).toNat Dg.zero)) ((prove l (i)).1))) (Pr.ex (x1))), (111, Pr.ifb (!(checks (root l) (((l.length : Nat) : Int)) (-1) ((l.getD (i).toNat Dg.zero)) ((prove l (i)).1))) (Pr.ex (i64 ((l.length : Nat) : Int)))), (112, Pr.ifb (!(checks (root l) (((l.length : Nat) : Int)) (-1) ((l.getD (i).toNat Dg.zero)) ((prove l (i)).1))) (Pr.ex (x1))), (113, Pr.ifb (!(checks (root l) (((l.length : Nat) : Int)) (-1) ((l.getD (i).toNat Dg.zero)) ((prove l (i)).1))) (Pr.ex (i64 (i)))), (114, Pr.ifb (!(checks (root l) (((l.length : Nat) : Int)) (-1) ((l.getD (i).toNat Dg.zero)) ((prove l (i)).1))) (Pr.pt' 0 (w0.heap.size + 1) [w32 ((l.getD (i).toNat Dg.zero)).a, w32 ((l.getD (i).toNat Dg.zero)).b, w32 ((l.getD (i).toNat Dg.zero)).c, w32 ((l.getD (i).toNat Dg.zero)).d])), (115, Pr.ifb (!(checks (root l) (((l.length : Nat) : Int)) (-1) ((l.getD (i).toNat Dg.zero)) ((prove l (i)).1))) (Pr.ex (Dg.val ((l.getD (i).toNat Dg.zero))))), (116, Pr.ifb (!(checks (root l) (((l.length : Nat) : Int)) (-1) ((l.getD (i).toNat Dg.zero)) ((prove l (i)).1))) (Pr.ex (x8))), (117, Pr.ifb (!(checks (root l) (((l.length : Nat) : Int)) (-1) ((l.getD (i).toNat Dg.zero)) ((prove l (i)).1))) (Pr.ex (Value.bool (checks (root l) (((l.length : Nat) : Int)) (((l.length : Nat) : Int)) ((l.getD (i).toNat Dg.zero)) ((prove l (i)).1))))), (118, Pr.ifb (!(checks (root l) (((l.length : Nat) : Int)) (-1) ((l.getD (i).toNat Dg.zero)) ((prove l (i)).1))) (Pr.ex (Value.bool (!(checks (root l) (((l.length : Nat) : Int)) (((l.length : Nat) : Int)) ((l.getD (i).toNat Dg.zero)) ((prove l (i)).1)))))), (119, Pr.ex (Value.bool ((!(checks (root l) (((l.length : Nat) : Int)) (-1) ((l.getD (i).toNat Dg.zero)) ((prove l (i)).1))) && (!(checks (root l) (((l.length : Nat) : Int)) (((l.length : Nat) : Int)) ((l.getD (i).toNat Dg.zero)) ((prove l (i)).1)))))), (6, Pr.ex (Value.bool ((!(checks (root l) (((l.length : Nat) : Int)) (-1) ((l.getD (i).toNat Dg.zero)) ((prove l (i)).1))) && (!(checks (root l) (((l.length : Nat) : Int)) (((l.length : Nat) : Int)) ((l.getD (i).toNat Dg.zero)) ((prove l (i)).1))))))] 25 mixed hN_13 hD_13 (by kernel_rfl) (by kernel_rfl) (by kernel_rfl) ?_ ?_
  · refine Asks.cons ?_ (Asks.cons ?_ (Asks.cons ?_ (Asks.cons ?_ (Asks.cons ?_ (Asks.cons ?_ (Asks.cons ?_ (Asks.cons ?_ (Asks.cons ?_ (Asks.cons ?_ (Asks.cons ?_ (Asks.cons ?_ (Asks.cons ?_ (Asks.cons ?_ (Asks.cons ?_ (Asks.cons ?_ (Asks.cons ?_ (Asks.cons ?_ (Asks.cons ?_ (Asks.cons ?_ (Asks.cons ?_ (Asks.cons ?_ (Asks.cons ?_ (Asks.cons ?_ (Asks.cons ?_ (Asks.zero _)))))))))))))))))))))))))
    · refine Ask.plain rfl rfl ?_
      intro aq wq hNq hO hR hT
      replace hR := (Ext.drew _).trans hR
      exact does_loadD (o := 0) (n := 4) (mid := [w32 (root l).a, w32 (root l).b, w32 (root l).c, w32 (root l).d]) ((hO 7 rfl).trans s7_13) (hbb7_13.ext' hR) rfl rfl (Nat.le_of_ble_eq_true rfl) row_24 rfl ⟨Ext.refl _, rfl⟩
    · refine Ask.plain rfl rfl ?_
      intro aq wq hNq hO hR hT
      replace hR := (Ext.drew _).trans hR
      exact does_move (V := x1) ((hO 0 rfl).trans s0_13) ⟨Ext.refl _, rfl⟩
    · refine Ask.plain rfl rfl ?_
      intro aq wq hNq hO hR hT
      replace hR := (Ext.drew _).trans hR
      exact does_len (T := DG) (xs := l) sli_27 (SlT.at (hT 97 rfl rfl) (hsx1_13.ext' hR)) ⟨Ext.refl _, rfl⟩
    · refine Ask.plain rfl rfl ?_
      intro aq wq hNq hO hR hT
      replace hR := (Ext.drew _).trans hR
      exact does_move (V := x1) ((hO 0 rfl).trans s0_13) ⟨Ext.refl _, rfl⟩
    · refine Ask.plain rfl rfl ?_
      intro aq wq hNq hO hR hT
      replace hR := (Ext.drew _).trans hR
      exact does_move (V := i64 (i)) ((hO 1 rfl).trans s1_13) ⟨Ext.refl _, rfl⟩
    · refine Ask.plain rfl rfl ?_
      intro aq wq hNq hO hR hT
      replace hR := (Ext.drew _).trans hR
      exact does_indexSl (T := DG) (xs := l) (i := i) (X := (l.getD (i).toNat Dg.zero)) sli_27 rfl (SlT.at (hT 99 rfl rfl) (hsx1_13.ext' hR)) (hT 100 rfl rfl) (by omega) (getD_of hpi) (fun v h => ⟨Ext.refl _, h⟩)
    · refine Ask.plain rfl rfl ?_
      intro aq wq hNq hO hR hT
      replace hR := (Ext.drew _).trans hR
      exact does_loadP (cs := [w32 ((l.getD (i).toNat Dg.zero)).a, w32 ((l.getD (i).toNat Dg.zero)).b, w32 ((l.getD (i).toNat Dg.zero)).c, w32 ((l.getD (i).toNat Dg.zero)).d]) (hT 101 rfl rfl) row_24 rfl ⟨Ext.refl _, rfl⟩
    · refine Ask.plain rfl rfl ?_
      intro aq wq hNq hO hR hT
      replace hR := (Ext.drew _).trans hR
      exact does_move (V := x8) ((hO 8 rfl).trans s8_13) ⟨Ext.refl _, rfl⟩
    · refine Ask.plain rfl rfl ?_
      intro aq wq hNq hO hR hT
      replace hR := (Ext.drew _).trans hR
      exact does_ret (vs := #[Dg.val (root l), i64 ((l.length : Nat) : Int), i64 (-1), Dg.val ((l.getD (i).toNat Dg.zero)), x8]) call_20 (args5 (hT 96 rfl rfl) (hT 98 rfl rfl) rfl (hT 102 rfl rfl) (hT 103 rfl rfl)) rfl ((check_ (root l) (((l.length : Nat) : Int)) (-1) ((l.getD (i).toNat Dg.zero)) ((prove l (i)).1) (x8) wq (hL.ext (hE_13.trans hR)) ((hsx8_13.ext' hR).wide (Nat.zero_le _) (.inl rfl)) (by have := prove_len2 (l := l) (i := i); first | omega | (simp only [List.length_append, List.length_cons, List.length_nil, List.length_take]; omega))).mono fun v w2 h => ⟨h.2, h.1⟩)
    · refine Ask.plain rfl rfl ?_
      intro aq wq hNq hO hR hT
      replace hR := (Ext.drew _).trans hR
      exact does_not (B := checks (root l) (((l.length : Nat) : Int)) (-1) ((l.getD (i).toNat Dg.zero)) ((prove l (i)).1)) (hT 104 rfl rfl) ⟨Ext.refl _, rfl⟩
    · refine Ask.plain rfl rfl ?_
      intro aq wq hNq hO hR hT
      replace hR := (Ext.drew _).trans hR
      exact does_move (V := Value.bool (!(checks (root l) (((l.length : Nat) : Int)) (-1) ((l.getD (i).toNat Dg.zero)) ((prove l (i)).1)))) (hT 105 rfl rfl) ⟨Ext.refl _, rfl⟩
    · refine Ask.guarded (B := !(checks (root l) (((l.length : Nat) : Int)) (-1) ((l.getD (i).toNat Dg.zero)) ((prove l (i)).1))) (want := true) (t := 106) rfl rfl rfl rfl (by decide) (fun aq wq hO hR hT => hT 106 rfl rfl) (fun hG aq wq hNq hO hR hT => ?_) (fun hno _ => fun hc => absurd hc hno)
      replace hR := (Ext.drew _).trans hR
      exact does_loadD (o := 0) (n := 4) (mid := [w32 (root l).a, w32 (root l).b, w32 (root l).c, w32 (root l).d]) ((hO 7 rfl).trans s7_13) (hbb7_13.ext' hR) rfl rfl (Nat.le_of_ble_eq_true rfl) row_24 rfl ⟨Ext.refl _, fun _ => rfl⟩
    · refine Ask.guarded (B := !(checks (root l) (((l.length : Nat) : Int)) (-1) ((l.getD (i).toNat Dg.zero)) ((prove l (i)).1))) (want := true) (t := 106) rfl rfl rfl rfl (by decide) (fun aq wq hO hR hT => hT 106 rfl rfl) (fun hG aq wq hNq hO hR hT => ?_) (fun hno _ => fun hc => absurd hc hno)
      replace hR := (Ext.drew _).trans hR
      exact does_move (V := x1) ((hO 0 rfl).trans s0_13) ⟨Ext.refl _, fun _ => rfl⟩
    · refine Ask.guarded (B := !(checks (root l) (((l.length : Nat) : Int)) (-1) ((l.getD (i).toNat Dg.zero)) ((prove l (i)).1))) (want := true) (t := 106) rfl rfl rfl rfl (by decide) (fun aq wq hO hR hT => hT 106 rfl rfl) (fun hG aq wq hNq hO hR hT => ?_) (fun hno _ => fun hc => absurd hc hno)
      replace hR := (Ext.drew _).trans hR
      exact does_len (T := DG) (xs := l) sli_27 (SlT.at (hT 108 rfl rfl hG) (hsx1_13.ext' hR)) ⟨Ext.refl _, fun _ => rfl⟩
    · refine Ask.guarded (B := !(checks (root l) (((l.length : Nat) : Int)) (-1) ((l.getD (i).toNat Dg.zero)) ((prove l (i)).1))) (want := true) (t := 106) rfl rfl rfl rfl (by decide) (fun aq wq hO hR hT => hT 106 rfl rfl) (fun hG aq wq hNq hO hR hT => ?_) (fun hno _ => fun hc => absurd hc hno)
      replace hR := (Ext.drew _).trans hR
      exact does_move (V := x1) ((hO 0 rfl).trans s0_13) ⟨Ext.refl _, fun _ => rfl⟩
    · refine Ask.guarded (B := !(checks (root l) (((l.length : Nat) : Int)) (-1) ((l.getD (i).toNat Dg.zero)) ((prove l (i)).1))) (want := true) (t := 106) rfl rfl rfl rfl (by decide) (fun aq wq hO hR hT => hT 106 rfl rfl) (fun hG aq wq hNq hO hR hT => ?_) (fun hno _ => fun hc => absurd hc hno)
      replace hR := (Ext.drew _).trans hR
      exact does_len (T := DG) (xs := l) sli_27 (SlT.at (hT 110 rfl rfl hG) (hsx1_13.ext' hR)) ⟨Ext.refl _, fun _ => rfl⟩
    · refine Ask.guarded (B := !(checks (root l) (((l.length : Nat) : Int)) (-1) ((l.getD (i).toNat Dg.zero)) ((prove l (i)).1))) (want := true) (t := 106) rfl rfl rfl rfl (by decide) (fun aq wq hO hR hT => hT 106 rfl rfl) (fun hG aq wq hNq hO hR hT => ?_) (fun hno _ => fun hc => absurd hc hno)
      replace hR := (Ext.drew _).trans hR
      exact does_move (V := x1) ((hO 0 rfl).trans s0_13) ⟨Ext.refl _, fun _ => rfl⟩
    · refine Ask.guarded (B := !(checks (root l) (((l.length : Nat) : Int)) (-1) ((l.getD (i).toNat Dg.zero)) ((prove l (i)).1))) (want := true) (t := 106) rfl rfl rfl rfl (by decide) (fun aq wq hO hR hT => hT 106 rfl rfl) (fun hG aq wq hNq hO hR hT => ?_) (fun hno _ => fun hc => absurd hc hno)
      replace hR := (Ext.drew _).trans hR
      exact does_move (V := i64 (i)) ((hO 1 rfl).trans s1_13) ⟨Ext.refl _, fun _ => rfl⟩
    · refine Ask.guarded (B := !(checks (root l) (((l.length : Nat) : Int)) (-1) ((l.getD (i).toNat Dg.zero)) ((prove l (i)).1))) (want := true) (t := 106) rfl rfl rfl rfl (by decide) (fun aq wq hO hR hT => hT 106 rfl rfl) (fun hG aq wq hNq hO hR hT => ?_) (fun hno _ => fun hc => absurd hc hno)
      replace hR := (Ext.drew _).trans hR
      exact does_indexSl (T := DG) (xs := l) (i := i) (X := (l.getD (i).toNat Dg.zero)) sli_27 rfl (SlT.at (hT 112 rfl rfl hG) (hsx1_13.ext' hR)) (hT 113 rfl rfl hG) (by omega) (getD_of hpi) (fun v h => ⟨Ext.refl _, fun _ => h⟩)
    · refine Ask.guarded (B := !(checks (root l) (((l.length : Nat) : Int)) (-1) ((l.getD (i).toNat Dg.zero)) ((prove l (i)).1))) (want := true) (t := 106) rfl rfl rfl rfl (by decide) (fun aq wq hO hR hT => hT 106 rfl rfl) (fun hG aq wq hNq hO hR hT => ?_) (fun hno _ => fun hc => absurd hc hno)
      replace hR := (Ext.drew _).trans hR
      exact does_loadP (cs := [w32 ((l.getD (i).toNat Dg.zero)).a, w32 ((l.getD (i).toNat Dg.zero)).b, w32 ((l.getD (i).toNat Dg.zero)).c, w32 ((l.getD (i).toNat Dg.zero)).d]) (hT 114 rfl rfl hG) row_24 rfl ⟨Ext.refl _, fun _ => rfl⟩
    · refine Ask.guarded (B := !(checks (root l) (((l.length : Nat) : Int)) (-1) ((l.getD (i).toNat Dg.zero)) ((prove l (i)).1))) (want := true) (t := 106) rfl rfl rfl rfl (by decide) (fun aq wq hO hR hT => hT 106 rfl rfl) (fun hG aq wq hNq hO hR hT => ?_) (fun hno _ => fun hc => absurd hc hno)
      replace hR := (Ext.drew _).trans hR
      exact does_move (V := x8) ((hO 8 rfl).trans s8_13) ⟨Ext.refl _, fun _ => rfl⟩
    · refine Ask.guarded (B := !(checks (root l) (((l.length : Nat) : Int)) (-1) ((l.getD (i).toNat Dg.zero)) ((prove l (i)).1))) (want := true) (t := 106) rfl rfl rfl rfl (by decide) (fun aq wq hO hR hT => hT 106 rfl rfl) (fun hG aq wq hNq hO hR hT => ?_) (fun hno _ => fun hc => absurd hc hno)
      replace hR := (Ext.drew _).trans hR
      exact does_ret (vs := #[Dg.val (root l), i64 ((l.length : Nat) : Int), i64 ((l.length : Nat) : Int), Dg.val ((l.getD (i).toNat Dg.zero)), x8]) call_20 (args5 (hT 107 rfl rfl hG) (hT 109 rfl rfl hG) (hT 111 rfl rfl hG) (hT 115 rfl rfl hG) (hT 116 rfl rfl hG)) rfl ((check_ (root l) (((l.length : Nat) : Int)) (((l.length : Nat) : Int)) ((l.getD (i).toNat Dg.zero)) ((prove l (i)).1) (x8) wq (hL.ext (hE_13.trans hR)) ((hsx8_13.ext' hR).wide (Nat.zero_le _) (.inl rfl)) (by have := prove_len2 (l := l) (i := i); first | omega | (simp only [List.length_append, List.length_cons, List.length_nil, List.length_take]; omega))).mono fun v w2 h => ⟨h.2, fun _ => h.1⟩)
    · refine Ask.guarded (B := !(checks (root l) (((l.length : Nat) : Int)) (-1) ((l.getD (i).toNat Dg.zero)) ((prove l (i)).1))) (want := true) (t := 106) rfl rfl rfl rfl (by decide) (fun aq wq hO hR hT => hT 106 rfl rfl) (fun hG aq wq hNq hO hR hT => ?_) (fun hno _ => fun hc => absurd hc hno)
      replace hR := (Ext.drew _).trans hR
      exact does_not (B := checks (root l) (((l.length : Nat) : Int)) (((l.length : Nat) : Int)) ((l.getD (i).toNat Dg.zero)) ((prove l (i)).1)) (hT 117 rfl rfl hG) ⟨Ext.refl _, fun _ => rfl⟩
    · refine Ask.plain rfl rfl ?_
      intro aq wq hNq hO hR hT
      replace hR := (Ext.drew _).trans hR
      exact does_and (B := !(checks (root l) (((l.length : Nat) : Int)) (-1) ((l.getD (i).toNat Dg.zero)) ((prove l (i)).1))) (X := !(checks (root l) (((l.length : Nat) : Int)) (((l.length : Nat) : Int)) ((l.getD (i).toNat Dg.zero)) ((prove l (i)).1))) (hT 106 rfl rfl) (fun hB => (hT 118 rfl rfl hB)) rfl ⟨Ext.refl _, rfl⟩
    · refine Ask.plain rfl rfl ?_
      intro aq wq hNq hO hR hT
      replace hR := (Ext.drew _).trans hR
      exact does_assign (V := Value.bool ((!(checks (root l) (((l.length : Nat) : Int)) (-1) ((l.getD (i).toNat Dg.zero)) ((prove l (i)).1))) && (!(checks (root l) (((l.length : Nat) : Int)) (((l.length : Nat) : Int)) ((l.getD (i).toNat Dg.zero)) ((prove l (i)).1))))) (hT 119 rfl rfl) ⟨Ext.refl _, rfl⟩
  intro a14 wd14 hN_14 hD_14 hO hR hA hU
  obtain ⟨_, _, _, _, _, _, _, _, _, _, _, _, _, _, _, _, _, _, _, _, _, _, _, _, t6, _⟩ := hA
  have hE_14 := hE_13.trans hR
  have hbb5_14 := hbb5_13.ext' hR
  have hbb7_14 := hbb7_13.ext' hR
  have hsx1_14 := hsx1_13.ext' hR
  have hsx8_14 := hsx8_13.ext' hR
  have hsx64_14 := hsx64_13.ext' hR
  have hox8_14 := hox8_13.ext' hR
  have hox64_14 := hox64_13.ext' hR
  have s6_14 : get a14 6 = Value.bool ((!(checks (root l) (((l.length : Nat) : Int)) (-1) ((l.getD (i).toNat Dg.zero)) ((prove l (i)).1))) && (!(checks (root l) (((l.length : Nat) : Int)) (((l.length : Nat) : Int)) ((l.getD (i).toNat Dg.zero)) ((prove l (i)).1)))) := t6
  clear hE_13 hN_13 hD_13 s0_13 s1_13 s7_13 s8_13 s95_13 hbb5_13 hbb7_13 hsx1_13 hsx8_13 hsx64_13 hox8_13 hox64_13
  refine tail_nil ?_
  refine wp_ret ?_
  refine res_one (V := Value.bool ((!(checks (root l) (((l.length : Nat) : Int)) (-1) ((l.getD (i).toNat Dg.zero)) ((prove l (i)).1))) && (!(checks (root l) (((l.length : Nat) : Int)) (((l.length : Nat) : Int)) ((l.getD (i).toNat Dg.zero)) ((prove l (i)).1))))) rfl hD_14 s6_14 ?_
  exact ⟨congrArg Value.bool places_law, hE_14⟩

end Go.Proofs.YtncamojfjhbanaaDoor
