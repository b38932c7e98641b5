/- The walks of functions of the program: printed. -/
import Derived.Test.YtncamojfjhbanaaDoorG3
import Derived.Test.YtncamojfjhbanaaDoorG7
import Derived.Test.YtncamojfjhbanaaDoorG12
import Derived.Test.YtncamojfjhbanaaDoorG13
import Derived.Test.YtncamojfjhbanaaDoorG25
import Derived.Test.YtncamojfjhbanaaDoorG52
import Derived.Test.YtncamojfjhbanaaDoorF0
set_option maxRecDepth 100000
namespace Go.Proofs.YtncamojfjhbanaaDoor
open Go Go.RowKit Sk Sd
theorem call_10 : Callable Tryd.prog 10 := ⟨_, Tryd.func10, by kernel_rfl, rfl⟩
theorem call_23 : Callable Tryd.prog 23 := ⟨_, Tryd.func23, by kernel_rfl, rfl⟩
theorem call_24 : Callable Tryd.prog 24 := ⟨_, Tryd.func24, by kernel_rfl, rfl⟩
theorem goesOnLaw (l : List Dg) (m : Int) (x1 : Value) (w0 : World) (hL : Laid w0) (hx1 : SlT DG 0 0 l x1 w0) :
    Gives Tryd.prog 8 #[x1, i64 (m)] w0 (Pr.ex (Value.bool true)) := by
  refine enter (N := 50) Tryd.func8 rfl rfl ?_
  intro a0 hN_0 hD_0 hA
  have s0_0 : get a0 0 = x1 := hA 0 _ rfl
  have s1_0 : get a0 1 = i64 (m) := hA 1 _ rfl
  clear hA
  have hE_0 : Ext w0 w0 := Ext.refl w0
  have hsx1_0 := hx1.close
  refine wp_seq ?_
  refine region_lex [] [(4, Pr.ex (Value.bool (false)))] 1 hN_0 hD_0 (by kernel_rfl) (by kernel_rfl) ?_ ?_
  · refine Asks.cons ?_ (Asks.zero _)
    · refine Ask.plain rfl rfl ?_
      intro aq wq hNq hO hR hT
      exact does_assign (V := Value.bool (false)) rfl ⟨Ext.refl _, rfl⟩
  intro a1 wd1 hN_1 hD_1 hO hR hA hU
  obtain ⟨_, _⟩ := hA
  have hE_1 := hE_0.trans hR
  have s0_1 := (hO 0 rfl).trans s0_0
  have s1_1 := (hO 1 rfl).trans s1_0
  have hsx1_1 := hsx1_0.ext' hR
  clear hE_0 hN_0 hD_0 s0_0 s1_0 hsx1_0
  refine tail_nil ?_
  refine wp_seq ?_
  refine wp_seq ?_
  refine region_lex [] [(9, Pr.ex (Value.bool (true))), (10, Pr.ex (Value.bool (false)))] 2 hN_1 hD_1 (by kernel_rfl) (by kernel_rfl) ?_ ?_
  · refine Asks.cons ?_ (Asks.cons ?_ (Asks.zero _))
    · refine Ask.plain rfl rfl ?_
      intro aq wq hNq hO hR hT
      exact does_ret (vs := #[]) call_10 args0 rfl ((alive04 wq (hL.ext (hE_1.trans hR))).mono fun v w2 h => ⟨h.2, h.1⟩)
    · refine Ask.plain rfl rfl ?_
      intro aq wq hNq hO hR hT
      exact does_not (B := true) (hT 9 rfl rfl) ⟨Ext.refl _, rfl⟩
  intro a2 wd2 hN_2 hD_2 hO hR hA hU
  obtain ⟨_, t10, _⟩ := hA
  have hE_2 := hE_1.trans hR
  have s0_2 := (hO 0 rfl).trans s0_1
  have s1_2 := (hO 1 rfl).trans s1_1
  have hsx1_2 := hsx1_1.ext' hR
  have s10_2 : get a2 10 = Value.bool (false) := t10
  clear hE_1 hN_1 hD_1 s0_1 s1_1 hsx1_1
  refine tail_nil ?_
  refine wp_ifF s10_2 ?_
  refine wp_skip ?_
  refine wp_seq ?_
  refine wp_seq ?_
  refine region_lex [] [(11, Pr.ex (x1)), (12, Pr.ex (i64 ((l.length : Nat) : Int))), (13, Pr.ex (Value.bool (decide (((40 : Nat) : Int) < ((l.length : Nat) : Int)))))] 3 hN_2 hD_2 (by kernel_rfl) (by kernel_rfl) ?_ ?_
  · refine Asks.cons ?_ (Asks.cons ?_ (Asks.cons ?_ (Asks.zero _)))
    · refine Ask.plain rfl rfl ?_
      intro aq wq hNq hO hR hT
      exact does_move (V := x1) ((hO 0 rfl).trans s0_2) ⟨Ext.refl _, rfl⟩
    · refine Ask.plain rfl rfl ?_
      intro aq wq hNq hO hR hT
      exact does_len (T := DG) (xs := l) sli_27 (SlT.at (hT 11 rfl rfl) (hsx1_2.ext' hR)) ⟨Ext.refl _, rfl⟩
    · refine Ask.plain rfl rfl ?_
      intro aq wq hNq hO hR hT
      exact does_gtr (a := ((l.length : Nat) : Int)) (b := ((40 : Nat) : Int)) (hT 12 rfl rfl) rfl ⟨Ext.refl _, rfl⟩
  intro a3 wd3 hN_3 hD_3 hO hR hA hU
  obtain ⟨_, _, t13, _⟩ := hA
  have hE_3 := hE_2.trans hR
  have s0_3 := (hO 0 rfl).trans s0_2
  have s1_3 := (hO 1 rfl).trans s1_2
  have hsx1_3 := hsx1_2.ext' hR
  have s13_3 : get a3 13 = Value.bool (decide (((40 : Nat) : Int) < ((l.length : Nat) : Int))) := t13
  clear hE_2 hN_2 hD_2 s0_2 s1_2 s10_2 hsx1_2
  refine tail_nil ?_
  refine wp_if (B := decide (((40 : Nat) : Int) < ((l.length : Nat) : Int))) s13_3 (fun hc0 => ?_) (fun hc0 => ?_)
  · -- T 0
    have hc0 := of_decide_eq_true hc0
    refine wp_seq ?_
    refine region_lex [] [(4, Pr.ex (Value.bool (true)))] 1 hN_3 hD_3 (by kernel_rfl) (by kernel_rfl) ?_ ?_
    · refine Asks.cons ?_ (Asks.zero _)
      · refine Ask.plain rfl rfl ?_
        intro aq wq hNq hO hR hT
        exact does_assign (V := Value.bool (true)) rfl ⟨Ext.refl _, rfl⟩
    intro a4 wd4 hN_4 hD_4 hO hR hA hU
    obtain ⟨t4, _⟩ := hA
    have hE_4 := hE_3.trans hR
    have hsx1_4 := hsx1_3.ext' hR
    have s4_4 : get a4 4 = Value.bool (true) := t4
    clear hE_3 hN_3 hD_3 s0_3 s1_3 s13_3 hsx1_3
    refine tail_nil ?_
    refine wp_ret ?_
    refine res_one (V := Value.bool (true)) rfl hD_4 s4_4 ?_
    exact ⟨rfl, hE_4⟩
  have hc0 := of_decide_eq_false hc0
  refine wp_skip ?_
  refine wp_seq ?_
  refine region_lex [] [(15, Pr.ex (x1)), (16, Pr.ex (i64 (m))), (17, Pr.t2 (Pr.own' DG wd3.heap.size 24 ((proveOn l (m)).1)) (Pr.ex (i64 (((proveOn l (m)).2 : Nat) : Int)))), (14, Pr.t2 (Pr.own' DG wd3.heap.size 24 ((proveOn l (m)).1)) (Pr.ex (i64 (((proveOn l (m)).2 : Nat) : Int)))), (18, Pr.own' DG wd3.heap.size 24 ((proveOn l (m)).1)), (19, Pr.ex (i64 (((proveOn l (m)).2 : Nat) : Int))), (5, Pr.own' DG wd3.heap.size 24 ((proveOn l (m)).1)), (6, Pr.ex (i64 (((proveOn l (m)).2 : Nat) : Int)))] 8 hN_3 hD_3 (by kernel_rfl) (by kernel_rfl) ?_ ?_
  · refine Asks.cons ?_ (Asks.cons ?_ (Asks.cons ?_ (Asks.cons ?_ (Asks.cons ?_ (Asks.cons ?_ (Asks.cons ?_ (Asks.cons ?_ (Asks.zero _))))))))
    · refine Ask.plain rfl rfl ?_
      intro aq wq hNq hO hR hT
      exact does_move (V := x1) ((hO 0 rfl).trans s0_3) ⟨Ext.refl _, rfl⟩
    · refine Ask.plain rfl rfl ?_
      intro aq wq hNq hO hR hT
      exact does_move (V := i64 (m)) ((hO 1 rfl).trans s1_3) ⟨Ext.refl _, rfl⟩
    · refine Ask.plain rfl rfl ?_
      intro aq wq hNq hO hR hT
      exact does_ret (vs := #[x1, i64 (m)]) call_12 (args2 (hT 15 rfl rfl) (hT 16 rfl rfl)) rfl ((proveOn_ (l) (m) (x1) wq (hL.ext (hE_3.trans hR)) ((hsx1_3.ext' hR).wide (Nat.zero_le _) (.inl rfl)) (by omega)).mono fun v w2 h => ⟨h.2, by obtain ⟨x0, x1, hv, k0, k1⟩ := h.1; exact ⟨x0, x1, hv, OwnT.base k0 hR.size', k1⟩⟩)
    · refine Ask.plain rfl rfl ?_
      intro aq wq hNq hO hR hT
      exact does_move rfl ⟨Ext.refl _, (hT 17 rfl rfl)⟩
    · refine Ask.plain rfl rfl ?_
      intro aq wq hNq hO hR hT
      obtain ⟨x0, x1, hv, k0, k1⟩ := (hT 14 rfl rfl)
      exact does_extract hv rfl ⟨Ext.refl _, k0⟩
    · refine Ask.plain rfl rfl ?_
      intro aq wq hNq hO hR hT
      obtain ⟨x0, x1, hv, k0, k1⟩ := (hT 14 rfl rfl)
      exact does_extract (V := i64 (((proveOn l (m)).2 : Nat) : Int)) hv (by rw [show x1 = i64 (((proveOn l (m)).2 : Nat) : Int) from k1]; rfl) ⟨Ext.refl _, rfl⟩
    · refine Ask.plain rfl rfl ?_
      intro aq wq hNq hO hR hT
      exact does_assign rfl ⟨Ext.refl _, (hT 18 rfl rfl)⟩
    · refine Ask.plain rfl rfl ?_
      intro aq wq hNq hO hR hT
      exact does_assign (V := i64 (((proveOn l (m)).2 : Nat) : Int)) (hT 19 rfl rfl) ⟨Ext.refl _, rfl⟩
  intro a5 wd5 hN_5 hD_5 hO hR hA hU
  obtain ⟨_, _, _, _, _, _, t5, t6, _⟩ := hA
  have hE_5 := hE_3.trans hR
  have s0_5 := (hO 0 rfl).trans s0_3
  have s1_5 := (hO 1 rfl).trans s1_3
  have hsx1_5 := hsx1_3.ext' hR
  obtain ⟨x5, s5_5⟩ : ∃ x, get a5 5 = x := ⟨_, rfl⟩
  replace t5 : OwnT DG wd3.heap.size 24 ((proveOn l (m)).1) x5 wd5 := by rw [← s5_5]; exact t5
  have hsx5_5 := t5.sl.wide (Nat.zero_le _) (.inl rfl)
  have hox5_5 := OwnT.base t5 hE_3.size'
  have s6_5 : get a5 6 = i64 (((proveOn l (m)).2 : Nat) : Int) := t6
  clear hE_3 hN_3 hD_3 s0_3 s1_3 s13_3 hsx1_3
  refine tail_nil ?_
  refine wp_seq ?_
  refine region_lex [] [(21, Pr.ex (x1)), (22, Pr.ex (i64 (m))), (23, Pr.t2 (Pr.own' DG wd5.heap.size 24 ((proveOn l (m)).1)) (Pr.ex (i64 (((proveOn l (m)).2 : Nat) : Int)))), (20, Pr.t2 (Pr.own' DG wd5.heap.size 24 ((proveOn l (m)).1)) (Pr.ex (i64 (((proveOn l (m)).2 : Nat) : Int)))), (24, Pr.own' DG wd5.heap.size 24 ((proveOn l (m)).1)), (25, Pr.ex (i64 (((proveOn l (m)).2 : Nat) : Int))), (7, Pr.own' DG wd5.heap.size 24 ((proveOn l (m)).1)), (8, Pr.ex (i64 (((proveOn l (m)).2 : Nat) : Int)))] 8 hN_5 hD_5 (by kernel_rfl) (by kernel_rfl) ?_ ?_
  · refine Asks.cons ?_ (Asks.cons ?_ (Asks.cons ?_ (Asks.cons ?_ (Asks.cons ?_ (Asks.cons ?_ (Asks.cons ?_ (Asks.cons ?_ (Asks.zero _))))))))
    · refine Ask.plain rfl rfl ?_
      intro aq wq hNq hO hR hT
      exact does_move (V := x1) ((hO 0 rfl).trans s0_5) ⟨Ext.refl _, rfl⟩
    · refine Ask.plain rfl rfl ?_
      intro aq wq hNq hO hR hT
      exact does_move (V := i64 (m)) ((hO 1 rfl).trans s1_5) ⟨Ext.refl _, rfl⟩
    · refine Ask.plain rfl rfl ?_
      intro aq wq hNq hO hR hT
      exact does_ret (vs := #[x1, i64 (m)]) call_23 (args2 (hT 21 rfl rfl) (hT 22 rfl rfl)) rfl ((proveOnR (l) (m) (x1) wq ((hsx1_5.ext' hR).wide (Nat.zero_le _) (.inl rfl)) (by omega)).mono fun v w2 h => ⟨h.2, by obtain ⟨x0, x1, hv, k0, k1⟩ := h.1; exact ⟨x0, x1, hv, OwnT.base k0 hR.size', k1⟩⟩)
    · refine Ask.plain rfl rfl ?_
      intro aq wq hNq hO hR hT
      exact does_move rfl ⟨Ext.refl _, (hT 23 rfl rfl)⟩
    · refine Ask.plain rfl rfl ?_
      intro aq wq hNq hO hR hT
      obtain ⟨x0, x1, hv, k0, k1⟩ := (hT 20 rfl rfl)
      exact does_extract hv rfl ⟨Ext.refl _, k0⟩
    · refine Ask.plain rfl rfl ?_
      intro aq wq hNq hO hR hT
      obtain ⟨x0, x1, hv, k0, k1⟩ := (hT 20 rfl rfl)
      exact does_extract (V := i64 (((proveOn l (m)).2 : Nat) : Int)) hv (by rw [show x1 = i64 (((proveOn l (m)).2 : Nat) : Int) from k1]; rfl) ⟨Ext.refl _, rfl⟩
    · refine Ask.plain rfl rfl ?_
      intro aq wq hNq hO hR hT
      exact does_assign rfl ⟨Ext.refl _, (hT 24 rfl rfl)⟩
    · refine Ask.plain rfl rfl ?_
      intro aq wq hNq hO hR hT
      exact does_assign (V := i64 (((proveOn l (m)).2 : Nat) : Int)) (hT 25 rfl rfl) ⟨Ext.refl _, rfl⟩
  intro a6 wd6 hN_6 hD_6 hO hR hA hU
  obtain ⟨_, _, _, _, _, _, t7, t8, _⟩ := hA
  have hE_6 := hE_5.trans hR
  have s0_6 := (hO 0 rfl).trans s0_5
  have s1_6 := (hO 1 rfl).trans s1_5
  have s5_6 := (hO 5 rfl).trans s5_5
  have s6_6 := (hO 6 rfl).trans s6_5
  have hsx1_6 := hsx1_5.ext' hR
  have hsx5_6 := hsx5_5.ext' hR
  have hox5_6 := hox5_5.ext' hR
  obtain ⟨x7, s7_6⟩ : ∃ x, get a6 7 = x := ⟨_, rfl⟩
  replace t7 : OwnT DG wd5.heap.size 24 ((proveOn l (m)).1) x7 wd6 := by rw [← s7_6]; exact t7
  have no_x7_x5 : ∀ k, x7.ownBlock = some k → x5.ownBlock ≠ some k := fun k e e' => Nat.lt_irrefl _ (Nat.lt_of_lt_of_le (OwnT.block_lt hox5_5 e').2 (OwnT.block_lt t7 e).1)
  have hsx7_6 := t7.sl.wide (Nat.zero_le _) (.inl rfl)
  have hox7_6 := OwnT.base t7 hE_5.size'
  have s8_6 : get a6 8 = i64 (((proveOn l (m)).2 : Nat) : Int) := t8
  clear hE_5 hN_5 hD_5 s0_5 s1_5 s5_5 s6_5 hsx1_5 hsx5_5 hox5_5
  refine tail_nil ?_
  refine wp_seq ?_
  refine wp_seq ?_
  refine region_lex [] [(26, Pr.ex (i64 (((proveOn l (m)).2 : Nat) : Int))), (27, Pr.ex (i64 (((proveOn l (m)).2 : Nat) : Int))), (28, Pr.ex (Value.bool (!decide ((((proveOn l (m)).2 : Nat) : Int) = (((proveOn l (m)).2 : Nat) : Int))))), (29, Pr.ex (Value.bool (!decide ((((proveOn l (m)).2 : Nat) : Int) = (((proveOn l (m)).2 : Nat) : Int))))), (30, Pr.ifb (!(!decide ((((proveOn l (m)).2 : Nat) : Int) = (((proveOn l (m)).2 : Nat) : Int)))) (Pr.ex (x5))), (31, Pr.ifb (!(!decide ((((proveOn l (m)).2 : Nat) : Int) = (((proveOn l (m)).2 : Nat) : Int)))) (Pr.ex (x7))), (32, Pr.ifb (!(!decide ((((proveOn l (m)).2 : Nat) : Int) = (((proveOn l (m)).2 : Nat) : Int)))) (Pr.ex (Value.bool (decide ((proveOn l (m)).1 = (proveOn l (m)).1))))), (33, Pr.ifb (!(!decide ((((proveOn l (m)).2 : Nat) : Int) = (((proveOn l (m)).2 : Nat) : Int)))) (Pr.ex (Value.bool (!(decide ((proveOn l (m)).1 = (proveOn l (m)).1)))))), (34, Pr.ex (Value.bool ((!decide ((((proveOn l (m)).2 : Nat) : Int) = (((proveOn l (m)).2 : Nat) : Int))) || (!(decide ((proveOn l (m)).1 = (proveOn l (m)).1))))))] 9 hN_6 hD_6 (by kernel_rfl) (by kernel_rfl) ?_ ?_
  · refine Asks.cons ?_ (Asks.cons ?_ (Asks.cons ?_ (Asks.cons ?_ (Asks.cons ?_ (Asks.cons ?_ (Asks.cons ?_ (Asks.cons ?_ (Asks.cons ?_ (Asks.zero _)))))))))
    · refine Ask.plain rfl rfl ?_
      intro aq wq hNq hO hR hT
      exact does_move (V := i64 (((proveOn l (m)).2 : Nat) : Int)) ((hO 6 rfl).trans s6_6) ⟨Ext.refl _, rfl⟩
    · refine Ask.plain rfl rfl ?_
      intro aq wq hNq hO hR hT
      exact does_move (V := i64 (((proveOn l (m)).2 : Nat) : Int)) ((hO 8 rfl).trans s8_6) ⟨Ext.refl _, rfl⟩
    · refine Ask.plain rfl rfl ?_
      intro aq wq hNq hO hR hT
      exact does_neq (a := (((proveOn l (m)).2 : Nat) : Int)) (b := (((proveOn l (m)).2 : Nat) : Int)) (hT 26 rfl rfl) (hT 27 rfl rfl) ⟨Ext.refl _, rfl⟩
    · refine Ask.plain rfl rfl ?_
      intro aq wq hNq hO hR hT
      exact does_move (V := Value.bool (!decide ((((proveOn l (m)).2 : Nat) : Int) = (((proveOn l (m)).2 : Nat) : Int)))) (hT 28 rfl rfl) ⟨Ext.refl _, rfl⟩
    · refine Ask.guarded (B := !decide ((((proveOn l (m)).2 : Nat) : Int) = (((proveOn l (m)).2 : Nat) : Int))) (want := false) (t := 29) rfl rfl rfl rfl (by decide) (fun aq wq hO hR hT => hT 29 rfl rfl) (fun hG aq wq hNq hO hR hT => ?_) (fun hno _ => fun hc => absurd (bn hc) hno)
      replace hG := nb hG
      exact does_move (V := x5) ((hO 5 rfl).trans s5_6) ⟨Ext.refl _, fun _ => rfl⟩
    · refine Ask.guarded (B := !decide ((((proveOn l (m)).2 : Nat) : Int) = (((proveOn l (m)).2 : Nat) : Int))) (want := false) (t := 29) rfl rfl rfl rfl (by decide) (fun aq wq hO hR hT => hT 29 rfl rfl) (fun hG aq wq hNq hO hR hT => ?_) (fun hno _ => fun hc => absurd (bn hc) hno)
      replace hG := nb hG
      exact does_move (V := x7) ((hO 7 rfl).trans s7_6) ⟨Ext.refl _, fun _ => rfl⟩
    · refine Ask.guarded (B := !decide ((((proveOn l (m)).2 : Nat) : Int) = (((proveOn l (m)).2 : Nat) : Int))) (want := false) (t := 29) rfl rfl rfl rfl (by decide) (fun aq wq hO hR hT => hT 29 rfl rfl) (fun hG aq wq hNq hO hR hT => ?_) (fun hno _ => fun hc => absurd (bn hc) hno)
      replace hG := nb hG
      exact does_ret (vs := #[x5, x7]) call_15 (args2 (hT 30 rfl rfl hG) (hT 31 rfl rfl hG)) rfl ((same_ ((proveOn l (m)).1) ((proveOn l (m)).1) (x5) (x7) wq ((hsx5_6.ext' hR).wide (Nat.zero_le _) (.inl rfl)) ((hsx7_6.ext' hR).wide (Nat.zero_le _) (.inl rfl)) (by first | exact Nat.le_trans prove_len2 (by simp) | exact Nat.le_trans goes_len2 (by simp) | exact Nat.le_trans prove_len2 (by omega) | exact Nat.le_trans goes_len2 (by omega))).mono fun v w2 h => ⟨h.2, fun _ => h.1⟩)
    · refine Ask.guarded (B := !decide ((((proveOn l (m)).2 : Nat) : Int) = (((proveOn l (m)).2 : Nat) : Int))) (want := false) (t := 29) rfl rfl rfl rfl (by decide) (fun aq wq hO hR hT => hT 29 rfl rfl) (fun hG aq wq hNq hO hR hT => ?_) (fun hno _ => fun hc => absurd (bn hc) hno)
      replace hG := nb hG
      exact does_not (B := decide ((proveOn l (m)).1 = (proveOn l (m)).1)) (hT 32 rfl rfl hG) ⟨Ext.refl _, fun _ => rfl⟩
    · refine Ask.plain rfl rfl ?_
      intro aq wq hNq hO hR hT
      exact does_or (B := !decide ((((proveOn l (m)).2 : Nat) : Int) = (((proveOn l (m)).2 : Nat) : Int))) (X := !(decide ((proveOn l (m)).1 = (proveOn l (m)).1))) (hT 29 rfl rfl) rfl (fun hB => (hT 33 rfl rfl (nb hB))) ⟨Ext.refl _, rfl⟩
  intro a7 wd7 hN_7 hD_7 hO hR hA hU
  obtain ⟨_, _, _, _, _, _, _, _, t34, _⟩ := hA
  have hE_7 := hE_6.trans hR
  have s0_7 := (hO 0 rfl).trans s0_6
  have s1_7 := (hO 1 rfl).trans s1_6
  have s5_7 := (hO 5 rfl).trans s5_6
  have s6_7 := (hO 6 rfl).trans s6_6
  have hsx1_7 := hsx1_6.ext' hR
  have hsx5_7 := hsx5_6.ext' hR
  have hsx7_7 := hsx7_6.ext' hR
  have hox5_7 := hox5_6.ext' hR
  have hox7_7 := hox7_6.ext' hR
  have s34_7 : get a7 34 = Value.bool ((!decide ((((proveOn l (m)).2 : Nat) : Int) = (((proveOn l (m)).2 : Nat) : Int))) || (!(decide ((proveOn l (m)).1 = (proveOn l (m)).1)))) := t34
  clear hE_6 hN_6 hD_6 s0_6 s1_6 s5_6 s6_6 s7_6 s8_6 hsx1_6 hsx5_6 hsx7_6 hox5_6 hox7_6
  refine tail_nil ?_
  refine wp_if (B := (!decide ((((proveOn l (m)).2 : Nat) : Int) = (((proveOn l (m)).2 : Nat) : Int))) || (!(decide ((proveOn l (m)).1 = (proveOn l (m)).1)))) s34_7 (fun hc1 => ?_) (fun hc1 => ?_)
  · -- T 1
    simp at hc1
  refine wp_skip ?_
  refine wp_seq ?_
  refine region_lex [] [(35, Pr.ex (i64 (((proveOn l (m)).2 : Nat) : Int))), (36, Pr.ex (Value.bool (!decide ((((proveOn l (m)).2 : Nat) : Int) = ((0 : Nat) : Int))))), (37, Pr.ex (Value.bool (!decide ((((proveOn l (m)).2 : Nat) : Int) = ((0 : Nat) : Int))))), (38, Pr.ifb (!(!decide ((((proveOn l (m)).2 : Nat) : Int) = ((0 : Nat) : Int)))) (Pr.ex (x1))), (39, Pr.ifb (!(!decide ((((proveOn l (m)).2 : Nat) : Int) = ((0 : Nat) : Int)))) (Pr.ex (i64 (m)))), (40, Pr.ifb (!(!decide ((((proveOn l (m)).2 : Nat) : Int) = ((0 : Nat) : Int)))) (Pr.sl' DG 0 (w0.heap.size + 1) (l.take (m).toNat))), (41, Pr.ifb (!(!decide ((((proveOn l (m)).2 : Nat) : Int) = ((0 : Nat) : Int)))) (Pr.ex (Dg.val (root (l.take (m).toNat))))), (42, Pr.ifb (!(!decide ((((proveOn l (m)).2 : Nat) : Int) = ((0 : Nat) : Int)))) (Pr.ex (i64 (m)))), (43, Pr.ifb (!(!decide ((((proveOn l (m)).2 : Nat) : Int) = ((0 : Nat) : Int)))) (Pr.ex (x1))), (44, Pr.ifb (!(!decide ((((proveOn l (m)).2 : Nat) : Int) = ((0 : Nat) : Int)))) (Pr.ex (Dg.val (root l)))), (45, Pr.ifb (!(!decide ((((proveOn l (m)).2 : Nat) : Int) = ((0 : Nat) : Int)))) (Pr.ex (x1))), (46, Pr.ifb (!(!decide ((((proveOn l (m)).2 : Nat) : Int) = ((0 : Nat) : Int)))) (Pr.ex (i64 ((l.length : Nat) : Int)))), (47, Pr.ifb (!(!decide ((((proveOn l (m)).2 : Nat) : Int) = ((0 : Nat) : Int)))) (Pr.ex (x5))), (48, Pr.ifb (!(!decide ((((proveOn l (m)).2 : Nat) : Int) = ((0 : Nat) : Int)))) (Pr.ex (Value.bool (checksOn (root (l.take (m).toNat)) (m) (root l) (((l.length : Nat) : Int)) ((proveOn l (m)).1))))), (49, Pr.ex (Value.bool ((!decide ((((proveOn l (m)).2 : Nat) : Int) = ((0 : Nat) : Int))) || (checksOn (root (l.take (m).toNat)) (m) (root l) (((l.length : Nat) : Int)) ((proveOn l (m)).1))))), (4, Pr.ex (Value.bool ((!decide ((((proveOn l (m)).2 : Nat) : Int) = ((0 : Nat) : Int))) || (checksOn (root (l.take (m).toNat)) (m) (root l) (((l.length : Nat) : Int)) ((proveOn l (m)).1)))))] 16 hN_7 hD_7 (by kernel_rfl) (by kernel_rfl) ?_ ?_
  · refine Asks.cons ?_ (Asks.cons ?_ (Asks.cons ?_ (Asks.cons ?_ (Asks.cons ?_ (Asks.cons ?_ (Asks.cons ?_ (Asks.cons ?_ (Asks.cons ?_ (Asks.cons ?_ (Asks.cons ?_ (Asks.cons ?_ (Asks.cons ?_ (Asks.cons ?_ (Asks.cons ?_ (Asks.cons ?_ (Asks.zero _))))))))))))))))
    · refine Ask.plain rfl rfl ?_
      intro aq wq hNq hO hR hT
      exact does_move (V := i64 (((proveOn l (m)).2 : Nat) : Int)) ((hO 6 rfl).trans s6_7) ⟨Ext.refl _, rfl⟩
    · refine Ask.plain rfl rfl ?_
      intro aq wq hNq hO hR hT
      exact does_neq (a := (((proveOn l (m)).2 : Nat) : Int)) (b := ((0 : Nat) : Int)) (hT 35 rfl rfl) rfl ⟨Ext.refl _, rfl⟩
    · refine Ask.plain rfl rfl ?_
      intro aq wq hNq hO hR hT
      exact does_move (V := Value.bool (!decide ((((proveOn l (m)).2 : Nat) : Int) = ((0 : Nat) : Int)))) (hT 36 rfl rfl) ⟨Ext.refl _, rfl⟩
    · refine Ask.guarded (B := !decide ((((proveOn l (m)).2 : Nat) : Int) = ((0 : Nat) : Int))) (want := false) (t := 37) rfl rfl rfl rfl (by decide) (fun aq wq hO hR hT => hT 37 rfl rfl) (fun hG aq wq hNq hO hR hT => ?_) (fun hno _ => fun hc => absurd (bn hc) hno)
      replace hG := nb hG
      exact does_move (V := x1) ((hO 0 rfl).trans s0_7) ⟨Ext.refl _, fun _ => rfl⟩
    · refine Ask.guarded (B := !decide ((((proveOn l (m)).2 : Nat) : Int) = ((0 : Nat) : Int))) (want := false) (t := 37) rfl rfl rfl rfl (by decide) (fun aq wq hO hR hT => hT 37 rfl rfl) (fun hG aq wq hNq hO hR hT => ?_) (fun hno _ => fun hc => absurd (bn hc) hno)
      replace hG := nb hG
      exact does_move (V := i64 (m)) ((hO 1 rfl).trans s1_7) ⟨Ext.refl _, fun _ => rfl⟩
    · refine Ask.guarded (B := !decide ((((proveOn l (m)).2 : Nat) : Int) = ((0 : Nat) : Int))) (want := false) (t := 37) rfl rfl rfl rfl (by decide) (fun aq wq hO hR hT => hT 37 rfl rfl) (fun hG aq wq hNq hO hR hT => ?_) (fun hno _ => fun hc => absurd (bn hc) hno)
      replace hG := nb hG
      have hpm := proveOn_in hG
      exact does_sliceHi (T := DG) (xs := l) (k := m) sli_27 rfl (SlT.at (hT 38 rfl rfl hG) (hsx1_7.ext' hR)) (hT 39 rfl rfl hG) (by omega) (by omega) (fun v h => ⟨Ext.refl _, fun _ => h⟩)
    · refine Ask.guarded (B := !decide ((((proveOn l (m)).2 : Nat) : Int) = ((0 : Nat) : Int))) (want := false) (t := 37) rfl rfl rfl rfl (by decide) (fun aq wq hO hR hT => hT 37 rfl rfl) (fun hG aq wq hNq hO hR hT => ?_) (fun hno _ => fun hc => absurd (bn hc) hno)
      replace hG := nb hG
      exact does_ret (vs := #[get aq 40]) call_16 (args1 rfl) rfl ((root_ (l.take (m).toNat) (get aq 40) wq (hL.ext (hE_7.trans hR)) ((hT 40 rfl rfl hG).wide (Nat.zero_le _) (.inl rfl)) (by first | omega | (simp only [List.length_take]; omega))).mono fun v w2 h => ⟨h.2, fun _ => h.1⟩)
    · refine Ask.guarded (B := !decide ((((proveOn l (m)).2 : Nat) : Int) = ((0 : Nat) : Int))) (want := false) (t := 37) rfl rfl rfl rfl (by decide) (fun aq wq hO hR hT => hT 37 rfl rfl) (fun hG aq wq hNq hO hR hT => ?_) (fun hno _ => fun hc => absurd (bn hc) hno)
      replace hG := nb hG
      exact does_move (V := i64 (m)) ((hO 1 rfl).trans s1_7) ⟨Ext.refl _, fun _ => rfl⟩
    · refine Ask.guarded (B := !decide ((((proveOn l (m)).2 : Nat) : Int) = ((0 : Nat) : Int))) (want := false) (t := 37) rfl rfl rfl rfl (by decide) (fun aq wq hO hR hT => hT 37 rfl rfl) (fun hG aq wq hNq hO hR hT => ?_) (fun hno _ => fun hc => absurd (bn hc) hno)
      replace hG := nb hG
      exact does_move (V := x1) ((hO 0 rfl).trans s0_7) ⟨Ext.refl _, fun _ => rfl⟩
    · refine Ask.guarded (B := !decide ((((proveOn l (m)).2 : Nat) : Int) = ((0 : Nat) : Int))) (want := false) (t := 37) rfl rfl rfl rfl (by decide) (fun aq wq hO hR hT => hT 37 rfl rfl) (fun hG aq wq hNq hO hR hT => ?_) (fun hno _ => fun hc => absurd (bn hc) hno)
      replace hG := nb hG
      exact does_ret (vs := #[x1]) call_16 (args1 (hT 43 rfl rfl hG)) rfl ((root_ (l) (x1) wq (hL.ext (hE_7.trans hR)) ((hsx1_7.ext' hR).wide (Nat.zero_le _) (.inl rfl)) (by first | omega | (simp only [List.length_take]; omega))).mono fun v w2 h => ⟨h.2, fun _ => h.1⟩)
    · refine Ask.guarded (B := !decide ((((proveOn l (m)).2 : Nat) : Int) = ((0 : Nat) : Int))) (want := false) (t := 37) rfl rfl rfl rfl (by decide) (fun aq wq hO hR hT => hT 37 rfl rfl) (fun hG aq wq hNq hO hR hT => ?_) (fun hno _ => fun hc => absurd (bn hc) hno)
      replace hG := nb hG
      exact does_move (V := x1) ((hO 0 rfl).trans s0_7) ⟨Ext.refl _, fun _ => rfl⟩
    · refine Ask.guarded (B := !decide ((((proveOn l (m)).2 : Nat) : Int) = ((0 : Nat) : Int))) (want := false) (t := 37) rfl rfl rfl rfl (by decide) (fun aq wq hO hR hT => hT 37 rfl rfl) (fun hG aq wq hNq hO hR hT => ?_) (fun hno _ => fun hc => absurd (bn hc) hno)
      replace hG := nb hG
      exact does_len (T := DG) (xs := l) sli_27 (SlT.at (hT 45 rfl rfl hG) (hsx1_7.ext' hR)) ⟨Ext.refl _, fun _ => rfl⟩
    · refine Ask.guarded (B := !decide ((((proveOn l (m)).2 : Nat) : Int) = ((0 : Nat) : Int))) (want := false) (t := 37) rfl rfl rfl rfl (by decide) (fun aq wq hO hR hT => hT 37 rfl rfl) (fun hG aq wq hNq hO hR hT => ?_) (fun hno _ => fun hc => absurd (bn hc) hno)
      replace hG := nb hG
      exact does_move (V := x5) ((hO 5 rfl).trans s5_7) ⟨Ext.refl _, fun _ => rfl⟩
    · refine Ask.guarded (B := !decide ((((proveOn l (m)).2 : Nat) : Int) = ((0 : Nat) : Int))) (want := false) (t := 37) rfl rfl rfl rfl (by decide) (fun aq wq hO hR hT => hT 37 rfl rfl) (fun hG aq wq hNq hO hR hT => ?_) (fun hno _ => fun hc => absurd (bn hc) hno)
      replace hG := nb hG
      exact does_ret (vs := #[Dg.val (root (l.take (m).toNat)), i64 (m), Dg.val (root l), i64 ((l.length : Nat) : Int), x5]) call_24 (args5 (hT 41 rfl rfl hG) (hT 42 rfl rfl hG) (hT 44 rfl rfl hG) (hT 46 rfl rfl hG) (hT 47 rfl rfl hG)) rfl ((checkOn_ (root (l.take (m).toNat)) (m) (root l) (((l.length : Nat) : Int)) ((proveOn l (m)).1) (x5) wq (hL.ext (hE_7.trans hR)) ((hsx5_7.ext' hR).wide (Nat.zero_le _) (.inl rfl)) (Nat.le_trans goes_len2 (by omega))).mono fun v w2 h => ⟨h.2, fun _ => h.1⟩)
    · refine Ask.plain rfl rfl ?_
      intro aq wq hNq hO hR hT
      exact does_or (B := !decide ((((proveOn l (m)).2 : Nat) : Int) = ((0 : Nat) : Int))) (X := checksOn (root (l.take (m).toNat)) (m) (root l) (((l.length : Nat) : Int)) ((proveOn l (m)).1)) (hT 37 rfl rfl) rfl (fun hB => (hT 48 rfl rfl (nb hB))) ⟨Ext.refl _, rfl⟩
    · refine Ask.plain rfl rfl ?_
      intro aq wq hNq hO hR hT
      exact does_assign (V := Value.bool ((!decide ((((proveOn l (m)).2 : Nat) : Int) = ((0 : Nat) : Int))) || (checksOn (root (l.take (m).toNat)) (m) (root l) (((l.length : Nat) : Int)) ((proveOn l (m)).1)))) (hT 49 rfl rfl) ⟨Ext.refl _, rfl⟩
  intro a8 wd8 hN_8 hD_8 hO hR hA hU
  obtain ⟨_, _, _, _, _, _, _, _, _, _, _, _, _, _, _, t4, _⟩ := hA
  have hE_8 := hE_7.trans hR
  have hsx1_8 := hsx1_7.ext' hR
  have hsx5_8 := hsx5_7.ext' hR
  have hsx7_8 := hsx7_7.ext' hR
  have hox5_8 := hox5_7.ext' hR
  have hox7_8 := hox7_7.ext' hR
  have s4_8 : get a8 4 = Value.bool ((!decide ((((proveOn l (m)).2 : Nat) : Int) = ((0 : Nat) : Int))) || (checksOn (root (l.take (m).toNat)) (m) (root l) (((l.length : Nat) : Int)) ((proveOn l (m)).1))) := t4
  clear hE_7 hN_7 hD_7 s0_7 s1_7 s5_7 s6_7 s34_7 hsx1_7 hsx5_7 hsx7_7 hox5_7 hox7_7
  refine tail_nil ?_
  refine wp_ret ?_
  refine res_one (V := Value.bool ((!decide ((((proveOn l (m)).2 : Nat) : Int) = ((0 : Nat) : Int))) || (checksOn (root (l.take (m).toNat)) (m) (root l) (((l.length : Nat) : Int)) ((proveOn l (m)).1)))) rfl hD_8 s4_8 ?_
  exact ⟨congrArg Value.bool (goesOn_law (by omega)), hE_8⟩

end Go.Proofs.YtncamojfjhbanaaDoor
