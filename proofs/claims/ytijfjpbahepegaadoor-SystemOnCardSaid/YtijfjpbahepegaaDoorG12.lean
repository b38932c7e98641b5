/- The walks of functions of the program: printed. -/
import Derived.Test.YtijfjpbahepegaaDoorG3
import Derived.Test.YtijfjpbahepegaaDoorG7
import Derived.Test.YtijfjpbahepegaaDoorF0
set_option maxRecDepth 100000
namespace Go.Proofs.YtijfjpbahepegaaDoor
open Go Go.RowKit Sk Sd
theorem on__r : ∀ (N : Nat) (l : List Dg) (m : Nat) (whole : Bool) (x1 : Value) (w0 : World) (hL : Laid w0) (hx1 : SlT DG 0 0 l x1 w0) (h1 : 1 ≤ m) (hm : m ≤ l.length) (hn : l.length ≤ 100000) (hN : l.length = N),
    Gives Tryd.prog 54 #[x1, i64 ((m : Nat) : Int), Value.bool (whole)] w0 (Pr.own' DG w0.heap.size 27 (goes l m whole)) := by
 intro N
 induction N using Nat.strongRecOn with
 | _ N ih =>
  intro l m whole x1 w0 hL hx1 h1 hm hn hN
  refine enter (N := 47) Tryd.func54 rfl rfl ?_
  intro a0 hN_0 hD_0 hA
  have s0_0 : get a0 0 = x1 := hA 0 _ rfl
  have s1_0 : get a0 1 = i64 ((m : Nat) : Int) := hA 1 _ rfl
  have s2_0 : get a0 2 = Value.bool (whole) := hA 2 _ rfl
  clear hA
  have hE_0 : Ext w0 w0 := Ext.refl w0
  have hsx1_0 := hx1.close
  refine wp_seq ?_
  refine region_lex [] [(6, Pr.ex (Value.slice none 0 0))] 1 hN_0 hD_0 (by kernel_rfl) (by kernel_rfl) ?_ ?_
  refine Asks.cons ?_ (Asks.zero _)
  exact Ask.plain rfl rfl fun aq wq hNq hO hR hT => does_assign (V := Value.slice none 0 0) rfl ⟨Ext.refl _, rfl⟩
  intro a1 wd1 hN_1 hD_1 hO hR hA hU
  obtain ⟨_, _⟩ := hA
  have hE_1 := hE_0.trans hR
  have s0_1 := (hO 0 rfl).trans s0_0
  have s1_1 := (hO 1 rfl).trans s1_0
  have s2_1 := (hO 2 rfl).trans s2_0
  have hsx1_1 := hsx1_0.ext' hR
  clear hE_0 hN_0 hD_0 s0_0 s1_0 s2_0 hsx1_0
  refine tail_nil ?_
  refine wp_seq ?_
  refine wp_seq ?_
  refine region_lex [] [(8, Pr.ex (i64 ((m : Nat) : Int))), (9, Pr.ex (x1)), (10, Pr.ex (i64 ((l.length : Nat) : Int))), (11, Pr.ex (Value.bool (decide (((m : Nat) : Int) = ((l.length : Nat) : Int)))))] 4 hN_1 hD_1 (by kernel_rfl) (by kernel_rfl) ?_ ?_
  refine Asks.cons ?_ (Asks.cons ?_ (Asks.cons ?_ (Asks.cons ?_ (Asks.zero _))))
  exact Ask.plain rfl rfl fun aq wq hNq hO hR hT => does_move (V := i64 ((m : Nat) : Int)) ((hO 1 rfl).trans s1_1) ⟨Ext.refl _, rfl⟩
  exact Ask.plain rfl rfl fun aq wq hNq hO hR hT => does_move (V := x1) ((hO 0 rfl).trans s0_1) ⟨Ext.refl _, rfl⟩
  exact Ask.plain rfl rfl fun aq wq hNq hO hR hT => does_len (T := DG) (xs := l) sli_41 (SlT.at (hT 9 rfl rfl) (hsx1_1.ext' hR)) ⟨Ext.refl _, rfl⟩
  exact Ask.plain rfl rfl fun aq wq hNq hO hR hT => does_eql (a := ((m : Nat) : Int)) (b := ((l.length : Nat) : Int)) (hT 8 rfl rfl) (hT 10 rfl rfl) ⟨Ext.refl _, rfl⟩
  intro a2 wd2 hN_2 hD_2 hO hR hA hU
  obtain ⟨_, _, _, t11, _⟩ := hA
  have hE_2 := hE_1.trans hR
  have s0_2 := (hO 0 rfl).trans s0_1
  have s1_2 := (hO 1 rfl).trans s1_1
  have s2_2 := (hO 2 rfl).trans s2_1
  have hsx1_2 := hsx1_1.ext' hR
  have s11_2 : get a2 11 = Value.bool (decide (((m : Nat) : Int) = ((l.length : Nat) : Int))) := t11
  clear hE_1 hN_1 hD_1 s0_1 s1_1 s2_1 hsx1_1
  refine tail_nil ?_
  refine wp_if (B := decide (((m : Nat) : Int) = ((l.length : Nat) : Int))) s11_2 (fun hc0 => ?_) (fun hc0 => ?_)
  have hc0 := of_decide_eq_true hc0
  have hend : ¬ (2 ≤ l.length ∧ m ≠ l.length) := fun h => h.2 (by omega)
  refine wp_seq ?_
  refine wp_seq ?_
  refine region_lex [] [(12, Pr.ex (Value.bool (whole)))] 1 hN_2 hD_2 (by kernel_rfl) (by kernel_rfl) ?_ ?_
  refine Asks.cons ?_ (Asks.zero _)
  exact Ask.plain rfl rfl fun aq wq hNq hO hR hT => does_move (V := Value.bool (whole)) ((hO 2 rfl).trans s2_2) ⟨Ext.refl _, rfl⟩
  intro a3 wd3 hN_3 hD_3 hO hR hA hU
  obtain ⟨t12, _⟩ := hA
  have hE_3 := hE_2.trans hR
  have s0_3 := (hO 0 rfl).trans s0_2
  have hsx1_3 := hsx1_2.ext' hR
  have s12_3 : get a3 12 = Value.bool (whole) := t12
  clear hE_2 hN_2 hD_2 s0_2 s1_2 s2_2 s11_2 hsx1_2
  refine tail_nil ?_
  refine wp_if (B := whole) s12_3 (fun hc1 => ?_) (fun hc1 => ?_)
  refine wp_seq ?_
  refine region_lex [] [(6, Pr.ex (Value.slice none 0 0))] 1 hN_3 hD_3 (by kernel_rfl) (by kernel_rfl) ?_ ?_
  refine Asks.cons ?_ (Asks.zero _)
  exact Ask.plain rfl rfl fun aq wq hNq hO hR hT => does_assign (V := Value.slice none 0 0) rfl ⟨Ext.refl _, rfl⟩
  intro a4 wd4 hN_4 hD_4 hO hR hA hU
  obtain ⟨t6, _⟩ := hA
  have hE_4 := hE_3.trans hR
  have hsx1_4 := hsx1_3.ext' hR
  have s6_4 : get a4 6 = Value.slice none 0 0 := t6
  clear hE_3 hN_3 hD_3 s0_3 s12_3 hsx1_3
  refine tail_nil ?_
  refine wp_ret ?_
  refine res_one (V := Value.slice none 0 0) rfl hD_4 s6_4 ?_
  exact ⟨by show OwnT _ _ _ _ _ _; rw [goes_end hend whole, hc1]; exact OwnT.nil DG _ 27 _, hE_4⟩
  refine wp_skip ?_
  refine wp_seq ?_
  refine region_lex [] [(13, Pr.ex (x1)), (14, Pr.ex (Dg.val (root l))), (15, Pr.own' DG wd3.heap.size 27 ([root l])), (6, Pr.own' DG wd3.heap.size 27 ([root l]))] 4 hN_3 hD_3 (by kernel_rfl) (by kernel_rfl) ?_ ?_
  refine Asks.cons ?_ (Asks.cons ?_ (Asks.cons ?_ (Asks.cons ?_ (Asks.zero _))))
  exact Ask.plain rfl rfl fun aq wq hNq hO hR hT => does_move (V := x1) ((hO 0 rfl).trans s0_3) ⟨Ext.refl _, rfl⟩
  exact Ask.plain rfl rfl fun aq wq hNq hO hR hT => does_ret (vs := #[x1]) call_37 (args1 (hT 13 rfl rfl)) rfl ((root_ (l) (x1) wq (hL.ext (hE_3.trans hR)) ((hsx1_3.ext' hR).wide (Nat.zero_le _) (.inl rfl)) (by first | exact hn | (simp only [List.length_take, List.length_drop]; omega))).mono fun v w2 h => ⟨h.2, h.1⟩)
  exact Ask.plain rfl rfl fun aq wq hNq hO hR hT => does_slice1 (T := DG) (X := root l) (V := Dg.val (root l)) app_41 rfl (by decide) (hT 14 rfl rfl) rfl (fun v w2 he _ ho => ⟨he, OwnT.base ho hR.size'⟩)
  exact Ask.plain rfl rfl fun aq wq hNq hO hR hT => does_assign rfl ⟨Ext.refl _, (hT 15 rfl rfl)⟩
  intro a5 wd5 hN_5 hD_5 hO hR hA hU
  obtain ⟨_, _, _, t6, _⟩ := hA
  have hE_5 := hE_3.trans hR
  have hsx1_5 := hsx1_3.ext' hR
  obtain ⟨x6, s6_5⟩ : ∃ x, get a5 6 = x := ⟨_, rfl⟩
  replace t6 : OwnT DG wd3.heap.size 27 ([root l]) x6 wd5 := by rw [← s6_5]; exact t6
  have hsx6_5 := t6.sl.wide (Nat.zero_le _) (.inl rfl)
  have hox6_5 := OwnT.base t6 hE_3.size'
  clear hE_3 hN_3 hD_3 s0_3 s12_3 hsx1_3
  refine tail_nil ?_
  refine wp_ret ?_
  refine res_one (V := x6) rfl hD_5 s6_5 ?_
  have ho := hox6_5
  exact ⟨by show OwnT _ _ _ _ _ _; rw [goes_end hend whole, hc1]; exact ho, hE_5⟩
  have hc0 := of_decide_eq_false hc0
  have h2 : 2 ≤ l.length ∧ m ≠ l.length := ⟨by omega, by omega⟩
  have hh := half_lt h2.1
  have hp := half_pos l.length
  refine wp_skip ?_
  refine wp_seq ?_
  refine region_lex [] [(16, Pr.ex (x1)), (17, Pr.ex (i64 ((l.length : Nat) : Int))), (18, Pr.ex (i64 ((half l.length : Nat) : Int))), (7, Pr.ex (i64 ((half l.length : Nat) : Int)))] 4 hN_2 hD_2 (by kernel_rfl) (by kernel_rfl) ?_ ?_
  refine Asks.cons ?_ (Asks.cons ?_ (Asks.cons ?_ (Asks.cons ?_ (Asks.zero _))))
  exact Ask.plain rfl rfl fun aq wq hNq hO hR hT => does_move (V := x1) ((hO 0 rfl).trans s0_2) ⟨Ext.refl _, rfl⟩
  exact Ask.plain rfl rfl fun aq wq hNq hO hR hT => does_len (T := DG) (xs := l) sli_41 (SlT.at (hT 16 rfl rfl) (hsx1_2.ext' hR)) ⟨Ext.refl _, rfl⟩
  exact Ask.plain rfl rfl fun aq wq hNq hO hR hT => does_ret (vs := #[i64 ((l.length : Nat) : Int)]) call_49 (args1 (hT 17 rfl rfl)) rfl ((half_ (l.length) wq (by omega) (by omega)).mono fun v w2 h => ⟨h.2, h.1⟩)
  exact Ask.plain rfl rfl fun aq wq hNq hO hR hT => does_assign (V := i64 ((half l.length : Nat) : Int)) (hT 18 rfl rfl) ⟨Ext.refl _, rfl⟩
  intro a6 wd6 hN_6 hD_6 hO hR hA hU
  obtain ⟨_, _, _, t7, _⟩ := hA
  have hE_6 := hE_2.trans hR
  have s0_6 := (hO 0 rfl).trans s0_2
  have s1_6 := (hO 1 rfl).trans s1_2
  have s2_6 := (hO 2 rfl).trans s2_2
  have hsx1_6 := hsx1_2.ext' hR
  have s7_6 : get a6 7 = i64 ((half l.length : Nat) : Int) := t7
  clear hE_2 hN_2 hD_2 s0_2 s1_2 s2_2 s11_2 hsx1_2
  refine tail_nil ?_
  refine wp_seq ?_
  refine wp_seq ?_
  refine region_lex [] [(19, Pr.ex (i64 ((m : Nat) : Int))), (20, Pr.ex (i64 ((half l.length : Nat) : Int))), (21, Pr.ex (Value.bool (decide (((m : Nat) : Int) ≤ ((half l.length : Nat) : Int)))))] 3 hN_6 hD_6 (by kernel_rfl) (by kernel_rfl) ?_ ?_
  refine Asks.cons ?_ (Asks.cons ?_ (Asks.cons ?_ (Asks.zero _)))
  exact Ask.plain rfl rfl fun aq wq hNq hO hR hT => does_move (V := i64 ((m : Nat) : Int)) ((hO 1 rfl).trans s1_6) ⟨Ext.refl _, rfl⟩
  exact Ask.plain rfl rfl fun aq wq hNq hO hR hT => does_move (V := i64 ((half l.length : Nat) : Int)) ((hO 7 rfl).trans s7_6) ⟨Ext.refl _, rfl⟩
  exact Ask.plain rfl rfl fun aq wq hNq hO hR hT => does_leq (a := ((m : Nat) : Int)) (b := ((half l.length : Nat) : Int)) (hT 19 rfl rfl) (hT 20 rfl rfl) ⟨Ext.refl _, rfl⟩
  intro a7 wd7 hN_7 hD_7 hO hR hA hU
  obtain ⟨_, _, t21, _⟩ := hA
  have hE_7 := hE_6.trans hR
  have s0_7 := (hO 0 rfl).trans s0_6
  have s1_7 := (hO 1 rfl).trans s1_6
  have s2_7 := (hO 2 rfl).trans s2_6
  have s7_7 := (hO 7 rfl).trans s7_6
  have hsx1_7 := hsx1_6.ext' hR
  have s21_7 : get a7 21 = Value.bool (decide (((m : Nat) : Int) ≤ ((half l.length : Nat) : Int))) := t21
  clear hE_6 hN_6 hD_6 s0_6 s1_6 s2_6 s7_6 hsx1_6
  refine tail_nil ?_
  refine wp_if (B := decide (((m : Nat) : Int) ≤ ((half l.length : Nat) : Int))) s21_7 (fun hc2 => ?_) (fun hc2 => ?_)
  have hc2 := of_decide_eq_true hc2
  have hlo : m ≤ half l.length := by omega
  have hw1 := goes_le (l.take (half l.length)) m whole (by rw [List.length_take]; omega)
  refine wp_seq ?_
  refine region_any [] [(22, Pr.ex (x1)), (23, Pr.ex (i64 ((half l.length : Nat) : Int))), (24, Pr.sl' DG 0 (w0.heap.size + 1) (l.take (half l.length))), (25, Pr.ex (i64 ((m : Nat) : Int))), (26, Pr.ex (Value.bool (whole))), (27, Pr.own' DG wd7.heap.size 27 (goes (l.take (half l.length)) m whole)), (28, Pr.ex (x1)), (29, Pr.ex (i64 ((half l.length : Nat) : Int))), (30, Pr.sl' DG 0 (w0.heap.size + 1) (l.drop (half l.length))), (31, Pr.ex (Dg.val (root (l.drop (half l.length))))), (32, Pr.own' DG wd7.heap.size 27 ([root (l.drop (half l.length))]))] 11 mixed hN_7 hD_7 (by kernel_rfl) (by kernel_rfl) (by kernel_rfl) ?_ ?_
  refine Asks.cons ?_ (Asks.cons ?_ (Asks.cons ?_ (Asks.cons ?_ (Asks.cons ?_ (Asks.cons ?_ (Asks.cons ?_ (Asks.cons ?_ (Asks.cons ?_ (Asks.cons ?_ (Asks.cons ?_ (Asks.zero _)))))))))))
  exact Ask.plainD rfl rfl fun aq wq hNq hO hR hT => does_move (V := x1) ((hO 0 rfl).trans s0_7) ⟨Ext.refl _, rfl⟩
  exact Ask.plainD rfl rfl fun aq wq hNq hO hR hT => does_move (V := i64 ((half l.length : Nat) : Int)) ((hO 7 rfl).trans s7_7) ⟨Ext.refl _, rfl⟩
  exact Ask.plainD rfl rfl fun aq wq hNq hO hR hT => does_sliceHi (T := DG) (xs := l) (k := ((half l.length : Nat) : Int)) sli_41 rfl (SlT.at (hT 22 rfl rfl) (hsx1_7.ext' hR)) (hT 23 rfl rfl) (by omega) (by omega) (fun v h => ⟨Ext.refl _, h⟩)
  exact Ask.plainD rfl rfl fun aq wq hNq hO hR hT => does_move (V := i64 ((m : Nat) : Int)) ((hO 1 rfl).trans s1_7) ⟨Ext.refl _, rfl⟩
  exact Ask.plainD rfl rfl fun aq wq hNq hO hR hT => does_move (V := Value.bool (whole)) ((hO 2 rfl).trans s2_7) ⟨Ext.refl _, rfl⟩
  exact Ask.plainD rfl rfl fun aq wq hNq hO hR hT => does_ret (vs := #[get aq 24, i64 ((m : Nat) : Int), Value.bool (whole)]) call_54 (args3 rfl (hT 25 rfl rfl) (hT 26 rfl rfl)) rfl ((ih _ (by simp only [List.length_take, List.length_drop]; omega) (l.take (half l.length)) (m) (whole) (get aq 24) wq (hL.ext (hE_7.trans hR)) ((hT 24 rfl rfl).wide (Nat.zero_le _) (.inl rfl)) (by omega) (by simp only [List.length_take, List.length_drop]; omega) (by simp only [List.length_take, List.length_drop]; omega) rfl).mono fun v w2 h => ⟨h.2, OwnT.base h.1 hR.size'⟩)
  exact Ask.plainD rfl rfl fun aq wq hNq hO hR hT => does_move (V := x1) ((hO 0 rfl).trans s0_7) ⟨Ext.refl _, rfl⟩
  exact Ask.plainD rfl rfl fun aq wq hNq hO hR hT => does_move (V := i64 ((half l.length : Nat) : Int)) ((hO 7 rfl).trans s7_7) ⟨Ext.refl _, rfl⟩
  exact Ask.plainD rfl rfl fun aq wq hNq hO hR hT => does_sliceLo (T := DG) (xs := l) (k := ((half l.length : Nat) : Int)) sli_41 rfl (SlT.at (hT 28 rfl rfl) (hsx1_7.ext' hR)) (hT 29 rfl rfl) (by omega) (by omega) (fun v h => ⟨Ext.refl _, h⟩)
  exact Ask.plainD rfl rfl fun aq wq hNq hO hR hT => does_ret (vs := #[get aq 30]) call_37 (args1 rfl) rfl ((root_ (l.drop (half l.length)) (get aq 30) wq (hL.ext (hE_7.trans hR)) ((hT 30 rfl rfl).wide (Nat.zero_le _) (.inl rfl)) (by first | exact hn | (simp only [List.length_take, List.length_drop]; omega))).mono fun v w2 h => ⟨h.2, h.1⟩)
  exact Ask.plainD rfl rfl fun aq wq hNq hO hR hT => does_slice1 (T := DG) (X := root (l.drop (half l.length))) (V := Dg.val (root (l.drop (half l.length)))) app_41 rfl (by decide) (hT 31 rfl rfl) rfl (fun v w2 he _ ho => ⟨he, OwnT.base ho hR.size'⟩)
  intro a8 wd8 hN_8 hD_8 hO hR hA hU
  obtain ⟨_, _, _, _, _, t27, _, _, _, _, t32, _⟩ := hA
  have hE_8 := hE_7.trans hR
  have hsx1_8 := hsx1_7.ext' hR
  obtain ⟨x27, s27_8⟩ : ∃ x, get a8 27 = x := ⟨_, rfl⟩
  replace t27 : OwnT DG wd7.heap.size 27 (goes (l.take (half l.length)) m whole) x27 wd8 := by rw [← s27_8]; exact t27
  have hsx27_8 := t27.sl.wide (Nat.zero_le _) (.inl rfl)
  have hox27_8 := OwnT.base t27 hE_7.size'
  obtain ⟨x32, s32_8⟩ : ∃ x, get a8 32 = x := ⟨_, rfl⟩
  replace t32 : OwnT DG wd7.heap.size 27 ([root (l.drop (half l.length))]) x32 wd8 := by rw [← s32_8]; exact t32
  have hsx32_8 := t32.sl.wide (Nat.zero_le _) (.inl rfl)
  have hox32_8 := OwnT.base t32 hE_7.size'
  clear hE_7 hN_7 hD_7 s0_7 s1_7 s2_7 s7_7 s21_7 hsx1_7
  refine tail_put rfl rfl hN_8 hD_8 (by decide) (does_append (T := DG) (base := w0.heap.size) (xs := goes (l.take (half l.length)) m whole) (ys := [root (l.drop (half l.length))]) (v := x27) app_41 s27_8 hox27_8 (SlT.at s32_8 hsx32_8) (by simp) (by simp only [List.length_take, List.length_drop, List.length_cons, List.length_nil] at *; omega) (by simp only [List.length_take, List.length_drop, List.length_cons, List.length_nil] at *; omega) hE_8.size' (fun x33 wd9 hX hox33_9 hk a9 hN_9 hD_9 hv hO => ?_))
  have hE_9 := hE_8.since hX (fun b hb => Nat.le_trans (Nat.le_refl _) (OwnT.block_lt hox27_8 hb).1)
  have hsx1_9 := SlT.overOwn hsx1_8 hox27_8 hX
  have hsx33_9 := hox33_9.sl.wide (Nat.zero_le _) (.inl rfl)
  have s33_9 := hv
  clear hO hv hX hk hN_8 hD_8 hE_8 hsx1_8 s27_8 s32_8
  refine tail_put rfl rfl hN_9 hD_9 (by decide) (does_assign (V := x33) s33_9 (fun a10 hN_10 hD_10 hv hO => ?_))
  have s6_10 := hv
  clear hO hv hN_9 hD_9 s33_9
  refine tail_nil ?_
  refine wp_ret ?_
  refine res_one (V := x33) rfl hD_10 s6_10 ?_
  have ho := hox33_9
  exact ⟨by show OwnT _ _ _ _ _ _; rw [goes_lo h2 hlo]; exact ho, hE_9⟩
  have hc2 := of_decide_eq_false hc2
  have hhi : ¬ m ≤ half l.length := by omega
  have hw1 := goes_le (l.drop (half l.length)) (m - half l.length) false (by rw [List.length_drop]; omega)
  refine wp_skip ?_
  refine wp_seq ?_
  refine region_any [] [(34, Pr.ex (x1)), (35, Pr.ex (i64 ((half l.length : Nat) : Int))), (36, Pr.sl' DG 0 (w0.heap.size + 1) (l.drop (half l.length))), (37, Pr.ex (i64 ((m : Nat) : Int))), (38, Pr.ex (i64 ((half l.length : Nat) : Int))), (39, Pr.ex (i64 ((m - (half l.length) : Nat) : Int))), (40, Pr.own' DG wd7.heap.size 27 (goes (l.drop (half l.length)) (m - (half l.length)) false)), (41, Pr.ex (x1)), (42, Pr.ex (i64 ((half l.length : Nat) : Int))), (43, Pr.sl' DG 0 (w0.heap.size + 1) (l.take (half l.length))), (44, Pr.ex (Dg.val (root (l.take (half l.length))))), (45, Pr.own' DG wd7.heap.size 27 ([root (l.take (half l.length))]))] 12 mixed hN_7 hD_7 (by kernel_rfl) (by kernel_rfl) (by kernel_rfl) ?_ ?_
  refine Asks.cons ?_ (Asks.cons ?_ (Asks.cons ?_ (Asks.cons ?_ (Asks.cons ?_ (Asks.cons ?_ (Asks.cons ?_ (Asks.cons ?_ (Asks.cons ?_ (Asks.cons ?_ (Asks.cons ?_ (Asks.cons ?_ (Asks.zero _))))))))))))
  exact Ask.plainD rfl rfl fun aq wq hNq hO hR hT => does_move (V := x1) ((hO 0 rfl).trans s0_7) ⟨Ext.refl _, rfl⟩
  exact Ask.plainD rfl rfl fun aq wq hNq hO hR hT => does_move (V := i64 ((half l.length : Nat) : Int)) ((hO 7 rfl).trans s7_7) ⟨Ext.refl _, rfl⟩
  exact Ask.plainD rfl rfl fun aq wq hNq hO hR hT => does_sliceLo (T := DG) (xs := l) (k := ((half l.length : Nat) : Int)) sli_41 rfl (SlT.at (hT 34 rfl rfl) (hsx1_7.ext' hR)) (hT 35 rfl rfl) (by omega) (by omega) (fun v h => ⟨Ext.refl _, h⟩)
  exact Ask.plainD rfl rfl fun aq wq hNq hO hR hT => does_move (V := i64 ((m : Nat) : Int)) ((hO 1 rfl).trans s1_7) ⟨Ext.refl _, rfl⟩
  exact Ask.plainD rfl rfl fun aq wq hNq hO hR hT => does_move (V := i64 ((half l.length : Nat) : Int)) ((hO 7 rfl).trans s7_7) ⟨Ext.refl _, rfl⟩
  exact Ask.plainD rfl rfl fun aq wq hNq hO hR hT => does_sub (a := ((m : Nat) : Int)) (b := ((half l.length : Nat) : Int)) (r := ((m - (half l.length) : Nat) : Int)) (hT 37 rfl rfl) (hT 38 rfl rfl) (by omega) (by omega) (by omega) ⟨Ext.refl _, rfl⟩
  exact Ask.plainD rfl rfl fun aq wq hNq hO hR hT => does_ret (vs := #[get aq 36, i64 ((m - (half l.length) : Nat) : Int), Value.bool (false)]) call_54 (args3 rfl (hT 39 rfl rfl) rfl) rfl ((ih _ (by simp only [List.length_take, List.length_drop]; omega) (l.drop (half l.length)) (m - (half l.length)) (false) (get aq 36) wq (hL.ext (hE_7.trans hR)) ((hT 36 rfl rfl).wide (Nat.zero_le _) (.inl rfl)) (by omega) (by simp only [List.length_take, List.length_drop]; omega) (by simp only [List.length_take, List.length_drop]; omega) rfl).mono fun v w2 h => ⟨h.2, OwnT.base h.1 hR.size'⟩)
  exact Ask.plainD rfl rfl fun aq wq hNq hO hR hT => does_move (V := x1) ((hO 0 rfl).trans s0_7) ⟨Ext.refl _, rfl⟩
  exact Ask.plainD rfl rfl fun aq wq hNq hO hR hT => does_move (V := i64 ((half l.length : Nat) : Int)) ((hO 7 rfl).trans s7_7) ⟨Ext.refl _, rfl⟩
  exact Ask.plainD rfl rfl fun aq wq hNq hO hR hT => does_sliceHi (T := DG) (xs := l) (k := ((half l.length : Nat) : Int)) sli_41 rfl (SlT.at (hT 41 rfl rfl) (hsx1_7.ext' hR)) (hT 42 rfl rfl) (by omega) (by omega) (fun v h => ⟨Ext.refl _, h⟩)
  exact Ask.plainD rfl rfl fun aq wq hNq hO hR hT => does_ret (vs := #[get aq 43]) call_37 (args1 rfl) rfl ((root_ (l.take (half l.length)) (get aq 43) wq (hL.ext (hE_7.trans hR)) ((hT 43 rfl rfl).wide (Nat.zero_le _) (.inl rfl)) (by first | exact hn | (simp only [List.length_take, List.length_drop]; omega))).mono fun v w2 h => ⟨h.2, h.1⟩)
  exact Ask.plainD rfl rfl fun aq wq hNq hO hR hT => does_slice1 (T := DG) (X := root (l.take (half l.length))) (V := Dg.val (root (l.take (half l.length)))) app_41 rfl (by decide) (hT 44 rfl rfl) rfl (fun v w2 he _ ho => ⟨he, OwnT.base ho hR.size'⟩)
  intro a11 wd11 hN_11 hD_11 hO hR hA hU
  obtain ⟨_, _, _, _, _, _, t40, _, _, _, _, t45, _⟩ := hA
  have hE_11 := hE_7.trans hR
  have hsx1_11 := hsx1_7.ext' hR
  obtain ⟨x40, s40_11⟩ : ∃ x, get a11 40 = x := ⟨_, rfl⟩
  replace t40 : OwnT DG wd7.heap.size 27 (goes (l.drop (half l.length)) (m - (half l.length)) false) x40 wd11 := by rw [← s40_11]; exact t40
  have hsx40_11 := t40.sl.wide (Nat.zero_le _) (.inl rfl)
  have hox40_11 := OwnT.base t40 hE_7.size'
  obtain ⟨x45, s45_11⟩ : ∃ x, get a11 45 = x := ⟨_, rfl⟩
  replace t45 : OwnT DG wd7.heap.size 27 ([root (l.take (half l.length))]) x45 wd11 := by rw [← s45_11]; exact t45
  have hsx45_11 := t45.sl.wide (Nat.zero_le _) (.inl rfl)
  have hox45_11 := OwnT.base t45 hE_7.size'
  clear hE_7 hN_7 hD_7 s0_7 s1_7 s2_7 s7_7 s21_7 hsx1_7
  refine tail_put rfl rfl hN_11 hD_11 (by decide) (does_append (T := DG) (base := w0.heap.size) (xs := goes (l.drop (half l.length)) (m - (half l.length)) false) (ys := [root (l.take (half l.length))]) (v := x40) app_41 s40_11 hox40_11 (SlT.at s45_11 hsx45_11) (by simp) (by simp only [List.length_take, List.length_drop, List.length_cons, List.length_nil] at *; omega) (by simp only [List.length_take, List.length_drop, List.length_cons, List.length_nil] at *; omega) hE_11.size' (fun x46 wd12 hX hox46_12 hk a12 hN_12 hD_12 hv hO => ?_))
  have hE_12 := hE_11.since hX (fun b hb => Nat.le_trans (Nat.le_refl _) (OwnT.block_lt hox40_11 hb).1)
  have hsx1_12 := SlT.overOwn hsx1_11 hox40_11 hX
  have hsx46_12 := hox46_12.sl.wide (Nat.zero_le _) (.inl rfl)
  have s46_12 := hv
  clear hO hv hX hk hN_11 hD_11 hE_11 hsx1_11 s40_11 s45_11
  refine tail_put rfl rfl hN_12 hD_12 (by decide) (does_assign (V := x46) s46_12 (fun a13 hN_13 hD_13 hv hO => ?_))
  have s6_13 := hv
  clear hO hv hN_12 hD_12 s46_12
  refine tail_nil ?_
  refine wp_ret ?_
  refine res_one (V := x46) rfl hD_13 s6_13 ?_
  have ho := hox46_12
  exact ⟨by show OwnT _ _ _ _ _ _; rw [goes_hi h2 hhi]; exact ho, hE_12⟩
theorem on_ (l : List Dg) (m : Nat) (whole : Bool) (x1 : Value) (w0 : World) (hL : Laid w0) (hx1 : SlT DG 0 0 l x1 w0) (h1 : 1 ≤ m) (hm : m ≤ l.length) (hn : l.length ≤ 100000) :
    Gives Tryd.prog 54 #[x1, i64 ((m : Nat) : Int), Value.bool (whole)] w0 (Pr.own' DG w0.heap.size 27 (goes l m whole)) := on__r _ l m whole x1 w0 hL hx1 h1 hm hn rfl

theorem on_I (l : List Dg) (m : Int) (x1 : Value) (w0 : World) (hL : Laid w0) (hx1 : SlT DG 0 0 l x1 w0) (h0 : 1 ≤ m ∧ m ≤ (l.length : Int)) (hn : l.length ≤ 100000) :
    Gives Tryd.prog 54 #[x1, i64 (m), Value.bool true] w0 (Pr.own' DG w0.heap.size 27 (goes l m.toNat true)) := by
  obtain ⟨k, rfl⟩ : ∃ k : Nat, m = k := ⟨m.toNat, by omega⟩
  exact on_ l k true x1 w0 hL hx1 (by omega) (by omega) hn

theorem proveOn_ (l : List Dg) (m : Int) (x1 : Value) (w0 : World) (hL : Laid w0) (hx1 : SlT DG 0 0 l x1 w0) (hn : l.length ≤ 100000) :
    Gives Tryd.prog 27 #[x1, i64 (m)] w0 (Pr.t2 (Pr.own' DG w0.heap.size 27 (proveOn l m).1) (Pr.ex (i64 (((proveOn l m).2 : Nat) : Int)))) := by
 refine enter (N := 17) Tryd.func27 rfl rfl ?_
 intro a0 hN_0 hD_0 hA
 have s0_0 : get a0 0 = x1 := hA 0 _ rfl
 have s1_0 : get a0 1 = i64 (m) := hA 1 _ rfl
 clear hA
 have hE_0 : Ext w0 w0 := Ext.refl w0
 have hsx1_0 := hx1.close
 refine wp_seq ?_
 refine region_lex [] [(4, Pr.ex (Value.slice none 0 0)), (5, Pr.ex (i64 ((0 : Nat) : Int)))] 2 hN_0 hD_0 (by kernel_rfl) (by kernel_rfl) ?_ ?_
 refine Asks.cons ?_ (Asks.cons ?_ (Asks.zero _))
 exact Ask.plain rfl rfl fun aq wq hNq hO hR hT => does_assign (V := Value.slice none 0 0) rfl ⟨Ext.refl _, rfl⟩
 exact Ask.plain rfl rfl fun aq wq hNq hO hR hT => does_assign (V := i64 ((0 : Nat) : Int)) rfl ⟨Ext.refl _, rfl⟩
 intro a1 wd1 hN_1 hD_1 hO hR hA hU
 obtain ⟨_, _, _⟩ := hA
 have hE_1 := hE_0.trans hR
 have s0_1 := (hO 0 rfl).trans s0_0
 have s1_1 := (hO 1 rfl).trans s1_0
 have hsx1_1 := hsx1_0.ext' hR
 clear hE_0 hN_0 hD_0 s0_0 s1_0 hsx1_0
 refine tail_nil ?_
 refine wp_seq ?_
 refine wp_seq ?_
 refine region_lex [] [(6, Pr.ex (i64 (m))), (7, Pr.ex (Value.bool (decide (m < ((1 : Nat) : Int))))), (8, Pr.ex (Value.bool (decide (m < ((1 : Nat) : Int))))), (9, Pr.ifb (!(decide (m < ((1 : Nat) : Int)))) (Pr.ex (i64 (m)))), (10, Pr.ifb (!(decide (m < ((1 : Nat) : Int)))) (Pr.ex (x1))), (11, Pr.ifb (!(decide (m < ((1 : Nat) : Int)))) (Pr.ex (i64 ((l.length : Nat) : Int)))), (12, Pr.ifb (!(decide (m < ((1 : Nat) : Int)))) (Pr.ex (Value.bool (decide (((l.length : Nat) : Int) < m))))), (13, Pr.ex (Value.bool ((decide (m < ((1 : Nat) : Int))) || (decide (((l.length : Nat) : Int) < m)))))] 8 hN_1 hD_1 (by kernel_rfl) (by kernel_rfl) ?_ ?_
 refine Asks.cons ?_ (Asks.cons ?_ (Asks.cons ?_ (Asks.cons ?_ (Asks.cons ?_ (Asks.cons ?_ (Asks.cons ?_ (Asks.cons ?_ (Asks.zero _))))))))
 exact Ask.plain rfl rfl fun aq wq hNq hO hR hT => does_move (V := i64 (m)) ((hO 1 rfl).trans s1_1) ⟨Ext.refl _, rfl⟩
 exact Ask.plain rfl rfl fun aq wq hNq hO hR hT => does_lss (a := m) (b := ((1 : Nat) : Int)) (hT 6 rfl rfl) rfl ⟨Ext.refl _, rfl⟩
 exact Ask.plain rfl rfl fun aq wq hNq hO hR hT => does_move (V := Value.bool (decide (m < ((1 : Nat) : Int)))) (hT 7 rfl rfl) ⟨Ext.refl _, rfl⟩
 refine Ask.guarded (B := decide (m < ((1 : Nat) : Int))) (want := false) (t := 8) rfl rfl rfl rfl (by decide) (fun aq wq hO hR hT => hT 8 rfl rfl) (fun hG aq wq hNq hO hR hT => ?_) (fun hno _ => fun hc => absurd (bn hc) hno)
 replace hG := nb hG
 exact does_move (V := i64 (m)) ((hO 1 rfl).trans s1_1) ⟨Ext.refl _, fun _ => rfl⟩
 refine Ask.guarded (B := decide (m < ((1 : Nat) : Int))) (want := false) (t := 8) rfl rfl rfl rfl (by decide) (fun aq wq hO hR hT => hT 8 rfl rfl) (fun hG aq wq hNq hO hR hT => ?_) (fun hno _ => fun hc => absurd (bn hc) hno)
 replace hG := nb hG
 exact does_move (V := x1) ((hO 0 rfl).trans s0_1) ⟨Ext.refl _, fun _ => rfl⟩
 refine Ask.guarded (B := decide (m < ((1 : Nat) : Int))) (want := false) (t := 8) rfl rfl rfl rfl (by decide) (fun aq wq hO hR hT => hT 8 rfl rfl) (fun hG aq wq hNq hO hR hT => ?_) (fun hno _ => fun hc => absurd (bn hc) hno)
 replace hG := nb hG
 exact does_len (T := DG) (xs := l) sli_41 (SlT.at (hT 10 rfl rfl hG) (hsx1_1.ext' hR)) ⟨Ext.refl _, fun _ => rfl⟩
 refine Ask.guarded (B := decide (m < ((1 : Nat) : Int))) (want := false) (t := 8) rfl rfl rfl rfl (by decide) (fun aq wq hO hR hT => hT 8 rfl rfl) (fun hG aq wq hNq hO hR hT => ?_) (fun hno _ => fun hc => absurd (bn hc) hno)
 replace hG := nb hG
 exact does_gtr (a := m) (b := ((l.length : Nat) : Int)) (hT 9 rfl rfl hG) (hT 11 rfl rfl hG) ⟨Ext.refl _, fun _ => rfl⟩
 exact Ask.plain rfl rfl fun aq wq hNq hO hR hT => does_or (B := decide (m < ((1 : Nat) : Int))) (X := decide (((l.length : Nat) : Int) < m)) (hT 8 rfl rfl) rfl (fun hB => (hT 12 rfl rfl (nb hB))) ⟨Ext.refl _, rfl⟩
 intro a2 wd2 hN_2 hD_2 hO hR hA hU
 obtain ⟨_, _, _, _, _, _, _, t13, _⟩ := hA
 have hE_2 := hE_1.trans hR
 have s0_2 := (hO 0 rfl).trans s0_1
 have s1_2 := (hO 1 rfl).trans s1_1
 have hsx1_2 := hsx1_1.ext' hR
 have s13_2 : get a2 13 = Value.bool ((decide (m < ((1 : Nat) : Int))) || (decide (((l.length : Nat) : Int) < m))) := t13
 clear hE_1 hN_1 hD_1 s0_1 s1_1 hsx1_1
 refine tail_nil ?_
 refine wp_if (B := (decide (m < ((1 : Nat) : Int))) || (decide (((l.length : Nat) : Int) < m))) s13_2 (fun hc0 => ?_) (fun hc0 => ?_)
 have hb : ¬ (1 ≤ m ∧ m ≤ (l.length : Int)) := by rintro ⟨h1, h2⟩; have e1 : decide (m < ((1 : Nat) : Int)) = false := decide_eq_false (by omega); have e2 : decide (((l.length : Nat) : Int) < m) = false := decide_eq_false (by omega); rw [e1, e2] at hc0; cases hc0
 refine wp_seq ?_
 refine region_lex [] [(4, Pr.ex (Value.slice none 0 0)), (5, Pr.ex (i64 ((1 : Nat) : Int)))] 2 hN_2 hD_2 (by kernel_rfl) (by kernel_rfl) ?_ ?_
 refine Asks.cons ?_ (Asks.cons ?_ (Asks.zero _))
 exact Ask.plain rfl rfl fun aq wq hNq hO hR hT => does_assign (V := Value.slice none 0 0) rfl ⟨Ext.refl _, rfl⟩
 exact Ask.plain rfl rfl fun aq wq hNq hO hR hT => does_assign (V := i64 ((1 : Nat) : Int)) rfl ⟨Ext.refl _, rfl⟩
 intro a3 wd3 hN_3 hD_3 hO hR hA hU
 obtain ⟨t4, t5, _⟩ := hA
 have hE_3 := hE_2.trans hR
 have hsx1_3 := hsx1_2.ext' hR
 have s4_3 : get a3 4 = Value.slice none 0 0 := t4
 have s5_3 : get a3 5 = i64 ((1 : Nat) : Int) := t5
 clear hE_2 hN_2 hD_2 s0_2 s1_2 s13_2 hsx1_2
 refine tail_nil ?_
 refine wp_ret ?_
 refine res_two (V1 := Value.slice none 0 0) (V2 := i64 ((1 : Nat) : Int)) rfl hD_3 s4_3 s5_3 ?_
 rw [proveOn_no hb]
 exact ⟨⟨_, _, rfl, OwnT.nil DG _ 27 _, rfl⟩, hE_3⟩
 have hb : 1 ≤ m ∧ m ≤ (l.length : Int) := by simpa using hc0
 refine wp_skip ?_
 refine wp_seq ?_
 refine region_lex [] [(14, Pr.ex (x1)), (15, Pr.ex (i64 (m))), (16, Pr.own' DG wd2.heap.size 27 (goes l (m).toNat true)), (4, Pr.own' DG wd2.heap.size 27 (goes l (m).toNat true)), (5, Pr.ex (i64 ((0 : Nat) : Int)))] 5 hN_2 hD_2 (by kernel_rfl) (by kernel_rfl) ?_ ?_
 refine Asks.cons ?_ (Asks.cons ?_ (Asks.cons ?_ (Asks.cons ?_ (Asks.cons ?_ (Asks.zero _)))))
 exact Ask.plain rfl rfl fun aq wq hNq hO hR hT => does_move (V := x1) ((hO 0 rfl).trans s0_2) ⟨Ext.refl _, rfl⟩
 exact Ask.plain rfl rfl fun aq wq hNq hO hR hT => does_move (V := i64 (m)) ((hO 1 rfl).trans s1_2) ⟨Ext.refl _, rfl⟩
 exact Ask.plain rfl rfl fun aq wq hNq hO hR hT => does_ret (vs := #[x1, i64 (m), Value.bool (true)]) call_54 (args3 (hT 14 rfl rfl) (hT 15 rfl rfl) rfl) rfl ((on_I (l) (m) (x1) wq (hL.ext (hE_2.trans hR)) ((hsx1_2.ext' hR).wide (Nat.zero_le _) (.inl rfl)) hb hn).mono fun v w2 h => ⟨h.2, OwnT.base h.1 hR.size'⟩)
 exact Ask.plain rfl rfl fun aq wq hNq hO hR hT => does_assign rfl ⟨Ext.refl _, (hT 16 rfl rfl)⟩
 exact Ask.plain rfl rfl fun aq wq hNq hO hR hT => does_assign (V := i64 ((0 : Nat) : Int)) rfl ⟨Ext.refl _, rfl⟩
 intro a4 wd4 hN_4 hD_4 hO hR hA hU
 obtain ⟨_, _, _, t4, t5, _⟩ := hA
 have hE_4 := hE_2.trans hR
 have hsx1_4 := hsx1_2.ext' hR
 obtain ⟨x4, s4_4⟩ : ∃ x, get a4 4 = x := ⟨_, rfl⟩
 replace t4 : OwnT DG wd2.heap.size 27 (goes l (m).toNat true) x4 wd4 := by rw [← s4_4]; exact t4
 have hsx4_4 := t4.sl.wide (Nat.zero_le _) (.inl rfl)
 have hox4_4 := OwnT.base t4 hE_2.size'
 have s5_4 : get a4 5 = i64 ((0 : Nat) : Int) := t5
 clear hE_2 hN_2 hD_2 s0_2 s1_2 s13_2 hsx1_2
 refine tail_nil ?_
 refine wp_ret ?_
 refine res_two (V1 := x4) (V2 := i64 ((0 : Nat) : Int)) rfl hD_4 s4_4 s5_4 ?_
 rw [proveOn_ok hb]
 exact ⟨⟨_, _, rfl, hox4_4, rfl⟩, hE_4⟩

end Go.Proofs.YtijfjpbahepegaaDoor
