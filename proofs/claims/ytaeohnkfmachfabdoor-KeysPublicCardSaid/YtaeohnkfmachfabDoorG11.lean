/- The walks of functions of the program: printed. -/
import Derived.Test.YtaeohnkfmachfabDoorG3
import Derived.Test.YtaeohnkfmachfabDoorG7
import Derived.Test.YtaeohnkfmachfabDoorF0
set_option maxRecDepth 100000
namespace Go.Proofs.YtaeohnkfmachfabDoor
open Go Go.RowKit Sk Sd
theorem way__r : ∀ (N : Nat) (l : List Dg) (i : Nat) (x1 : Value) (w0 : World) (hL : Laid w0) (hx1 : SlT DG 0 0 l x1 w0) (hi : i < l.length) (hn : l.length ≤ 100000) (hN : l.length = N),
    Gives Tryd.prog 54 #[x1, i64 ((i : Nat) : Int)] w0 (Pr.own' DG w0.heap.size 24 (way l i)) := by
 intro N
 induction N using Nat.strongRecOn with
 | _ N ih =>
  intro l i x1 w0 hL hx1 hi hn hN
  refine enter (N := 39) Tryd.func54 rfl rfl ?_
  intro a0 hN_0 hD_0 hA
  have s0_0 : get a0 0 = x1 := hA 0 _ rfl
  have s1_0 : get a0 1 = i64 ((i : Nat) : Int) := hA 1 _ rfl
  clear hA
  have hE_0 : Ext w0 w0 := Ext.refl w0
  have hsx1_0 := hx1.close
  refine wp_seq ?_
  refine region_lex [] [(4, Pr.ex (Value.slice none 0 0))] 1 hN_0 hD_0 (by kernel_rfl) (by kernel_rfl) ?_ ?_
  refine Asks.cons ?_ (Asks.zero _)
  exact Ask.plain rfl rfl fun aq wq hNq hO hR hT => does_assign (V := Value.slice none 0 0) rfl ⟨Ext.refl _, rfl⟩
  intro a1 wd1 hN_1 hD_1 hO hR hA hU
  obtain ⟨_, _⟩ := hA
  have hE_1 := hE_0.trans hR
  have s0_1 := (hO 0 rfl).trans s0_0
  have s1_1 := (hO 1 rfl).trans s1_0
  have hsx1_1 := hsx1_0.ext' hR
  clear hE_0 hN_0 hD_0 s0_0 s1_0 hsx1_0
  refine tail_nil ?_
  refine wp_seq ?_
  refine wp_seq ?_
  refine region_lex [] [(6, Pr.ex (x1)), (7, Pr.ex (i64 ((l.length : Nat) : Int))), (8, Pr.ex (Value.bool (decide (((l.length : Nat) : Int) = ((1 : Nat) : Int)))))] 3 hN_1 hD_1 (by kernel_rfl) (by kernel_rfl) ?_ ?_
  refine Asks.cons ?_ (Asks.cons ?_ (Asks.cons ?_ (Asks.zero _)))
  exact Ask.plain rfl rfl fun aq wq hNq hO hR hT => does_move (V := x1) ((hO 0 rfl).trans s0_1) ⟨Ext.refl _, rfl⟩
  exact Ask.plain rfl rfl fun aq wq hNq hO hR hT => does_len (T := DG) (xs := l) sli_34 (SlT.at (hT 6 rfl rfl) (hsx1_1.ext' hR)) ⟨Ext.refl _, rfl⟩
  exact Ask.plain rfl rfl fun aq wq hNq hO hR hT => does_eql (a := ((l.length : Nat) : Int)) (b := ((1 : Nat) : Int)) (hT 7 rfl rfl) rfl ⟨Ext.refl _, rfl⟩
  intro a2 wd2 hN_2 hD_2 hO hR hA hU
  obtain ⟨_, _, t8, _⟩ := hA
  have hE_2 := hE_1.trans hR
  have s0_2 := (hO 0 rfl).trans s0_1
  have s1_2 := (hO 1 rfl).trans s1_1
  have hsx1_2 := hsx1_1.ext' hR
  have s8_2 : get a2 8 = Value.bool (decide (((l.length : Nat) : Int) = ((1 : Nat) : Int))) := t8
  clear hE_1 hN_1 hD_1 s0_1 s1_1 hsx1_1
  refine tail_nil ?_
  refine wp_if (B := decide (((l.length : Nat) : Int) = ((1 : Nat) : Int))) s8_2 (fun hc0 => ?_) (fun hc0 => ?_)
  have hc0 := of_decide_eq_true hc0
  refine wp_seq ?_
  refine region_lex [] [(4, Pr.ex (Value.slice none 0 0))] 1 hN_2 hD_2 (by kernel_rfl) (by kernel_rfl) ?_ ?_
  refine Asks.cons ?_ (Asks.zero _)
  exact Ask.plain rfl rfl fun aq wq hNq hO hR hT => does_assign (V := Value.slice none 0 0) rfl ⟨Ext.refl _, rfl⟩
  intro a3 wd3 hN_3 hD_3 hO hR hA hU
  obtain ⟨t4, _⟩ := hA
  have hE_3 := hE_2.trans hR
  have hsx1_3 := hsx1_2.ext' hR
  have s4_3 : get a3 4 = Value.slice none 0 0 := t4
  clear hE_2 hN_2 hD_2 s0_2 s1_2 s8_2 hsx1_2
  refine tail_nil ?_
  refine wp_ret ?_
  refine res_one (V := Value.slice none 0 0) rfl hD_3 s4_3 ?_
  exact ⟨by show OwnT _ _ _ _ _ _; rw [way_one (by omega) i]; exact OwnT.nil DG _ 24 _, hE_3⟩
  have hc0 := of_decide_eq_false hc0
  have h2 : 2 ≤ l.length := by omega
  have hh := half_lt h2
  have hp := half_pos l.length
  refine wp_skip ?_
  refine wp_seq ?_
  refine region_lex [] [(9, Pr.ex (x1)), (10, Pr.ex (i64 ((l.length : Nat) : Int))), (11, Pr.ex (i64 ((half l.length : Nat) : Int))), (5, Pr.ex (i64 ((half l.length : Nat) : Int)))] 4 hN_2 hD_2 (by kernel_rfl) (by kernel_rfl) ?_ ?_
  refine Asks.cons ?_ (Asks.cons ?_ (Asks.cons ?_ (Asks.cons ?_ (Asks.zero _))))
  exact Ask.plain rfl rfl fun aq wq hNq hO hR hT => does_move (V := x1) ((hO 0 rfl).trans s0_2) ⟨Ext.refl _, rfl⟩
  exact Ask.plain rfl rfl fun aq wq hNq hO hR hT => does_len (T := DG) (xs := l) sli_34 (SlT.at (hT 9 rfl rfl) (hsx1_2.ext' hR)) ⟨Ext.refl _, rfl⟩
  exact Ask.plain rfl rfl fun aq wq hNq hO hR hT => does_ret (vs := #[i64 ((l.length : Nat) : Int)]) call_45 (args1 (hT 10 rfl rfl)) rfl ((half_ (l.length) wq (by omega) (by omega)).mono fun v w2 h => ⟨h.2, h.1⟩)
  exact Ask.plain rfl rfl fun aq wq hNq hO hR hT => does_assign (V := i64 ((half l.length : Nat) : Int)) (hT 11 rfl rfl) ⟨Ext.refl _, rfl⟩
  intro a4 wd4 hN_4 hD_4 hO hR hA hU
  obtain ⟨_, _, _, t5, _⟩ := hA
  have hE_4 := hE_2.trans hR
  have s0_4 := (hO 0 rfl).trans s0_2
  have s1_4 := (hO 1 rfl).trans s1_2
  have hsx1_4 := hsx1_2.ext' hR
  have s5_4 : get a4 5 = i64 ((half l.length : Nat) : Int) := t5
  clear hE_2 hN_2 hD_2 s0_2 s1_2 s8_2 hsx1_2
  refine tail_nil ?_
  refine wp_seq ?_
  refine wp_seq ?_
  refine region_lex [] [(12, Pr.ex (i64 ((i : Nat) : Int))), (13, Pr.ex (i64 ((half l.length : Nat) : Int))), (14, Pr.ex (Value.bool (decide (((i : Nat) : Int) < ((half l.length : Nat) : Int)))))] 3 hN_4 hD_4 (by kernel_rfl) (by kernel_rfl) ?_ ?_
  refine Asks.cons ?_ (Asks.cons ?_ (Asks.cons ?_ (Asks.zero _)))
  exact Ask.plain rfl rfl fun aq wq hNq hO hR hT => does_move (V := i64 ((i : Nat) : Int)) ((hO 1 rfl).trans s1_4) ⟨Ext.refl _, rfl⟩
  exact Ask.plain rfl rfl fun aq wq hNq hO hR hT => does_move (V := i64 ((half l.length : Nat) : Int)) ((hO 5 rfl).trans s5_4) ⟨Ext.refl _, rfl⟩
  exact Ask.plain rfl rfl fun aq wq hNq hO hR hT => does_lss (a := ((i : Nat) : Int)) (b := ((half l.length : Nat) : Int)) (hT 12 rfl rfl) (hT 13 rfl rfl) ⟨Ext.refl _, rfl⟩
  intro a5 wd5 hN_5 hD_5 hO hR hA hU
  obtain ⟨_, _, t14, _⟩ := hA
  have hE_5 := hE_4.trans hR
  have s0_5 := (hO 0 rfl).trans s0_4
  have s1_5 := (hO 1 rfl).trans s1_4
  have s5_5 := (hO 5 rfl).trans s5_4
  have hsx1_5 := hsx1_4.ext' hR
  have s14_5 : get a5 14 = Value.bool (decide (((i : Nat) : Int) < ((half l.length : Nat) : Int))) := t14
  clear hE_4 hN_4 hD_4 s0_4 s1_4 s5_4 hsx1_4
  refine tail_nil ?_
  refine wp_if (B := decide (((i : Nat) : Int) < ((half l.length : Nat) : Int))) s14_5 (fun hc1 => ?_) (fun hc1 => ?_)
  have hc1 := of_decide_eq_true hc1
  have hlt : i < half l.length := by omega
  have hw1 := way_le (l.take (half l.length)) i (by rw [List.length_take]; omega)
  refine wp_seq ?_
  refine region_any [] [(15, Pr.ex (x1)), (16, Pr.ex (i64 ((half l.length : Nat) : Int))), (17, Pr.sl' DG 0 (w0.heap.size + 1) (l.take (half l.length))), (18, Pr.ex (i64 ((i : Nat) : Int))), (19, Pr.own' DG wd5.heap.size 24 (way (l.take (half l.length)) i)), (20, Pr.ex (x1)), (21, Pr.ex (i64 ((half l.length : Nat) : Int))), (22, Pr.sl' DG 0 (w0.heap.size + 1) (l.drop (half l.length))), (23, Pr.ex (Dg.val (root (l.drop (half l.length))))), (24, Pr.own' DG wd5.heap.size 24 ([root (l.drop (half l.length))]))] 10 mixed hN_5 hD_5 (by kernel_rfl) (by kernel_rfl) (by kernel_rfl) ?_ ?_
  refine Asks.cons ?_ (Asks.cons ?_ (Asks.cons ?_ (Asks.cons ?_ (Asks.cons ?_ (Asks.cons ?_ (Asks.cons ?_ (Asks.cons ?_ (Asks.cons ?_ (Asks.cons ?_ (Asks.zero _))))))))))
  exact Ask.plainD rfl rfl fun aq wq hNq hO hR hT => does_move (V := x1) ((hO 0 rfl).trans s0_5) ⟨Ext.refl _, rfl⟩
  exact Ask.plainD rfl rfl fun aq wq hNq hO hR hT => does_move (V := i64 ((half l.length : Nat) : Int)) ((hO 5 rfl).trans s5_5) ⟨Ext.refl _, rfl⟩
  exact Ask.plainD rfl rfl fun aq wq hNq hO hR hT => does_sliceHi (T := DG) (xs := l) (k := ((half l.length : Nat) : Int)) sli_34 rfl (SlT.at (hT 15 rfl rfl) (hsx1_5.ext' hR)) (hT 16 rfl rfl) (by omega) (by omega) (fun v h => ⟨Ext.refl _, h⟩)
  exact Ask.plainD rfl rfl fun aq wq hNq hO hR hT => does_move (V := i64 ((i : Nat) : Int)) ((hO 1 rfl).trans s1_5) ⟨Ext.refl _, rfl⟩
  exact Ask.plainD rfl rfl fun aq wq hNq hO hR hT => does_ret (vs := #[get aq 17, i64 ((i : Nat) : Int)]) call_54 (args2 rfl (hT 18 rfl rfl)) rfl ((ih _ (by simp only [List.length_take, List.length_drop]; omega) (l.take (half l.length)) (i) (get aq 17) wq (hL.ext (hE_5.trans hR)) ((hT 17 rfl rfl).wide (Nat.zero_le _) (.inl rfl)) (by simp only [List.length_take, List.length_drop]; omega) (by simp only [List.length_take, List.length_drop]; omega) rfl).mono fun v w2 h => ⟨h.2, OwnT.base h.1 hR.size'⟩)
  exact Ask.plainD rfl rfl fun aq wq hNq hO hR hT => does_move (V := x1) ((hO 0 rfl).trans s0_5) ⟨Ext.refl _, rfl⟩
  exact Ask.plainD rfl rfl fun aq wq hNq hO hR hT => does_move (V := i64 ((half l.length : Nat) : Int)) ((hO 5 rfl).trans s5_5) ⟨Ext.refl _, rfl⟩
  exact Ask.plainD rfl rfl fun aq wq hNq hO hR hT => does_sliceLo (T := DG) (xs := l) (k := ((half l.length : Nat) : Int)) sli_34 rfl (SlT.at (hT 20 rfl rfl) (hsx1_5.ext' hR)) (hT 21 rfl rfl) (by omega) (by omega) (fun v h => ⟨Ext.refl _, h⟩)
  exact Ask.plainD rfl rfl fun aq wq hNq hO hR hT => does_ret (vs := #[get aq 22]) call_23 (args1 rfl) rfl ((root_ (l.drop (half l.length)) (get aq 22) wq (hL.ext (hE_5.trans hR)) ((hT 22 rfl rfl).wide (Nat.zero_le _) (.inl rfl)) (by simp only [List.length_take, List.length_drop]; omega)).mono fun v w2 h => ⟨h.2, h.1⟩)
  exact Ask.plainD rfl rfl fun aq wq hNq hO hR hT => does_slice1 (T := DG) (X := root (l.drop (half l.length))) (V := Dg.val (root (l.drop (half l.length)))) app_34 rfl (by decide) (hT 23 rfl rfl) rfl (fun v w2 he _ ho => ⟨he, OwnT.base ho hR.size'⟩)
  intro a6 wd6 hN_6 hD_6 hO hR hA hU
  obtain ⟨_, _, _, _, t19, _, _, _, _, t24, _⟩ := hA
  have hE_6 := hE_5.trans hR
  have hsx1_6 := hsx1_5.ext' hR
  obtain ⟨x19, s19_6⟩ : ∃ x, get a6 19 = x := ⟨_, rfl⟩
  replace t19 : OwnT DG wd5.heap.size 24 (way (l.take (half l.length)) i) x19 wd6 := by rw [← s19_6]; exact t19
  have hsx19_6 := t19.sl.wide (Nat.zero_le _) (.inl rfl)
  have hox19_6 := OwnT.base t19 hE_5.size'
  obtain ⟨x24, s24_6⟩ : ∃ x, get a6 24 = x := ⟨_, rfl⟩
  replace t24 : OwnT DG wd5.heap.size 24 ([root (l.drop (half l.length))]) x24 wd6 := by rw [← s24_6]; exact t24
  have hsx24_6 := t24.sl.wide (Nat.zero_le _) (.inl rfl)
  have hox24_6 := OwnT.base t24 hE_5.size'
  clear hE_5 hN_5 hD_5 s0_5 s1_5 s5_5 s14_5 hsx1_5
  refine tail_put rfl rfl hN_6 hD_6 (by decide) (does_append (T := DG) (base := w0.heap.size) (xs := way (l.take (half l.length)) i) (ys := [root (l.drop (half l.length))]) (v := x19) app_34 s19_6 hox19_6 (SlT.at s24_6 hsx24_6) (by simp) (by simp only [List.length_take, List.length_drop, List.length_cons, List.length_nil] at *; omega) (by simp only [List.length_take, List.length_drop, List.length_cons, List.length_nil] at *; omega) hE_6.size' (fun x25 wd7 hX hox25_7 hk a7 hN_7 hD_7 hv hO => ?_))
  have hE_7 := hE_6.since hX (fun b hb => Nat.le_trans (Nat.le_refl _) (OwnT.block_lt hox19_6 hb).1)
  have hsx1_7 := SlT.overOwn hsx1_6 hox19_6 hX
  have hsx25_7 := hox25_7.sl.wide (Nat.zero_le _) (.inl rfl)
  have s25_7 := hv
  clear hO hv hX hk hN_6 hD_6 hE_6 hsx1_6 s19_6 s24_6
  refine tail_put rfl rfl hN_7 hD_7 (by decide) (does_assign (V := x25) s25_7 (fun a8 hN_8 hD_8 hv hO => ?_))
  have s4_8 := hv
  clear hO hv hN_7 hD_7 s25_7
  refine tail_nil ?_
  refine wp_ret ?_
  refine res_one (V := x25) rfl hD_8 s4_8 ?_
  have ho := hox25_7
  exact ⟨by show OwnT _ _ _ _ _ _; rw [way_lo h2 hlt]; exact ho, hE_7⟩
  have hc1 := of_decide_eq_false hc1
  have hge : ¬ i < half l.length := by omega
  have hw1 := way_le (l.drop (half l.length)) (i - half l.length) (by rw [List.length_drop]; omega)
  refine wp_skip ?_
  refine wp_seq ?_
  refine region_any [] [(26, Pr.ex (x1)), (27, Pr.ex (i64 ((half l.length : Nat) : Int))), (28, Pr.sl' DG 0 (w0.heap.size + 1) (l.drop (half l.length))), (29, Pr.ex (i64 ((i : Nat) : Int))), (30, Pr.ex (i64 ((half l.length : Nat) : Int))), (31, Pr.ex (i64 ((i - (half l.length) : Nat) : Int))), (32, Pr.own' DG wd5.heap.size 24 (way (l.drop (half l.length)) (i - (half l.length)))), (33, Pr.ex (x1)), (34, Pr.ex (i64 ((half l.length : Nat) : Int))), (35, Pr.sl' DG 0 (w0.heap.size + 1) (l.take (half l.length))), (36, Pr.ex (Dg.val (root (l.take (half l.length))))), (37, Pr.own' DG wd5.heap.size 24 ([root (l.take (half l.length))]))] 12 mixed hN_5 hD_5 (by kernel_rfl) (by kernel_rfl) (by kernel_rfl) ?_ ?_
  refine Asks.cons ?_ (Asks.cons ?_ (Asks.cons ?_ (Asks.cons ?_ (Asks.cons ?_ (Asks.cons ?_ (Asks.cons ?_ (Asks.cons ?_ (Asks.cons ?_ (Asks.cons ?_ (Asks.cons ?_ (Asks.cons ?_ (Asks.zero _))))))))))))
  exact Ask.plainD rfl rfl fun aq wq hNq hO hR hT => does_move (V := x1) ((hO 0 rfl).trans s0_5) ⟨Ext.refl _, rfl⟩
  exact Ask.plainD rfl rfl fun aq wq hNq hO hR hT => does_move (V := i64 ((half l.length : Nat) : Int)) ((hO 5 rfl).trans s5_5) ⟨Ext.refl _, rfl⟩
  exact Ask.plainD rfl rfl fun aq wq hNq hO hR hT => does_sliceLo (T := DG) (xs := l) (k := ((half l.length : Nat) : Int)) sli_34 rfl (SlT.at (hT 26 rfl rfl) (hsx1_5.ext' hR)) (hT 27 rfl rfl) (by omega) (by omega) (fun v h => ⟨Ext.refl _, h⟩)
  exact Ask.plainD rfl rfl fun aq wq hNq hO hR hT => does_move (V := i64 ((i : Nat) : Int)) ((hO 1 rfl).trans s1_5) ⟨Ext.refl _, rfl⟩
  exact Ask.plainD rfl rfl fun aq wq hNq hO hR hT => does_move (V := i64 ((half l.length : Nat) : Int)) ((hO 5 rfl).trans s5_5) ⟨Ext.refl _, rfl⟩
  exact Ask.plainD rfl rfl fun aq wq hNq hO hR hT => does_sub (a := ((i : Nat) : Int)) (b := ((half l.length : Nat) : Int)) (r := ((i - (half l.length) : Nat) : Int)) (hT 29 rfl rfl) (hT 30 rfl rfl) (by omega) (by omega) (by omega) ⟨Ext.refl _, rfl⟩
  exact Ask.plainD rfl rfl fun aq wq hNq hO hR hT => does_ret (vs := #[get aq 28, i64 ((i - (half l.length) : Nat) : Int)]) call_54 (args2 rfl (hT 31 rfl rfl)) rfl ((ih _ (by simp only [List.length_take, List.length_drop]; omega) (l.drop (half l.length)) (i - (half l.length)) (get aq 28) wq (hL.ext (hE_5.trans hR)) ((hT 28 rfl rfl).wide (Nat.zero_le _) (.inl rfl)) (by simp only [List.length_take, List.length_drop]; omega) (by simp only [List.length_take, List.length_drop]; omega) rfl).mono fun v w2 h => ⟨h.2, OwnT.base h.1 hR.size'⟩)
  exact Ask.plainD rfl rfl fun aq wq hNq hO hR hT => does_move (V := x1) ((hO 0 rfl).trans s0_5) ⟨Ext.refl _, rfl⟩
  exact Ask.plainD rfl rfl fun aq wq hNq hO hR hT => does_move (V := i64 ((half l.length : Nat) : Int)) ((hO 5 rfl).trans s5_5) ⟨Ext.refl _, rfl⟩
  exact Ask.plainD rfl rfl fun aq wq hNq hO hR hT => does_sliceHi (T := DG) (xs := l) (k := ((half l.length : Nat) : Int)) sli_34 rfl (SlT.at (hT 33 rfl rfl) (hsx1_5.ext' hR)) (hT 34 rfl rfl) (by omega) (by omega) (fun v h => ⟨Ext.refl _, h⟩)
  exact Ask.plainD rfl rfl fun aq wq hNq hO hR hT => does_ret (vs := #[get aq 35]) call_23 (args1 rfl) rfl ((root_ (l.take (half l.length)) (get aq 35) wq (hL.ext (hE_5.trans hR)) ((hT 35 rfl rfl).wide (Nat.zero_le _) (.inl rfl)) (by simp only [List.length_take, List.length_drop]; omega)).mono fun v w2 h => ⟨h.2, h.1⟩)
  exact Ask.plainD rfl rfl fun aq wq hNq hO hR hT => does_slice1 (T := DG) (X := root (l.take (half l.length))) (V := Dg.val (root (l.take (half l.length)))) app_34 rfl (by decide) (hT 36 rfl rfl) rfl (fun v w2 he _ ho => ⟨he, OwnT.base ho hR.size'⟩)
  intro a9 wd9 hN_9 hD_9 hO hR hA hU
  obtain ⟨_, _, _, _, _, _, t32, _, _, _, _, t37, _⟩ := hA
  have hE_9 := hE_5.trans hR
  have hsx1_9 := hsx1_5.ext' hR
  obtain ⟨x32, s32_9⟩ : ∃ x, get a9 32 = x := ⟨_, rfl⟩
  replace t32 : OwnT DG wd5.heap.size 24 (way (l.drop (half l.length)) (i - (half l.length))) x32 wd9 := by rw [← s32_9]; exact t32
  have hsx32_9 := t32.sl.wide (Nat.zero_le _) (.inl rfl)
  have hox32_9 := OwnT.base t32 hE_5.size'
  obtain ⟨x37, s37_9⟩ : ∃ x, get a9 37 = x := ⟨_, rfl⟩
  replace t37 : OwnT DG wd5.heap.size 24 ([root (l.take (half l.length))]) x37 wd9 := by rw [← s37_9]; exact t37
  have hsx37_9 := t37.sl.wide (Nat.zero_le _) (.inl rfl)
  have hox37_9 := OwnT.base t37 hE_5.size'
  clear hE_5 hN_5 hD_5 s0_5 s1_5 s5_5 s14_5 hsx1_5
  refine tail_put rfl rfl hN_9 hD_9 (by decide) (does_append (T := DG) (base := w0.heap.size) (xs := way (l.drop (half l.length)) (i - (half l.length))) (ys := [root (l.take (half l.length))]) (v := x32) app_34 s32_9 hox32_9 (SlT.at s37_9 hsx37_9) (by simp) (by simp only [List.length_take, List.length_drop, List.length_cons, List.length_nil] at *; omega) (by simp only [List.length_take, List.length_drop, List.length_cons, List.length_nil] at *; omega) hE_9.size' (fun x38 wd10 hX hox38_10 hk a10 hN_10 hD_10 hv hO => ?_))
  have hE_10 := hE_9.since hX (fun b hb => Nat.le_trans (Nat.le_refl _) (OwnT.block_lt hox32_9 hb).1)
  have hsx1_10 := SlT.overOwn hsx1_9 hox32_9 hX
  have hsx38_10 := hox38_10.sl.wide (Nat.zero_le _) (.inl rfl)
  have s38_10 := hv
  clear hO hv hX hk hN_9 hD_9 hE_9 hsx1_9 s32_9 s37_9
  refine tail_put rfl rfl hN_10 hD_10 (by decide) (does_assign (V := x38) s38_10 (fun a11 hN_11 hD_11 hv hO => ?_))
  have s4_11 := hv
  clear hO hv hN_10 hD_10 s38_10
  refine tail_nil ?_
  refine wp_ret ?_
  refine res_one (V := x38) rfl hD_11 s4_11 ?_
  have ho := hox38_10
  exact ⟨by show OwnT _ _ _ _ _ _; rw [way_hi h2 hge]; exact ho, hE_10⟩
theorem way_ (l : List Dg) (i : Nat) (x1 : Value) (w0 : World) (hL : Laid w0) (hx1 : SlT DG 0 0 l x1 w0) (hi : i < l.length) (hn : l.length ≤ 100000) :
    Gives Tryd.prog 54 #[x1, i64 ((i : Nat) : Int)] w0 (Pr.own' DG w0.heap.size 24 (way l i)) := way__r _ l i x1 w0 hL hx1 hi hn rfl

theorem way_I (l : List Dg) (i : Int) (x1 : Value) (w0 : World) (hL : Laid w0) (hx1 : SlT DG 0 0 l x1 w0) (h0 : 0 ≤ i ∧ i < (l.length : Int)) (hn : l.length ≤ 100000) :
    Gives Tryd.prog 54 #[x1, i64 (i)] w0 (Pr.own' DG w0.heap.size 24 (way l i.toNat)) := by
  obtain ⟨k, rfl⟩ : ∃ k : Nat, i = k := ⟨i.toNat, by omega⟩
  exact way_ l k x1 w0 hL hx1 (by omega) hn

theorem prove_ (l : List Dg) (i : Int) (x1 : Value) (w0 : World) (hL : Laid w0) (hx1 : SlT DG 0 0 l x1 w0) (hn : l.length ≤ 100000) :
    Gives Tryd.prog 37 #[x1, i64 (i)] w0 (Pr.t2 (Pr.own' DG w0.heap.size 24 (prove l i).1) (Pr.ex (i64 (((prove l i).2 : Nat) : Int)))) := by
 refine enter (N := 17) Tryd.func37 rfl rfl ?_
 intro a0 hN_0 hD_0 hA
 have s0_0 : get a0 0 = x1 := hA 0 _ rfl
 have s1_0 : get a0 1 = i64 (i) := hA 1 _ rfl
 clear hA
 have hE_0 : Ext w0 w0 := Ext.refl w0
 have hsx1_0 := hx1.close
 refine wp_seq ?_
 refine region_lex [] [(4, Pr.ex (Value.slice none 0 0)), (5, Pr.ex (i64 ((0 : Nat) : Int)))] 2 hN_0 hD_0 (by kernel_rfl) (by kernel_rfl) ?_ ?_
 refine Asks.cons ?_ (Asks.cons ?_ (Asks.zero _))
 exact Ask.plain rfl rfl fun aq wq hNq hO hR hT => does_assign (V := Value.slice none 0 0) rfl ⟨Ext.refl _, rfl⟩
 exact Ask.plain rfl rfl fun aq wq hNq hO hR hT => does_assign (V := i64 ((0 : Nat) : Int)) rfl ⟨Ext.refl _, rfl⟩
 intro a1 wd1 hN_1 hD_1 hO hR hA hU
 obtain ⟨_, _, _⟩ := hA
 have hE_1 := hE_0.trans hR
 have s0_1 := (hO 0 rfl).trans s0_0
 have s1_1 := (hO 1 rfl).trans s1_0
 have hsx1_1 := hsx1_0.ext' hR
 clear hE_0 hN_0 hD_0 s0_0 s1_0 hsx1_0
 refine tail_nil ?_
 refine wp_seq ?_
 refine wp_seq ?_
 refine region_lex [] [(6, Pr.ex (i64 (i))), (7, Pr.ex (Value.bool (decide (i < ((0 : Nat) : Int))))), (8, Pr.ex (Value.bool (decide (i < ((0 : Nat) : Int))))), (9, Pr.ifb (!(decide (i < ((0 : Nat) : Int)))) (Pr.ex (i64 (i)))), (10, Pr.ifb (!(decide (i < ((0 : Nat) : Int)))) (Pr.ex (x1))), (11, Pr.ifb (!(decide (i < ((0 : Nat) : Int)))) (Pr.ex (i64 ((l.length : Nat) : Int)))), (12, Pr.ifb (!(decide (i < ((0 : Nat) : Int)))) (Pr.ex (Value.bool (decide (((l.length : Nat) : Int) ≤ i))))), (13, Pr.ex (Value.bool ((decide (i < ((0 : Nat) : Int))) || (decide (((l.length : Nat) : Int) ≤ i)))))] 8 hN_1 hD_1 (by kernel_rfl) (by kernel_rfl) ?_ ?_
 refine Asks.cons ?_ (Asks.cons ?_ (Asks.cons ?_ (Asks.cons ?_ (Asks.cons ?_ (Asks.cons ?_ (Asks.cons ?_ (Asks.cons ?_ (Asks.zero _))))))))
 exact Ask.plain rfl rfl fun aq wq hNq hO hR hT => does_move (V := i64 (i)) ((hO 1 rfl).trans s1_1) ⟨Ext.refl _, rfl⟩
 exact Ask.plain rfl rfl fun aq wq hNq hO hR hT => does_lss (a := i) (b := ((0 : Nat) : Int)) (hT 6 rfl rfl) rfl ⟨Ext.refl _, rfl⟩
 exact Ask.plain rfl rfl fun aq wq hNq hO hR hT => does_move (V := Value.bool (decide (i < ((0 : Nat) : Int)))) (hT 7 rfl rfl) ⟨Ext.refl _, rfl⟩
 refine Ask.guarded (B := decide (i < ((0 : Nat) : Int))) (want := false) (t := 8) rfl rfl rfl rfl (by decide) (fun aq wq hO hR hT => hT 8 rfl rfl) (fun hG aq wq hNq hO hR hT => ?_) (fun hno _ => fun hc => absurd (bn hc) hno)
 replace hG := nb hG
 exact does_move (V := i64 (i)) ((hO 1 rfl).trans s1_1) ⟨Ext.refl _, fun _ => rfl⟩
 refine Ask.guarded (B := decide (i < ((0 : Nat) : Int))) (want := false) (t := 8) rfl rfl rfl rfl (by decide) (fun aq wq hO hR hT => hT 8 rfl rfl) (fun hG aq wq hNq hO hR hT => ?_) (fun hno _ => fun hc => absurd (bn hc) hno)
 replace hG := nb hG
 exact does_move (V := x1) ((hO 0 rfl).trans s0_1) ⟨Ext.refl _, fun _ => rfl⟩
 refine Ask.guarded (B := decide (i < ((0 : Nat) : Int))) (want := false) (t := 8) rfl rfl rfl rfl (by decide) (fun aq wq hO hR hT => hT 8 rfl rfl) (fun hG aq wq hNq hO hR hT => ?_) (fun hno _ => fun hc => absurd (bn hc) hno)
 replace hG := nb hG
 exact does_len (T := DG) (xs := l) sli_34 (SlT.at (hT 10 rfl rfl hG) (hsx1_1.ext' hR)) ⟨Ext.refl _, fun _ => rfl⟩
 refine Ask.guarded (B := decide (i < ((0 : Nat) : Int))) (want := false) (t := 8) rfl rfl rfl rfl (by decide) (fun aq wq hO hR hT => hT 8 rfl rfl) (fun hG aq wq hNq hO hR hT => ?_) (fun hno _ => fun hc => absurd (bn hc) hno)
 replace hG := nb hG
 exact does_geq (a := i) (b := ((l.length : Nat) : Int)) (hT 9 rfl rfl hG) (hT 11 rfl rfl hG) ⟨Ext.refl _, fun _ => rfl⟩
 exact Ask.plain rfl rfl fun aq wq hNq hO hR hT => does_or (B := decide (i < ((0 : Nat) : Int))) (X := decide (((l.length : Nat) : Int) ≤ i)) (hT 8 rfl rfl) rfl (fun hB => (hT 12 rfl rfl (nb hB))) ⟨Ext.refl _, rfl⟩
 intro a2 wd2 hN_2 hD_2 hO hR hA hU
 obtain ⟨_, _, _, _, _, _, _, t13, _⟩ := hA
 have hE_2 := hE_1.trans hR
 have s0_2 := (hO 0 rfl).trans s0_1
 have s1_2 := (hO 1 rfl).trans s1_1
 have hsx1_2 := hsx1_1.ext' hR
 have s13_2 : get a2 13 = Value.bool ((decide (i < ((0 : Nat) : Int))) || (decide (((l.length : Nat) : Int) ≤ i))) := t13
 clear hE_1 hN_1 hD_1 s0_1 s1_1 hsx1_1
 refine tail_nil ?_
 refine wp_if (B := (decide (i < ((0 : Nat) : Int))) || (decide (((l.length : Nat) : Int) ≤ i))) s13_2 (fun hc0 => ?_) (fun hc0 => ?_)
 have hb : ¬ (0 ≤ i ∧ i < (l.length : Int)) := by rintro ⟨h1, h2⟩; have e1 : decide (i < ((0 : Nat) : Int)) = false := decide_eq_false (by omega); have e2 : decide (((l.length : Nat) : Int) ≤ i) = false := decide_eq_false (by omega); rw [e1, e2] at hc0; cases hc0
 refine wp_seq ?_
 refine region_lex [] [(4, Pr.ex (Value.slice none 0 0)), (5, Pr.ex (i64 ((1 : Nat) : Int)))] 2 hN_2 hD_2 (by kernel_rfl) (by kernel_rfl) ?_ ?_
 refine Asks.cons ?_ (Asks.cons ?_ (Asks.zero _))
 exact Ask.plain rfl rfl fun aq wq hNq hO hR hT => does_assign (V := Value.slice none 0 0) rfl ⟨Ext.refl _, rfl⟩
 exact Ask.plain rfl rfl fun aq wq hNq hO hR hT => does_assign (V := i64 ((1 : Nat) : Int)) rfl ⟨Ext.refl _, rfl⟩
 intro a3 wd3 hN_3 hD_3 hO hR hA hU
 obtain ⟨t4, t5, _⟩ := hA
 have hE_3 := hE_2.trans hR
 have hsx1_3 := hsx1_2.ext' hR
 have s4_3 : get a3 4 = Value.slice none 0 0 := t4
 have s5_3 : get a3 5 = i64 ((1 : Nat) : Int) := t5
 clear hE_2 hN_2 hD_2 s0_2 s1_2 s13_2 hsx1_2
 refine tail_nil ?_
 refine wp_ret ?_
 refine res_two (V1 := Value.slice none 0 0) (V2 := i64 ((1 : Nat) : Int)) rfl hD_3 s4_3 s5_3 ?_
 rw [prove_no hb]
 exact ⟨⟨_, _, rfl, OwnT.nil DG _ 24 _, rfl⟩, hE_3⟩
 have hb : 0 ≤ i ∧ i < (l.length : Int) := by simpa using hc0
 refine wp_skip ?_
 refine wp_seq ?_
 refine region_lex [] [(14, Pr.ex (x1)), (15, Pr.ex (i64 (i))), (16, Pr.own' DG wd2.heap.size 24 (way l (i).toNat)), (4, Pr.own' DG wd2.heap.size 24 (way l (i).toNat)), (5, Pr.ex (i64 ((0 : Nat) : Int)))] 5 hN_2 hD_2 (by kernel_rfl) (by kernel_rfl) ?_ ?_
 refine Asks.cons ?_ (Asks.cons ?_ (Asks.cons ?_ (Asks.cons ?_ (Asks.cons ?_ (Asks.zero _)))))
 exact Ask.plain rfl rfl fun aq wq hNq hO hR hT => does_move (V := x1) ((hO 0 rfl).trans s0_2) ⟨Ext.refl _, rfl⟩
 exact Ask.plain rfl rfl fun aq wq hNq hO hR hT => does_move (V := i64 (i)) ((hO 1 rfl).trans s1_2) ⟨Ext.refl _, rfl⟩
 exact Ask.plain rfl rfl fun aq wq hNq hO hR hT => does_ret (vs := #[x1, i64 (i)]) call_54 (args2 (hT 14 rfl rfl) (hT 15 rfl rfl)) rfl ((way_I (l) (i) (x1) wq (hL.ext (hE_2.trans hR)) ((hsx1_2.ext' hR).wide (Nat.zero_le _) (.inl rfl)) hb hn).mono fun v w2 h => ⟨h.2, OwnT.base h.1 hR.size'⟩)
 exact Ask.plain rfl rfl fun aq wq hNq hO hR hT => does_assign rfl ⟨Ext.refl _, (hT 16 rfl rfl)⟩
 exact Ask.plain rfl rfl fun aq wq hNq hO hR hT => does_assign (V := i64 ((0 : Nat) : Int)) rfl ⟨Ext.refl _, rfl⟩
 intro a4 wd4 hN_4 hD_4 hO hR hA hU
 obtain ⟨_, _, _, t4, t5, _⟩ := hA
 have hE_4 := hE_2.trans hR
 have hsx1_4 := hsx1_2.ext' hR
 obtain ⟨x4, s4_4⟩ : ∃ x, get a4 4 = x := ⟨_, rfl⟩
 replace t4 : OwnT DG wd2.heap.size 24 (way l (i).toNat) x4 wd4 := by rw [← s4_4]; exact t4
 have hsx4_4 := t4.sl.wide (Nat.zero_le _) (.inl rfl)
 have hox4_4 := OwnT.base t4 hE_2.size'
 have s5_4 : get a4 5 = i64 ((0 : Nat) : Int) := t5
 clear hE_2 hN_2 hD_2 s0_2 s1_2 s13_2 hsx1_2
 refine tail_nil ?_
 refine wp_ret ?_
 refine res_two (V1 := x4) (V2 := i64 ((0 : Nat) : Int)) rfl hD_4 s4_4 s5_4 ?_
 rw [prove_ok hb]
 exact ⟨⟨_, _, rfl, hox4_4, rfl⟩, hE_4⟩

end Go.Proofs.YtaeohnkfmachfabDoor
