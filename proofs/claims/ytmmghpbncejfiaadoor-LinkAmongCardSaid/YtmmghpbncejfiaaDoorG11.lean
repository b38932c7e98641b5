/- The walks of functions of the program: printed. -/
import Derived.Test.YtmmghpbncejfiaaDoorG3
import Derived.Test.YtmmghpbncejfiaaDoorG7
import Derived.Test.YtmmghpbncejfiaaDoorF0
set_option maxRecDepth 100000
namespace Go.Proofs.YtmmghpbncejfiaaDoor
open Go Go.RowKit Sk Sd
theorem way__r : ∀ (N : Nat) (l : List Dg) (i : Nat) (x1 : Value) (w0 : World) (hL : Laid w0) (hx1 : SlT DG 0 0 l x1 w0) (hi : i < l.length) (hn : l.length ≤ 100000) (hN : l.length = N),
    Gives Tryd.prog 80 #[x1, i64 (i : Int)] w0 (Pr.own' DG w0.heap.size 24 (way l i)) := by
 intro N
 induction N using Nat.strongRecOn with
 | _ N ih =>
  intro l i x1 w0 hL hx1 hi hn hN
  refine enter (N := 39) Tryd.func80 rfl rfl ?_
  intro a0 N0 D0 hA
  have s0_0 : get a0 0 = x1 := hA 0 _ rfl
  have s1_0 : get a0 1 = i64 (i : Int) := hA 1 _ rfl
  clear hA
  have E0 : Ext w0 w0 := Ext.refl w0
  have X1_0 := hx1.close
  refine wp_seq ?_
  refine Rl [] [(4, Pr.ex (Value.slice none 0 0))] 1 N0 D0 ?_ ?_
  refine Ac ?_ (Az _)
  exact Ap fun aq wq _ hO hR hT => does_assign (V := Value.slice none 0 0) rfl eR
  intro a1 wd1 N1 D1 hO hR hA hU
  obtain ⟨_, _⟩ := hA
  have E1 := E0.trans hR
  have s0_1 := oT hO s0_0 rfl
  have s1_1 := oT hO s1_0 rfl
  have X1_1 := X1_0.ext' hR
  clear E0 N0 D0 s0_0 s1_0 X1_0
  refine tail_nil ?_
  refine wp_seq ?_
  refine wp_seq ?_
  refine Rl [] [(6, Pr.ex (x1)), (7, Pr.ex (i64 (l.length : Int))), (8, Pr.ex (Value.bool (decide ((l.length : Int) = ((1 : Nat) : Int)))))] 3 N1 D1 ?_ ?_
  refine Ac ?_ (Ac ?_ (Ac ?_ (Az _)))
  exact Am s0_1 rfl fun _ => rfl
  exact Ap fun aq wq _ hO hR hT => does_len (T := DG) (xs := l) sli_27 (SlT.at (hT 6 rfl rfl) (X1_1.ext' hR)) eR
  exact Ap fun aq wq _ hO hR hT => does_eql (a := (l.length : Int)) (b := ((1 : Nat) : Int)) (hT 7 rfl rfl) rfl eR
  intro a2 wd2 N2 D2 hO hR hA hU
  obtain ⟨_, _, t8, _⟩ := hA
  have E2 := E1.trans hR
  have s0_2 := oT hO s0_1 rfl
  have s1_2 := oT hO s1_1 rfl
  have X1_2 := X1_1.ext' hR
  have s8_2 : get a2 8 = Value.bool (decide ((l.length : Int) = ((1 : Nat) : Int))) := t8
  clear E1 N1 D1 s0_1 s1_1 X1_1
  refine tail_nil ?_
  refine wp_if (B := decide ((l.length : Int) = ((1 : Nat) : Int))) s8_2 (fun hc0 => ?_) (fun hc0 => ?_)
  have hc0 := of_decide_eq_true hc0
  refine wp_seq ?_
  refine Rl [] [(4, Pr.ex (Value.slice none 0 0))] 1 N2 D2 ?_ ?_
  refine Ac ?_ (Az _)
  exact Ap fun aq wq _ hO hR hT => does_assign (V := Value.slice none 0 0) rfl eR
  intro a3 wd3 N3 D3 hO hR hA hU
  obtain ⟨t4, _⟩ := hA
  have E3 := E2.trans hR
  have X1_3 := X1_2.ext' hR
  have s4_3 : get a3 4 = Value.slice none 0 0 := t4
  clear E2 N2 D2 s0_2 s1_2 s8_2 X1_2
  refine tail_nil ?_
  refine wp_ret ?_
  refine res_one (V := Value.slice none 0 0) rfl D3 s4_3 ?_
  exact ⟨by show OwnT _ _ _ _ _ _; rw [way_one (by omega) i]; exact OwnT.nil DG _ 24 _, E3⟩
  have hc0 := of_decide_eq_false hc0
  have h2 : 2 ≤ l.length := by omega
  have hh := half_lt h2
  have hp := half_pos l.length
  refine wp_skip ?_
  refine wp_seq ?_
  refine Rl [] [(9, Pr.ex (x1)), (10, Pr.ex (i64 (l.length : Int))), (11, Pr.ex (i64 ((half l.length : Nat) : Int))), (5, Pr.ex (i64 ((half l.length : Nat) : Int)))] 4 N2 D2 ?_ ?_
  refine Ac ?_ (Ac ?_ (Ac ?_ (Ac ?_ (Az _))))
  exact Am s0_2 rfl fun _ => rfl
  exact Ap fun aq wq _ hO hR hT => does_len (T := DG) (xs := l) sli_27 (SlT.at (hT 9 rfl rfl) (X1_2.ext' hR)) eR
  exact Ap fun aq wq _ hO hR hT => does_ret (vs := #[i64 (l.length : Int)]) call_50 (args1 (hT 10 rfl rfl)) rfl ((half_ (l.length) wq (by omega) (by omega)).mono fun v w2 h => ⟨h.2, h.1⟩)
  exact Ap fun aq wq _ hO hR hT => does_assign (V := i64 ((half l.length : Nat) : Int)) (hT 11 rfl rfl) eR
  intro a4 wd4 N4 D4 hO hR hA hU
  obtain ⟨_, _, _, t5, _⟩ := hA
  have E4 := E2.trans hR
  have s0_4 := oT hO s0_2 rfl
  have s1_4 := oT hO s1_2 rfl
  have X1_4 := X1_2.ext' hR
  have s5_4 : get a4 5 = i64 ((half l.length : Nat) : Int) := t5
  clear E2 N2 D2 s0_2 s1_2 s8_2 X1_2
  refine tail_nil ?_
  refine wp_seq ?_
  refine wp_seq ?_
  refine Rl [] [(12, Pr.ex (i64 (i : Int))), (13, Pr.ex (i64 ((half l.length : Nat) : Int))), (14, Pr.ex (Value.bool (decide ((i : Int) < ((half l.length : Nat) : Int)))))] 3 N4 D4 ?_ ?_
  refine Ac ?_ (Ac ?_ (Ac ?_ (Az _)))
  exact Am s1_4 rfl fun _ => rfl
  exact Am s5_4 rfl fun _ => rfl
  exact Ap fun aq wq _ hO hR hT => does_lss (a := (i : Int)) (b := ((half l.length : Nat) : Int)) (hT 12 rfl rfl) (hT 13 rfl rfl) eR
  intro a5 wd5 N5 D5 hO hR hA hU
  obtain ⟨_, _, t14, _⟩ := hA
  have E5 := E4.trans hR
  have s0_5 := oT hO s0_4 rfl
  have s1_5 := oT hO s1_4 rfl
  have s5_5 := oT hO s5_4 rfl
  have X1_5 := X1_4.ext' hR
  have s14_5 : get a5 14 = Value.bool (decide ((i : Int) < ((half l.length : Nat) : Int))) := t14
  clear E4 N4 D4 s0_4 s1_4 s5_4 X1_4
  refine tail_nil ?_
  refine wp_if (B := decide ((i : Int) < ((half l.length : Nat) : Int))) s14_5 (fun hc1 => ?_) (fun hc1 => ?_)
  have hc1 := of_decide_eq_true hc1
  have hlt : i < half l.length := by omega
  have hw1 := way_le (l.take (half l.length)) i (by rw [List.length_take]; omega)
  refine wp_seq ?_
  refine Ra [] [(15, Pr.ex (x1)), (16, Pr.ex (i64 ((half l.length : Nat) : Int))), (17, Pr.sl' DG 0 (w0.heap.size + 1) (l.take (half l.length))), (18, Pr.ex (i64 (i : Int))), (19, Pr.own' DG wd5.heap.size 24 (way (l.take (half l.length)) i)), (20, Pr.ex (x1)), (21, Pr.ex (i64 ((half l.length : Nat) : Int))), (22, Pr.sl' DG 0 (w0.heap.size + 1) (l.drop (half l.length))), (23, Pr.ex (Dg.val (root (l.drop (half l.length))))), (24, Pr.own' DG wd5.heap.size 24 ([root (l.drop (half l.length))]))] 10 mixed N5 D5 ?_ ?_
  refine Ac ?_ (Ac ?_ (Ac ?_ (Ac ?_ (Ac ?_ (Ac ?_ (Ac ?_ (Ac ?_ (Ac ?_ (Ac ?_ (Az _))))))))))
  exact Am s0_5 rfl fun _ => rfl
  exact Am s5_5 rfl fun _ => rfl
  exact Ad fun aq wq _ hO hR hT => does_sliceHi (T := DG) (xs := l) (k := ((half l.length : Nat) : Int)) sli_27 rfl (SlT.at (hT 15 rfl rfl) (X1_5.ext' hR)) (hT 16 rfl rfl) (by omega) (by omega) (fun v h => ⟨Ext.refl _, h⟩)
  exact Am s1_5 rfl fun _ => rfl
  exact Ad fun aq wq _ hO hR hT => does_ret (vs := #[get aq 17, i64 (i : Int)]) call_80 (args2 rfl (hT 18 rfl rfl)) rfl ((ih _ (by simp only [List.length_take, List.length_drop]; omega) (l.take (half l.length)) (i) (get aq 17) wq (hL.ext (E5.trans hR)) ((hT 17 rfl rfl).wide (Nat.zero_le _) (.inl rfl)) (by simp only [List.length_take, List.length_drop]; omega) (by simp only [List.length_take, List.length_drop]; omega) rfl).mono fun v w2 h => ⟨h.2, OwnT.base h.1 hR.size'⟩)
  exact Am s0_5 rfl fun _ => rfl
  exact Am s5_5 rfl fun _ => rfl
  exact Ad fun aq wq _ hO hR hT => does_sliceLo (T := DG) (xs := l) (k := ((half l.length : Nat) : Int)) sli_27 rfl (SlT.at (hT 20 rfl rfl) (X1_5.ext' hR)) (hT 21 rfl rfl) (by omega) (by omega) (fun v h => ⟨Ext.refl _, h⟩)
  exact Ad fun aq wq _ hO hR hT => does_ret (vs := #[get aq 22]) call_31 (args1 rfl) rfl ((root_ (l.drop (half l.length)) (get aq 22) wq (hL.ext (E5.trans hR)) ((hT 22 rfl rfl).wide (Nat.zero_le _) (.inl rfl)) (by simp only [List.length_take, List.length_drop]; omega)).mono fun v w2 h => ⟨h.2, h.1⟩)
  exact Ad fun aq wq _ hO hR hT => does_slice1 (T := DG) (X := root (l.drop (half l.length))) (V := Dg.val (root (l.drop (half l.length)))) app_27 rfl (by decide) (hT 23 rfl rfl) rfl (fun v w2 he _ ho => ⟨he, OwnT.base ho hR.size'⟩)
  intro a6 wd6 N6 D6 hO hR hA hU
  obtain ⟨_, _, _, _, t19, _, _, _, _, t24, _⟩ := hA
  have E6 := E5.trans hR
  have X1_6 := X1_5.ext' hR
  obtain ⟨x19, s19_6⟩ : ∃ x, get a6 19 = x := ⟨_, rfl⟩
  replace t19 : OwnT DG wd5.heap.size 24 (way (l.take (half l.length)) i) x19 wd6 := by rw [← s19_6]; exact t19
  have X19_6 := t19.sl.wide (Nat.zero_le _) (.inl rfl)
  have O19_6 := OwnT.base t19 E5.size'
  obtain ⟨x24, s24_6⟩ : ∃ x, get a6 24 = x := ⟨_, rfl⟩
  replace t24 : OwnT DG wd5.heap.size 24 ([root (l.drop (half l.length))]) x24 wd6 := by rw [← s24_6]; exact t24
  have X24_6 := t24.sl.wide (Nat.zero_le _) (.inl rfl)
  have O24_6 := OwnT.base t24 E5.size'
  clear E5 N5 D5 s0_5 s1_5 s5_5 s14_5 X1_5
  refine tail_put rfl rfl N6 D6 (by decide) (does_append (T := DG) (base := w0.heap.size) (xs := way (l.take (half l.length)) i) (ys := [root (l.drop (half l.length))]) (v := x19) app_27 s19_6 O19_6 (SlT.at s24_6 X24_6) (by simp) (by simp only [List.length_take, List.length_drop, List.length_cons, List.length_nil] at *; omega) (by simp only [List.length_take, List.length_drop, List.length_cons, List.length_nil] at *; omega) E6.size' (fun x25 wd7 hX O25_7 hk a7 N7 D7 hv hO => ?_))
  have E7 := E6.since hX (fun b hb => Nat.le_trans (Nat.le_refl _) (OwnT.block_lt O19_6 hb).1)
  have X1_7 := SlT.overOwn X1_6 O19_6 hX
  have X25_7 := O25_7.sl.wide (Nat.zero_le _) (.inl rfl)
  have s25_7 := hv
  clear hO hv hX hk N6 D6 E6 X1_6 s19_6 s24_6
  refine tail_put rfl rfl N7 D7 (by decide) (does_assign (V := x25) s25_7 (fun a8 N8 D8 hv hO => ?_))
  have s4_8 := hv
  clear hO hv N7 D7 s25_7
  refine tail_nil ?_
  refine wp_ret ?_
  refine res_one (V := x25) rfl D8 s4_8 ?_
  have ho := O25_7
  exact ⟨by show OwnT _ _ _ _ _ _; rw [way_lo h2 hlt]; exact ho, E7⟩
  have hc1 := of_decide_eq_false hc1
  have hge : ¬ i < half l.length := by omega
  have hw1 := way_le (l.drop (half l.length)) (i - half l.length) (by rw [List.length_drop]; omega)
  refine wp_skip ?_
  refine wp_seq ?_
  refine Ra [] [(26, Pr.ex (x1)), (27, Pr.ex (i64 ((half l.length : Nat) : Int))), (28, Pr.sl' DG 0 (w0.heap.size + 1) (l.drop (half l.length))), (29, Pr.ex (i64 (i : Int))), (30, Pr.ex (i64 ((half l.length : Nat) : Int))), (31, Pr.ex (i64 ((i - (half l.length) : Nat) : Int))), (32, Pr.own' DG wd5.heap.size 24 (way (l.drop (half l.length)) (i - (half l.length)))), (33, Pr.ex (x1)), (34, Pr.ex (i64 ((half l.length : Nat) : Int))), (35, Pr.sl' DG 0 (w0.heap.size + 1) (l.take (half l.length))), (36, Pr.ex (Dg.val (root (l.take (half l.length))))), (37, Pr.own' DG wd5.heap.size 24 ([root (l.take (half l.length))]))] 12 mixed N5 D5 ?_ ?_
  refine Ac ?_ (Ac ?_ (Ac ?_ (Ac ?_ (Ac ?_ (Ac ?_ (Ac ?_ (Ac ?_ (Ac ?_ (Ac ?_ (Ac ?_ (Ac ?_ (Az _))))))))))))
  exact Am s0_5 rfl fun _ => rfl
  exact Am s5_5 rfl fun _ => rfl
  exact Ad fun aq wq _ hO hR hT => does_sliceLo (T := DG) (xs := l) (k := ((half l.length : Nat) : Int)) sli_27 rfl (SlT.at (hT 26 rfl rfl) (X1_5.ext' hR)) (hT 27 rfl rfl) (by omega) (by omega) (fun v h => ⟨Ext.refl _, h⟩)
  exact Am s1_5 rfl fun _ => rfl
  exact Am s5_5 rfl fun _ => rfl
  exact Ad fun aq wq _ hO hR hT => does_sub (a := (i : Int)) (b := ((half l.length : Nat) : Int)) (r := ((i - (half l.length) : Nat) : Int)) (hT 29 rfl rfl) (hT 30 rfl rfl) (by omega) (by omega) (by omega) eR
  exact Ad fun aq wq _ hO hR hT => does_ret (vs := #[get aq 28, i64 ((i - (half l.length) : Nat) : Int)]) call_80 (args2 rfl (hT 31 rfl rfl)) rfl ((ih _ (by simp only [List.length_take, List.length_drop]; omega) (l.drop (half l.length)) (i - (half l.length)) (get aq 28) wq (hL.ext (E5.trans hR)) ((hT 28 rfl rfl).wide (Nat.zero_le _) (.inl rfl)) (by simp only [List.length_take, List.length_drop]; omega) (by simp only [List.length_take, List.length_drop]; omega) rfl).mono fun v w2 h => ⟨h.2, OwnT.base h.1 hR.size'⟩)
  exact Am s0_5 rfl fun _ => rfl
  exact Am s5_5 rfl fun _ => rfl
  exact Ad fun aq wq _ hO hR hT => does_sliceHi (T := DG) (xs := l) (k := ((half l.length : Nat) : Int)) sli_27 rfl (SlT.at (hT 33 rfl rfl) (X1_5.ext' hR)) (hT 34 rfl rfl) (by omega) (by omega) (fun v h => ⟨Ext.refl _, h⟩)
  exact Ad fun aq wq _ hO hR hT => does_ret (vs := #[get aq 35]) call_31 (args1 rfl) rfl ((root_ (l.take (half l.length)) (get aq 35) wq (hL.ext (E5.trans hR)) ((hT 35 rfl rfl).wide (Nat.zero_le _) (.inl rfl)) (by simp only [List.length_take, List.length_drop]; omega)).mono fun v w2 h => ⟨h.2, h.1⟩)
  exact Ad fun aq wq _ hO hR hT => does_slice1 (T := DG) (X := root (l.take (half l.length))) (V := Dg.val (root (l.take (half l.length)))) app_27 rfl (by decide) (hT 36 rfl rfl) rfl (fun v w2 he _ ho => ⟨he, OwnT.base ho hR.size'⟩)
  intro a9 wd9 N9 D9 hO hR hA hU
  obtain ⟨_, _, _, _, _, _, t32, _, _, _, _, t37, _⟩ := hA
  have E9 := E5.trans hR
  have X1_9 := X1_5.ext' hR
  obtain ⟨x32, s32_9⟩ : ∃ x, get a9 32 = x := ⟨_, rfl⟩
  replace t32 : OwnT DG wd5.heap.size 24 (way (l.drop (half l.length)) (i - (half l.length))) x32 wd9 := by rw [← s32_9]; exact t32
  have X32_9 := t32.sl.wide (Nat.zero_le _) (.inl rfl)
  have O32_9 := OwnT.base t32 E5.size'
  obtain ⟨x37, s37_9⟩ : ∃ x, get a9 37 = x := ⟨_, rfl⟩
  replace t37 : OwnT DG wd5.heap.size 24 ([root (l.take (half l.length))]) x37 wd9 := by rw [← s37_9]; exact t37
  have X37_9 := t37.sl.wide (Nat.zero_le _) (.inl rfl)
  have O37_9 := OwnT.base t37 E5.size'
  clear E5 N5 D5 s0_5 s1_5 s5_5 s14_5 X1_5
  refine tail_put rfl rfl N9 D9 (by decide) (does_append (T := DG) (base := w0.heap.size) (xs := way (l.drop (half l.length)) (i - (half l.length))) (ys := [root (l.take (half l.length))]) (v := x32) app_27 s32_9 O32_9 (SlT.at s37_9 X37_9) (by simp) (by simp only [List.length_take, List.length_drop, List.length_cons, List.length_nil] at *; omega) (by simp only [List.length_take, List.length_drop, List.length_cons, List.length_nil] at *; omega) E9.size' (fun x38 wd10 hX O38_10 hk a10 N10 D10 hv hO => ?_))
  have E10 := E9.since hX (fun b hb => Nat.le_trans (Nat.le_refl _) (OwnT.block_lt O32_9 hb).1)
  have X1_10 := SlT.overOwn X1_9 O32_9 hX
  have X38_10 := O38_10.sl.wide (Nat.zero_le _) (.inl rfl)
  have s38_10 := hv
  clear hO hv hX hk N9 D9 E9 X1_9 s32_9 s37_9
  refine tail_put rfl rfl N10 D10 (by decide) (does_assign (V := x38) s38_10 (fun a11 N11 D11 hv hO => ?_))
  have s4_11 := hv
  clear hO hv N10 D10 s38_10
  refine tail_nil ?_
  refine wp_ret ?_
  refine res_one (V := x38) rfl D11 s4_11 ?_
  have ho := O38_10
  exact ⟨by show OwnT _ _ _ _ _ _; rw [way_hi h2 hge]; exact ho, E10⟩
theorem way_ (l : List Dg) (i : Nat) (x1 : Value) (w0 : World) (hL : Laid w0) (hx1 : SlT DG 0 0 l x1 w0) (hi : i < l.length) (hn : l.length ≤ 100000) :
    Gives Tryd.prog 80 #[x1, i64 (i : Int)] w0 (Pr.own' DG w0.heap.size 24 (way l i)) := way__r _ l i x1 w0 hL hx1 hi hn rfl

theorem wayR_r : ∀ (N : Nat) (l : List Dg) (i : Nat) (x1 : Value) (w0 : World) (hx1 : SlT DG 0 0 l x1 w0) (hi : i < l.length) (hn : l.length ≤ 100000) (hN : l.length = N),
    Gives Tryd.prog 75 #[x1, i64 (i : Int)] w0 (Pr.own' DG w0.heap.size 24 (way l i)) := by
 intro N
 induction N using Nat.strongRecOn with
 | _ N ih =>
  intro l i x1 w0 hx1 hi hn hN
  refine enter (N := 39) Tryd.func75 rfl rfl ?_
  intro a0 N0 D0 hA
  have s0_0 : get a0 0 = x1 := hA 0 _ rfl
  have s1_0 : get a0 1 = i64 (i : Int) := hA 1 _ rfl
  clear hA
  have E0 : Ext w0 w0 := Ext.refl w0
  have X1_0 := hx1.close
  refine wp_seq ?_
  refine Rl [] [(4, Pr.ex (Value.slice none 0 0))] 1 N0 D0 ?_ ?_
  refine Ac ?_ (Az _)
  exact Ap fun aq wq _ hO hR hT => does_assign (V := Value.slice none 0 0) rfl eR
  intro a1 wd1 N1 D1 hO hR hA hU
  obtain ⟨_, _⟩ := hA
  have E1 := E0.trans hR
  have s0_1 := oT hO s0_0 rfl
  have s1_1 := oT hO s1_0 rfl
  have X1_1 := X1_0.ext' hR
  clear E0 N0 D0 s0_0 s1_0 X1_0
  refine tail_nil ?_
  refine wp_seq ?_
  refine wp_seq ?_
  refine Rl [] [(6, Pr.ex (x1)), (7, Pr.ex (i64 (l.length : Int))), (8, Pr.ex (Value.bool (decide ((l.length : Int) = ((1 : Nat) : Int)))))] 3 N1 D1 ?_ ?_
  refine Ac ?_ (Ac ?_ (Ac ?_ (Az _)))
  exact Am s0_1 rfl fun _ => rfl
  exact Ap fun aq wq _ hO hR hT => does_len (T := DG) (xs := l) sli_27 (SlT.at (hT 6 rfl rfl) (X1_1.ext' hR)) eR
  exact Ap fun aq wq _ hO hR hT => does_eql (a := (l.length : Int)) (b := ((1 : Nat) : Int)) (hT 7 rfl rfl) rfl eR
  intro a2 wd2 N2 D2 hO hR hA hU
  obtain ⟨_, _, t8, _⟩ := hA
  have E2 := E1.trans hR
  have s0_2 := oT hO s0_1 rfl
  have s1_2 := oT hO s1_1 rfl
  have X1_2 := X1_1.ext' hR
  have s8_2 : get a2 8 = Value.bool (decide ((l.length : Int) = ((1 : Nat) : Int))) := t8
  clear E1 N1 D1 s0_1 s1_1 X1_1
  refine tail_nil ?_
  refine wp_if (B := decide ((l.length : Int) = ((1 : Nat) : Int))) s8_2 (fun hc0 => ?_) (fun hc0 => ?_)
  have hc0 := of_decide_eq_true hc0
  refine wp_seq ?_
  refine Rl [] [(4, Pr.ex (Value.slice none 0 0))] 1 N2 D2 ?_ ?_
  refine Ac ?_ (Az _)
  exact Ap fun aq wq _ hO hR hT => does_assign (V := Value.slice none 0 0) rfl eR
  intro a3 wd3 N3 D3 hO hR hA hU
  obtain ⟨t4, _⟩ := hA
  have E3 := E2.trans hR
  have X1_3 := X1_2.ext' hR
  have s4_3 : get a3 4 = Value.slice none 0 0 := t4
  clear E2 N2 D2 s0_2 s1_2 s8_2 X1_2
  refine tail_nil ?_
  refine wp_ret ?_
  refine res_one (V := Value.slice none 0 0) rfl D3 s4_3 ?_
  exact ⟨by show OwnT _ _ _ _ _ _; rw [way_one (by omega) i]; exact OwnT.nil DG _ 24 _, E3⟩
  have hc0 := of_decide_eq_false hc0
  have h2 : 2 ≤ l.length := by omega
  have hh := half_lt h2
  have hp := half_pos l.length
  refine wp_skip ?_
  refine wp_seq ?_
  refine Rl [] [(9, Pr.ex (x1)), (10, Pr.ex (i64 (l.length : Int))), (11, Pr.ex (i64 ((half l.length : Nat) : Int))), (5, Pr.ex (i64 ((half l.length : Nat) : Int)))] 4 N2 D2 ?_ ?_
  refine Ac ?_ (Ac ?_ (Ac ?_ (Ac ?_ (Az _))))
  exact Am s0_2 rfl fun _ => rfl
  exact Ap fun aq wq _ hO hR hT => does_len (T := DG) (xs := l) sli_27 (SlT.at (hT 9 rfl rfl) (X1_2.ext' hR)) eR
  exact Ap fun aq wq _ hO hR hT => does_ret (vs := #[i64 (l.length : Int)]) call_73 (args1 (hT 10 rfl rfl)) rfl ((halfR (l.length) wq (by omega) (by omega)).mono fun v w2 h => ⟨h.2, h.1⟩)
  exact Ap fun aq wq _ hO hR hT => does_assign (V := i64 ((half l.length : Nat) : Int)) (hT 11 rfl rfl) eR
  intro a4 wd4 N4 D4 hO hR hA hU
  obtain ⟨_, _, _, t5, _⟩ := hA
  have E4 := E2.trans hR
  have s0_4 := oT hO s0_2 rfl
  have s1_4 := oT hO s1_2 rfl
  have X1_4 := X1_2.ext' hR
  have s5_4 : get a4 5 = i64 ((half l.length : Nat) : Int) := t5
  clear E2 N2 D2 s0_2 s1_2 s8_2 X1_2
  refine tail_nil ?_
  refine wp_seq ?_
  refine wp_seq ?_
  refine Rl [] [(12, Pr.ex (i64 (i : Int))), (13, Pr.ex (i64 ((half l.length : Nat) : Int))), (14, Pr.ex (Value.bool (decide ((i : Int) < ((half l.length : Nat) : Int)))))] 3 N4 D4 ?_ ?_
  refine Ac ?_ (Ac ?_ (Ac ?_ (Az _)))
  exact Am s1_4 rfl fun _ => rfl
  exact Am s5_4 rfl fun _ => rfl
  exact Ap fun aq wq _ hO hR hT => does_lss (a := (i : Int)) (b := ((half l.length : Nat) : Int)) (hT 12 rfl rfl) (hT 13 rfl rfl) eR
  intro a5 wd5 N5 D5 hO hR hA hU
  obtain ⟨_, _, t14, _⟩ := hA
  have E5 := E4.trans hR
  have s0_5 := oT hO s0_4 rfl
  have s1_5 := oT hO s1_4 rfl
  have s5_5 := oT hO s5_4 rfl
  have X1_5 := X1_4.ext' hR
  have s14_5 : get a5 14 = Value.bool (decide ((i : Int) < ((half l.length : Nat) : Int))) := t14
  clear E4 N4 D4 s0_4 s1_4 s5_4 X1_4
  refine tail_nil ?_
  refine wp_if (B := decide ((i : Int) < ((half l.length : Nat) : Int))) s14_5 (fun hc1 => ?_) (fun hc1 => ?_)
  have hc1 := of_decide_eq_true hc1
  have hlt : i < half l.length := by omega
  have hw1 := way_le (l.take (half l.length)) i (by rw [List.length_take]; omega)
  refine wp_seq ?_
  refine Ra [] [(15, Pr.ex (x1)), (16, Pr.ex (i64 ((half l.length : Nat) : Int))), (17, Pr.sl' DG 0 (w0.heap.size + 1) (l.take (half l.length))), (18, Pr.ex (i64 (i : Int))), (19, Pr.own' DG wd5.heap.size 24 (way (l.take (half l.length)) i)), (20, Pr.ex (x1)), (21, Pr.ex (i64 ((half l.length : Nat) : Int))), (22, Pr.sl' DG 0 (w0.heap.size + 1) (l.drop (half l.length))), (23, Pr.ex (Dg.val (root (l.drop (half l.length))))), (24, Pr.own' DG wd5.heap.size 24 ([root (l.drop (half l.length))]))] 10 mixed N5 D5 ?_ ?_
  refine Ac ?_ (Ac ?_ (Ac ?_ (Ac ?_ (Ac ?_ (Ac ?_ (Ac ?_ (Ac ?_ (Ac ?_ (Ac ?_ (Az _))))))))))
  exact Am s0_5 rfl fun _ => rfl
  exact Am s5_5 rfl fun _ => rfl
  exact Ad fun aq wq _ hO hR hT => does_sliceHi (T := DG) (xs := l) (k := ((half l.length : Nat) : Int)) sli_27 rfl (SlT.at (hT 15 rfl rfl) (X1_5.ext' hR)) (hT 16 rfl rfl) (by omega) (by omega) (fun v h => ⟨Ext.refl _, h⟩)
  exact Am s1_5 rfl fun _ => rfl
  exact Ad fun aq wq _ hO hR hT => does_ret (vs := #[get aq 17, i64 (i : Int)]) call_75 (args2 rfl (hT 18 rfl rfl)) rfl ((ih _ (by simp only [List.length_take, List.length_drop]; omega) (l.take (half l.length)) (i) (get aq 17) wq ((hT 17 rfl rfl).wide (Nat.zero_le _) (.inl rfl)) (by simp only [List.length_take, List.length_drop]; omega) (by simp only [List.length_take, List.length_drop]; omega) rfl).mono fun v w2 h => ⟨h.2, OwnT.base h.1 hR.size'⟩)
  exact Am s0_5 rfl fun _ => rfl
  exact Am s5_5 rfl fun _ => rfl
  exact Ad fun aq wq _ hO hR hT => does_sliceLo (T := DG) (xs := l) (k := ((half l.length : Nat) : Int)) sli_27 rfl (SlT.at (hT 20 rfl rfl) (X1_5.ext' hR)) (hT 21 rfl rfl) (by omega) (by omega) (fun v h => ⟨Ext.refl _, h⟩)
  exact Ad fun aq wq _ hO hR hT => does_ret (vs := #[get aq 22]) call_45 (args1 rfl) rfl ((rootR (l.drop (half l.length)) (get aq 22) wq ((hT 22 rfl rfl).wide (Nat.zero_le _) (.inl rfl)) (by simp only [List.length_take, List.length_drop]; omega)).mono fun v w2 h => ⟨h.2, h.1⟩)
  exact Ad fun aq wq _ hO hR hT => does_slice1 (T := DG) (X := root (l.drop (half l.length))) (V := Dg.val (root (l.drop (half l.length)))) app_27 rfl (by decide) (hT 23 rfl rfl) rfl (fun v w2 he _ ho => ⟨he, OwnT.base ho hR.size'⟩)
  intro a6 wd6 N6 D6 hO hR hA hU
  obtain ⟨_, _, _, _, t19, _, _, _, _, t24, _⟩ := hA
  have E6 := E5.trans hR
  have X1_6 := X1_5.ext' hR
  obtain ⟨x19, s19_6⟩ : ∃ x, get a6 19 = x := ⟨_, rfl⟩
  replace t19 : OwnT DG wd5.heap.size 24 (way (l.take (half l.length)) i) x19 wd6 := by rw [← s19_6]; exact t19
  have X19_6 := t19.sl.wide (Nat.zero_le _) (.inl rfl)
  have O19_6 := OwnT.base t19 E5.size'
  obtain ⟨x24, s24_6⟩ : ∃ x, get a6 24 = x := ⟨_, rfl⟩
  replace t24 : OwnT DG wd5.heap.size 24 ([root (l.drop (half l.length))]) x24 wd6 := by rw [← s24_6]; exact t24
  have X24_6 := t24.sl.wide (Nat.zero_le _) (.inl rfl)
  have O24_6 := OwnT.base t24 E5.size'
  clear E5 N5 D5 s0_5 s1_5 s5_5 s14_5 X1_5
  refine tail_put rfl rfl N6 D6 (by decide) (does_append (T := DG) (base := w0.heap.size) (xs := way (l.take (half l.length)) i) (ys := [root (l.drop (half l.length))]) (v := x19) app_27 s19_6 O19_6 (SlT.at s24_6 X24_6) (by simp) (by simp only [List.length_take, List.length_drop, List.length_cons, List.length_nil] at *; omega) (by simp only [List.length_take, List.length_drop, List.length_cons, List.length_nil] at *; omega) E6.size' (fun x25 wd7 hX O25_7 hk a7 N7 D7 hv hO => ?_))
  have E7 := E6.since hX (fun b hb => Nat.le_trans (Nat.le_refl _) (OwnT.block_lt O19_6 hb).1)
  have X1_7 := SlT.overOwn X1_6 O19_6 hX
  have X25_7 := O25_7.sl.wide (Nat.zero_le _) (.inl rfl)
  have s25_7 := hv
  clear hO hv hX hk N6 D6 E6 X1_6 s19_6 s24_6
  refine tail_put rfl rfl N7 D7 (by decide) (does_assign (V := x25) s25_7 (fun a8 N8 D8 hv hO => ?_))
  have s4_8 := hv
  clear hO hv N7 D7 s25_7
  refine tail_nil ?_
  refine wp_ret ?_
  refine res_one (V := x25) rfl D8 s4_8 ?_
  have ho := O25_7
  exact ⟨by show OwnT _ _ _ _ _ _; rw [way_lo h2 hlt]; exact ho, E7⟩
  have hc1 := of_decide_eq_false hc1
  have hge : ¬ i < half l.length := by omega
  have hw1 := way_le (l.drop (half l.length)) (i - half l.length) (by rw [List.length_drop]; omega)
  refine wp_skip ?_
  refine wp_seq ?_
  refine Ra [] [(26, Pr.ex (x1)), (27, Pr.ex (i64 ((half l.length : Nat) : Int))), (28, Pr.sl' DG 0 (w0.heap.size + 1) (l.drop (half l.length))), (29, Pr.ex (i64 (i : Int))), (30, Pr.ex (i64 ((half l.length : Nat) : Int))), (31, Pr.ex (i64 ((i - (half l.length) : Nat) : Int))), (32, Pr.own' DG wd5.heap.size 24 (way (l.drop (half l.length)) (i - (half l.length)))), (33, Pr.ex (x1)), (34, Pr.ex (i64 ((half l.length : Nat) : Int))), (35, Pr.sl' DG 0 (w0.heap.size + 1) (l.take (half l.length))), (36, Pr.ex (Dg.val (root (l.take (half l.length))))), (37, Pr.own' DG wd5.heap.size 24 ([root (l.take (half l.length))]))] 12 mixed N5 D5 ?_ ?_
  refine Ac ?_ (Ac ?_ (Ac ?_ (Ac ?_ (Ac ?_ (Ac ?_ (Ac ?_ (Ac ?_ (Ac ?_ (Ac ?_ (Ac ?_ (Ac ?_ (Az _))))))))))))
  exact Am s0_5 rfl fun _ => rfl
  exact Am s5_5 rfl fun _ => rfl
  exact Ad fun aq wq _ hO hR hT => does_sliceLo (T := DG) (xs := l) (k := ((half l.length : Nat) : Int)) sli_27 rfl (SlT.at (hT 26 rfl rfl) (X1_5.ext' hR)) (hT 27 rfl rfl) (by omega) (by omega) (fun v h => ⟨Ext.refl _, h⟩)
  exact Am s1_5 rfl fun _ => rfl
  exact Am s5_5 rfl fun _ => rfl
  exact Ad fun aq wq _ hO hR hT => does_sub (a := (i : Int)) (b := ((half l.length : Nat) : Int)) (r := ((i - (half l.length) : Nat) : Int)) (hT 29 rfl rfl) (hT 30 rfl rfl) (by omega) (by omega) (by omega) eR
  exact Ad fun aq wq _ hO hR hT => does_ret (vs := #[get aq 28, i64 ((i - (half l.length) : Nat) : Int)]) call_75 (args2 rfl (hT 31 rfl rfl)) rfl ((ih _ (by simp only [List.length_take, List.length_drop]; omega) (l.drop (half l.length)) (i - (half l.length)) (get aq 28) wq ((hT 28 rfl rfl).wide (Nat.zero_le _) (.inl rfl)) (by simp only [List.length_take, List.length_drop]; omega) (by simp only [List.length_take, List.length_drop]; omega) rfl).mono fun v w2 h => ⟨h.2, OwnT.base h.1 hR.size'⟩)
  exact Am s0_5 rfl fun _ => rfl
  exact Am s5_5 rfl fun _ => rfl
  exact Ad fun aq wq _ hO hR hT => does_sliceHi (T := DG) (xs := l) (k := ((half l.length : Nat) : Int)) sli_27 rfl (SlT.at (hT 33 rfl rfl) (X1_5.ext' hR)) (hT 34 rfl rfl) (by omega) (by omega) (fun v h => ⟨Ext.refl _, h⟩)
  exact Ad fun aq wq _ hO hR hT => does_ret (vs := #[get aq 35]) call_45 (args1 rfl) rfl ((rootR (l.take (half l.length)) (get aq 35) wq ((hT 35 rfl rfl).wide (Nat.zero_le _) (.inl rfl)) (by simp only [List.length_take, List.length_drop]; omega)).mono fun v w2 h => ⟨h.2, h.1⟩)
  exact Ad fun aq wq _ hO hR hT => does_slice1 (T := DG) (X := root (l.take (half l.length))) (V := Dg.val (root (l.take (half l.length)))) app_27 rfl (by decide) (hT 36 rfl rfl) rfl (fun v w2 he _ ho => ⟨he, OwnT.base ho hR.size'⟩)
  intro a9 wd9 N9 D9 hO hR hA hU
  obtain ⟨_, _, _, _, _, _, t32, _, _, _, _, t37, _⟩ := hA
  have E9 := E5.trans hR
  have X1_9 := X1_5.ext' hR
  obtain ⟨x32, s32_9⟩ : ∃ x, get a9 32 = x := ⟨_, rfl⟩
  replace t32 : OwnT DG wd5.heap.size 24 (way (l.drop (half l.length)) (i - (half l.length))) x32 wd9 := by rw [← s32_9]; exact t32
  have X32_9 := t32.sl.wide (Nat.zero_le _) (.inl rfl)
  have O32_9 := OwnT.base t32 E5.size'
  obtain ⟨x37, s37_9⟩ : ∃ x, get a9 37 = x := ⟨_, rfl⟩
  replace t37 : OwnT DG wd5.heap.size 24 ([root (l.take (half l.length))]) x37 wd9 := by rw [← s37_9]; exact t37
  have X37_9 := t37.sl.wide (Nat.zero_le _) (.inl rfl)
  have O37_9 := OwnT.base t37 E5.size'
  clear E5 N5 D5 s0_5 s1_5 s5_5 s14_5 X1_5
  refine tail_put rfl rfl N9 D9 (by decide) (does_append (T := DG) (base := w0.heap.size) (xs := way (l.drop (half l.length)) (i - (half l.length))) (ys := [root (l.take (half l.length))]) (v := x32) app_27 s32_9 O32_9 (SlT.at s37_9 X37_9) (by simp) (by simp only [List.length_take, List.length_drop, List.length_cons, List.length_nil] at *; omega) (by simp only [List.length_take, List.length_drop, List.length_cons, List.length_nil] at *; omega) E9.size' (fun x38 wd10 hX O38_10 hk a10 N10 D10 hv hO => ?_))
  have E10 := E9.since hX (fun b hb => Nat.le_trans (Nat.le_refl _) (OwnT.block_lt O32_9 hb).1)
  have X1_10 := SlT.overOwn X1_9 O32_9 hX
  have X38_10 := O38_10.sl.wide (Nat.zero_le _) (.inl rfl)
  have s38_10 := hv
  clear hO hv hX hk N9 D9 E9 X1_9 s32_9 s37_9
  refine tail_put rfl rfl N10 D10 (by decide) (does_assign (V := x38) s38_10 (fun a11 N11 D11 hv hO => ?_))
  have s4_11 := hv
  clear hO hv N10 D10 s38_10
  refine tail_nil ?_
  refine wp_ret ?_
  refine res_one (V := x38) rfl D11 s4_11 ?_
  have ho := O38_10
  exact ⟨by show OwnT _ _ _ _ _ _; rw [way_hi h2 hge]; exact ho, E10⟩
theorem wayR (l : List Dg) (i : Nat) (x1 : Value) (w0 : World) (hx1 : SlT DG 0 0 l x1 w0) (hi : i < l.length) (hn : l.length ≤ 100000) :
    Gives Tryd.prog 75 #[x1, i64 (i : Int)] w0 (Pr.own' DG w0.heap.size 24 (way l i)) := wayR_r _ l i x1 w0 hx1 hi hn rfl

theorem way_I (l : List Dg) (i : Int) (x1 : Value) (w0 : World) (hL : Laid w0) (hx1 : SlT DG 0 0 l x1 w0) (h0 : 0 ≤ i ∧ i < (l.length : Int)) (hn : l.length ≤ 100000) :
    Gives Tryd.prog 80 #[x1, i64 (i)] w0 (Pr.own' DG w0.heap.size 24 (way l i.toNat)) := by
  obtain ⟨k, rfl⟩ : ∃ k : Nat, i = k := ⟨i.toNat, by omega⟩
  exact way_ l k x1 w0 hL hx1 (by omega) hn

theorem prove_ (l : List Dg) (i : Int) (x1 : Value) (w0 : World) (hL : Laid w0) (hx1 : SlT DG 0 0 l x1 w0) (hn : l.length ≤ 100000) :
    Gives Tryd.prog 53 #[x1, i64 (i)] w0 (Pr.t2 (Pr.own' DG w0.heap.size 24 (prove l i).1) (Pr.ex (i64 (((prove l i).2 : Nat) : Int)))) := by
 refine enter (N := 17) Tryd.func53 rfl rfl ?_
 intro a0 N0 D0 hA
 have s0_0 : get a0 0 = x1 := hA 0 _ rfl
 have s1_0 : get a0 1 = i64 (i) := hA 1 _ rfl
 clear hA
 have E0 : Ext w0 w0 := Ext.refl w0
 have X1_0 := hx1.close
 refine wp_seq ?_
 refine Rl [] [(4, Pr.ex (Value.slice none 0 0)), (5, Pr.ex (i64 ((0 : Nat) : Int)))] 2 N0 D0 ?_ ?_
 refine Ac ?_ (Ac ?_ (Az _))
 exact Ap fun aq wq _ hO hR hT => does_assign (V := Value.slice none 0 0) rfl eR
 exact Ap fun aq wq _ hO hR hT => does_assign (V := i64 ((0 : Nat) : Int)) rfl eR
 intro a1 wd1 N1 D1 hO hR hA hU
 obtain ⟨_, _, _⟩ := hA
 have E1 := E0.trans hR
 have s0_1 := oT hO s0_0 rfl
 have s1_1 := oT hO s1_0 rfl
 have X1_1 := X1_0.ext' hR
 clear E0 N0 D0 s0_0 s1_0 X1_0
 refine tail_nil ?_
 refine wp_seq ?_
 refine wp_seq ?_
 refine Rl [] [(6, Pr.ex (i64 (i))), (7, Pr.ex (Value.bool (decide (i < ((0 : Nat) : Int))))), (8, Pr.ex (Value.bool (decide (i < ((0 : Nat) : Int))))), (9, Pr.ifb (!(decide (i < ((0 : Nat) : Int)))) (Pr.ex (i64 (i)))), (10, Pr.ifb (!(decide (i < ((0 : Nat) : Int)))) (Pr.ex (x1))), (11, Pr.ifb (!(decide (i < ((0 : Nat) : Int)))) (Pr.ex (i64 (l.length : Int)))), (12, Pr.ifb (!(decide (i < ((0 : Nat) : Int)))) (Pr.ex (Value.bool (decide ((l.length : Int) ≤ i))))), (13, Pr.ex (Value.bool ((decide (i < ((0 : Nat) : Int))) || (decide ((l.length : Int) ≤ i)))))] 8 N1 D1 ?_ ?_
 refine Ac ?_ (Ac ?_ (Ac ?_ (Ac ?_ (Ac ?_ (Ac ?_ (Ac ?_ (Ac ?_ (Az _))))))))
 exact Am s1_1 rfl fun _ => rfl
 exact Ap fun aq wq _ hO hR hT => does_lss (a := i) (b := ((0 : Nat) : Int)) (hT 6 rfl rfl) rfl eR
 exact Ap fun aq wq _ hO hR hT => does_move (V := Value.bool (decide (i < ((0 : Nat) : Int)))) (hT 7 rfl rfl) eR
 refine Ask.guarded (B := decide (i < ((0 : Nat) : Int))) (want := false) (t := 8) rfl rfl rfl rfl (by decide) (fun aq wq hO hR hT => hT 8 rfl rfl) (fun hG aq wq hNq hO hR hT => ?_) (fun hno _ => fun hc => absurd (bn hc) hno)
 replace hG := nb hG
 exact does_move (V := i64 (i)) (oT hO s1_1 rfl) ⟨Ext.refl _, fun _ => rfl⟩
 refine Ask.guarded (B := decide (i < ((0 : Nat) : Int))) (want := false) (t := 8) rfl rfl rfl rfl (by decide) (fun aq wq hO hR hT => hT 8 rfl rfl) (fun hG aq wq hNq hO hR hT => ?_) (fun hno _ => fun hc => absurd (bn hc) hno)
 replace hG := nb hG
 exact does_move (V := x1) (oT hO s0_1 rfl) ⟨Ext.refl _, fun _ => rfl⟩
 refine Ask.guarded (B := decide (i < ((0 : Nat) : Int))) (want := false) (t := 8) rfl rfl rfl rfl (by decide) (fun aq wq hO hR hT => hT 8 rfl rfl) (fun hG aq wq hNq hO hR hT => ?_) (fun hno _ => fun hc => absurd (bn hc) hno)
 replace hG := nb hG
 exact does_len (T := DG) (xs := l) sli_27 (SlT.at (hT 10 rfl rfl hG) (X1_1.ext' hR)) ⟨Ext.refl _, fun _ => rfl⟩
 refine Ask.guarded (B := decide (i < ((0 : Nat) : Int))) (want := false) (t := 8) rfl rfl rfl rfl (by decide) (fun aq wq hO hR hT => hT 8 rfl rfl) (fun hG aq wq hNq hO hR hT => ?_) (fun hno _ => fun hc => absurd (bn hc) hno)
 replace hG := nb hG
 exact does_geq (a := i) (b := (l.length : Int)) (hT 9 rfl rfl hG) (hT 11 rfl rfl hG) ⟨Ext.refl _, fun _ => rfl⟩
 exact Ap fun aq wq _ hO hR hT => does_or (B := decide (i < ((0 : Nat) : Int))) (X := decide ((l.length : Int) ≤ i)) (hT 8 rfl rfl) rfl (fun hB => (hT 12 rfl rfl (nb hB))) eR
 intro a2 wd2 N2 D2 hO hR hA hU
 obtain ⟨_, _, _, _, _, _, _, t13, _⟩ := hA
 have E2 := E1.trans hR
 have s0_2 := oT hO s0_1 rfl
 have s1_2 := oT hO s1_1 rfl
 have X1_2 := X1_1.ext' hR
 have s13_2 : get a2 13 = Value.bool ((decide (i < ((0 : Nat) : Int))) || (decide ((l.length : Int) ≤ i))) := t13
 clear E1 N1 D1 s0_1 s1_1 X1_1
 refine tail_nil ?_
 refine wp_if (B := (decide (i < ((0 : Nat) : Int))) || (decide ((l.length : Int) ≤ i))) s13_2 (fun hc0 => ?_) (fun hc0 => ?_)
 have hb : ¬ (0 ≤ i ∧ i < (l.length : Int)) := by rintro ⟨h1, h2⟩; have e1 : decide (i < ((0 : Nat) : Int)) = false := decide_eq_false (by omega); have e2 : decide ((l.length : Int) ≤ i) = false := decide_eq_false (by omega); rw [e1, e2] at hc0; cases hc0
 refine wp_seq ?_
 refine Rl [] [(4, Pr.ex (Value.slice none 0 0)), (5, Pr.ex (i64 ((1 : Nat) : Int)))] 2 N2 D2 ?_ ?_
 refine Ac ?_ (Ac ?_ (Az _))
 exact Ap fun aq wq _ hO hR hT => does_assign (V := Value.slice none 0 0) rfl eR
 exact Ap fun aq wq _ hO hR hT => does_assign (V := i64 ((1 : Nat) : Int)) rfl eR
 intro a3 wd3 N3 D3 hO hR hA hU
 obtain ⟨t4, t5, _⟩ := hA
 have E3 := E2.trans hR
 have X1_3 := X1_2.ext' hR
 have s4_3 : get a3 4 = Value.slice none 0 0 := t4
 have s5_3 : get a3 5 = i64 ((1 : Nat) : Int) := t5
 clear E2 N2 D2 s0_2 s1_2 s13_2 X1_2
 refine tail_nil ?_
 refine wp_ret ?_
 refine res_two (V1 := Value.slice none 0 0) (V2 := i64 ((1 : Nat) : Int)) rfl D3 s4_3 s5_3 ?_
 rw [prove_no hb]
 exact ⟨⟨_, _, rfl, OwnT.nil DG _ 24 _, rfl⟩, E3⟩
 have hb : 0 ≤ i ∧ i < (l.length : Int) := by simpa using hc0
 refine wp_skip ?_
 refine wp_seq ?_
 refine Rl [] [(14, Pr.ex (x1)), (15, Pr.ex (i64 (i))), (16, Pr.own' DG wd2.heap.size 24 (way l (i).toNat)), (4, Pr.own' DG wd2.heap.size 24 (way l (i).toNat)), (5, Pr.ex (i64 ((0 : Nat) : Int)))] 5 N2 D2 ?_ ?_
 refine Ac ?_ (Ac ?_ (Ac ?_ (Ac ?_ (Ac ?_ (Az _)))))
 exact Am s0_2 rfl fun _ => rfl
 exact Am s1_2 rfl fun _ => rfl
 exact Ap fun aq wq _ hO hR hT => does_ret (vs := #[x1, i64 (i)]) call_80 (args2 (hT 14 rfl rfl) (hT 15 rfl rfl)) rfl ((way_I (l) (i) (x1) wq (hL.ext (E2.trans hR)) ((X1_2.ext' hR).wide (Nat.zero_le _) (.inl rfl)) hb hn).mono fun v w2 h => ⟨h.2, OwnT.base h.1 hR.size'⟩)
 exact Ap fun aq wq _ hO hR hT => does_assign rfl ⟨Ext.refl _, (hT 16 rfl rfl)⟩
 exact Ap fun aq wq _ hO hR hT => does_assign (V := i64 ((0 : Nat) : Int)) rfl eR
 intro a4 wd4 N4 D4 hO hR hA hU
 obtain ⟨_, _, _, t4, t5, _⟩ := hA
 have E4 := E2.trans hR
 have X1_4 := X1_2.ext' hR
 obtain ⟨x4, s4_4⟩ : ∃ x, get a4 4 = x := ⟨_, rfl⟩
 replace t4 : OwnT DG wd2.heap.size 24 (way l (i).toNat) x4 wd4 := by rw [← s4_4]; exact t4
 have X4_4 := t4.sl.wide (Nat.zero_le _) (.inl rfl)
 have O4_4 := OwnT.base t4 E2.size'
 have s5_4 : get a4 5 = i64 ((0 : Nat) : Int) := t5
 clear E2 N2 D2 s0_2 s1_2 s13_2 X1_2
 refine tail_nil ?_
 refine wp_ret ?_
 refine res_two (V1 := x4) (V2 := i64 ((0 : Nat) : Int)) rfl D4 s4_4 s5_4 ?_
 rw [prove_ok hb]
 exact ⟨⟨_, _, rfl, O4_4, rfl⟩, E4⟩

theorem wayRI (l : List Dg) (i : Int) (x1 : Value) (w0 : World) (hx1 : SlT DG 0 0 l x1 w0) (h0 : 0 ≤ i ∧ i < (l.length : Int)) (hn : l.length ≤ 100000) :
    Gives Tryd.prog 75 #[x1, i64 (i)] w0 (Pr.own' DG w0.heap.size 24 (way l i.toNat)) := by
  obtain ⟨k, rfl⟩ : ∃ k : Nat, i = k := ⟨i.toNat, by omega⟩
  exact wayR l k x1 w0 hx1 (by omega) hn

theorem proveR (l : List Dg) (i : Int) (x1 : Value) (w0 : World) (hx1 : SlT DG 0 0 l x1 w0) (hn : l.length ≤ 100000) :
    Gives Tryd.prog 47 #[x1, i64 (i)] w0 (Pr.t2 (Pr.own' DG w0.heap.size 24 (prove l i).1) (Pr.ex (i64 (((prove l i).2 : Nat) : Int)))) := by
 refine enter (N := 17) Tryd.func47 rfl rfl ?_
 intro a0 N0 D0 hA
 have s0_0 : get a0 0 = x1 := hA 0 _ rfl
 have s1_0 : get a0 1 = i64 (i) := hA 1 _ rfl
 clear hA
 have E0 : Ext w0 w0 := Ext.refl w0
 have X1_0 := hx1.close
 refine wp_seq ?_
 refine Rl [] [(4, Pr.ex (Value.slice none 0 0)), (5, Pr.ex (i64 ((0 : Nat) : Int)))] 2 N0 D0 ?_ ?_
 refine Ac ?_ (Ac ?_ (Az _))
 exact Ap fun aq wq _ hO hR hT => does_assign (V := Value.slice none 0 0) rfl eR
 exact Ap fun aq wq _ hO hR hT => does_assign (V := i64 ((0 : Nat) : Int)) rfl eR
 intro a1 wd1 N1 D1 hO hR hA hU
 obtain ⟨_, _, _⟩ := hA
 have E1 := E0.trans hR
 have s0_1 := oT hO s0_0 rfl
 have s1_1 := oT hO s1_0 rfl
 have X1_1 := X1_0.ext' hR
 clear E0 N0 D0 s0_0 s1_0 X1_0
 refine tail_nil ?_
 refine wp_seq ?_
 refine wp_seq ?_
 refine Rl [] [(6, Pr.ex (i64 (i))), (7, Pr.ex (Value.bool (decide (i < ((0 : Nat) : Int))))), (8, Pr.ex (Value.bool (decide (i < ((0 : Nat) : Int))))), (9, Pr.ifb (!(decide (i < ((0 : Nat) : Int)))) (Pr.ex (i64 (i)))), (10, Pr.ifb (!(decide (i < ((0 : Nat) : Int)))) (Pr.ex (x1))), (11, Pr.ifb (!(decide (i < ((0 : Nat) : Int)))) (Pr.ex (i64 (l.length : Int)))), (12, Pr.ifb (!(decide (i < ((0 : Nat) : Int)))) (Pr.ex (Value.bool (decide ((l.length : Int) ≤ i))))), (13, Pr.ex (Value.bool ((decide (i < ((0 : Nat) : Int))) || (decide ((l.length : Int) ≤ i)))))] 8 N1 D1 ?_ ?_
 refine Ac ?_ (Ac ?_ (Ac ?_ (Ac ?_ (Ac ?_ (Ac ?_ (Ac ?_ (Ac ?_ (Az _))))))))
 exact Am s1_1 rfl fun _ => rfl
 exact Ap fun aq wq _ hO hR hT => does_lss (a := i) (b := ((0 : Nat) : Int)) (hT 6 rfl rfl) rfl eR
 exact Ap fun aq wq _ hO hR hT => does_move (V := Value.bool (decide (i < ((0 : Nat) : Int)))) (hT 7 rfl rfl) eR
 refine Ask.guarded (B := decide (i < ((0 : Nat) : Int))) (want := false) (t := 8) rfl rfl rfl rfl (by decide) (fun aq wq hO hR hT => hT 8 rfl rfl) (fun hG aq wq hNq hO hR hT => ?_) (fun hno _ => fun hc => absurd (bn hc) hno)
 replace hG := nb hG
 exact does_move (V := i64 (i)) (oT hO s1_1 rfl) ⟨Ext.refl _, fun _ => rfl⟩
 refine Ask.guarded (B := decide (i < ((0 : Nat) : Int))) (want := false) (t := 8) rfl rfl rfl rfl (by decide) (fun aq wq hO hR hT => hT 8 rfl rfl) (fun hG aq wq hNq hO hR hT => ?_) (fun hno _ => fun hc => absurd (bn hc) hno)
 replace hG := nb hG
 exact does_move (V := x1) (oT hO s0_1 rfl) ⟨Ext.refl _, fun _ => rfl⟩
 refine Ask.guarded (B := decide (i < ((0 : Nat) : Int))) (want := false) (t := 8) rfl rfl rfl rfl (by decide) (fun aq wq hO hR hT => hT 8 rfl rfl) (fun hG aq wq hNq hO hR hT => ?_) (fun hno _ => fun hc => absurd (bn hc) hno)
 replace hG := nb hG
 exact does_len (T := DG) (xs := l) sli_27 (SlT.at (hT 10 rfl rfl hG) (X1_1.ext' hR)) ⟨Ext.refl _, fun _ => rfl⟩
 refine Ask.guarded (B := decide (i < ((0 : Nat) : Int))) (want := false) (t := 8) rfl rfl rfl rfl (by decide) (fun aq wq hO hR hT => hT 8 rfl rfl) (fun hG aq wq hNq hO hR hT => ?_) (fun hno _ => fun hc => absurd (bn hc) hno)
 replace hG := nb hG
 exact does_geq (a := i) (b := (l.length : Int)) (hT 9 rfl rfl hG) (hT 11 rfl rfl hG) ⟨Ext.refl _, fun _ => rfl⟩
 exact Ap fun aq wq _ hO hR hT => does_or (B := decide (i < ((0 : Nat) : Int))) (X := decide ((l.length : Int) ≤ i)) (hT 8 rfl rfl) rfl (fun hB => (hT 12 rfl rfl (nb hB))) eR
 intro a2 wd2 N2 D2 hO hR hA hU
 obtain ⟨_, _, _, _, _, _, _, t13, _⟩ := hA
 have E2 := E1.trans hR
 have s0_2 := oT hO s0_1 rfl
 have s1_2 := oT hO s1_1 rfl
 have X1_2 := X1_1.ext' hR
 have s13_2 : get a2 13 = Value.bool ((decide (i < ((0 : Nat) : Int))) || (decide ((l.length : Int) ≤ i))) := t13
 clear E1 N1 D1 s0_1 s1_1 X1_1
 refine tail_nil ?_
 refine wp_if (B := (decide (i < ((0 : Nat) : Int))) || (decide ((l.length : Int) ≤ i))) s13_2 (fun hc0 => ?_) (fun hc0 => ?_)
 have hb : ¬ (0 ≤ i ∧ i < (l.length : Int)) := by rintro ⟨h1, h2⟩; have e1 : decide (i < ((0 : Nat) : Int)) = false := decide_eq_false (by omega); have e2 : decide ((l.length : Int) ≤ i) = false := decide_eq_false (by omega); rw [e1, e2] at hc0; cases hc0
 refine wp_seq ?_
 refine Rl [] [(4, Pr.ex (Value.slice none 0 0)), (5, Pr.ex (i64 ((1 : Nat) : Int)))] 2 N2 D2 ?_ ?_
 refine Ac ?_ (Ac ?_ (Az _))
 exact Ap fun aq wq _ hO hR hT => does_assign (V := Value.slice none 0 0) rfl eR
 exact Ap fun aq wq _ hO hR hT => does_assign (V := i64 ((1 : Nat) : Int)) rfl eR
 intro a3 wd3 N3 D3 hO hR hA hU
 obtain ⟨t4, t5, _⟩ := hA
 have E3 := E2.trans hR
 have X1_3 := X1_2.ext' hR
 have s4_3 : get a3 4 = Value.slice none 0 0 := t4
 have s5_3 : get a3 5 = i64 ((1 : Nat) : Int) := t5
 clear E2 N2 D2 s0_2 s1_2 s13_2 X1_2
 refine tail_nil ?_
 refine wp_ret ?_
 refine res_two (V1 := Value.slice none 0 0) (V2 := i64 ((1 : Nat) : Int)) rfl D3 s4_3 s5_3 ?_
 rw [prove_no hb]
 exact ⟨⟨_, _, rfl, OwnT.nil DG _ 24 _, rfl⟩, E3⟩
 have hb : 0 ≤ i ∧ i < (l.length : Int) := by simpa using hc0
 refine wp_skip ?_
 refine wp_seq ?_
 refine Rl [] [(14, Pr.ex (x1)), (15, Pr.ex (i64 (i))), (16, Pr.own' DG wd2.heap.size 24 (way l (i).toNat)), (4, Pr.own' DG wd2.heap.size 24 (way l (i).toNat)), (5, Pr.ex (i64 ((0 : Nat) : Int)))] 5 N2 D2 ?_ ?_
 refine Ac ?_ (Ac ?_ (Ac ?_ (Ac ?_ (Ac ?_ (Az _)))))
 exact Am s0_2 rfl fun _ => rfl
 exact Am s1_2 rfl fun _ => rfl
 exact Ap fun aq wq _ hO hR hT => does_ret (vs := #[x1, i64 (i)]) call_75 (args2 (hT 14 rfl rfl) (hT 15 rfl rfl)) rfl ((wayRI (l) (i) (x1) wq ((X1_2.ext' hR).wide (Nat.zero_le _) (.inl rfl)) hb hn).mono fun v w2 h => ⟨h.2, OwnT.base h.1 hR.size'⟩)
 exact Ap fun aq wq _ hO hR hT => does_assign rfl ⟨Ext.refl _, (hT 16 rfl rfl)⟩
 exact Ap fun aq wq _ hO hR hT => does_assign (V := i64 ((0 : Nat) : Int)) rfl eR
 intro a4 wd4 N4 D4 hO hR hA hU
 obtain ⟨_, _, _, t4, t5, _⟩ := hA
 have E4 := E2.trans hR
 have X1_4 := X1_2.ext' hR
 obtain ⟨x4, s4_4⟩ : ∃ x, get a4 4 = x := ⟨_, rfl⟩
 replace t4 : OwnT DG wd2.heap.size 24 (way l (i).toNat) x4 wd4 := by rw [← s4_4]; exact t4
 have X4_4 := t4.sl.wide (Nat.zero_le _) (.inl rfl)
 have O4_4 := OwnT.base t4 E2.size'
 have s5_4 : get a4 5 = i64 ((0 : Nat) : Int) := t5
 clear E2 N2 D2 s0_2 s1_2 s13_2 X1_2
 refine tail_nil ?_
 refine wp_ret ?_
 refine res_two (V1 := x4) (V2 := i64 ((0 : Nat) : Int)) rfl D4 s4_4 s5_4 ?_
 rw [prove_ok hb]
 exact ⟨⟨_, _, rfl, O4_4, rfl⟩, E4⟩

end Go.Proofs.YtmmghpbncejfiaaDoor
