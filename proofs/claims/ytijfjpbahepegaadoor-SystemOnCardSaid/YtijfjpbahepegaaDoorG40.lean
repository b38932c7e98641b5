/- The walks of functions of the program: printed. -/
import Derived.Test.YtijfjpbahepegaaDoorF0
set_option maxRecDepth 100000
namespace Go.Proofs.YtijfjpbahepegaaDoor
open Go Go.RowKit Sk Sd
theorem equalD (a b : List Dg) (x1 x2 : Value) (w0 : World) (hx1 : SlT DG 0 0 a x1 w0) (hx2 : SlT DG 0 0 b x2 w0) (hn : a.length ≤ 1000000) :
    Gives Tryd.prog 48 #[x1, x2] w0 (Pr.ex (Value.bool (decide (a = b)))) := by
 refine enter (N := 26) Tryd.func48 rfl rfl ?_
 intro a0 hN_0 hD_0 hA
 have s0_0 : get a0 0 = x1 := hA 0 _ rfl
 have s1_0 : get a0 1 = x2 := hA 1 _ rfl
 clear hA
 have hE_0 : Ext w0 w0 := Ext.refl w0
 have hsx1_0 := hx1.close
 have hsx2_0 := hx2.close
 refine wp_seq ?_
 refine region_lex [] [(4, Pr.ex (Value.bool (false)))] 1 hN_0 hD_0 (by kernel_rfl) (by kernel_rfl) ?_ ?_
 refine Asks.cons ?_ (Asks.zero _)
 exact Ask.plain rfl rfl fun aq wq hNq hO hR hT => does_assign (V := Value.bool (false)) rfl ⟨Ext.refl _, rfl⟩
 intro a1 wd1 hN_1 hD_1 hO hR hA hU
 obtain ⟨_, _⟩ := hA
 have hE_1 := hE_0.trans hR
 have s0_1 := (hO 0 rfl).trans s0_0
 have s1_1 := (hO 1 rfl).trans s1_0
 have hsx1_1 := hsx1_0.ext' hR
 have hsx2_1 := hsx2_0.ext' hR
 clear hE_0 hN_0 hD_0 s0_0 s1_0 hsx1_0 hsx2_0
 refine tail_nil ?_
 refine wp_seq ?_
 refine wp_seq ?_
 refine region_lex [] [(6, Pr.ex (x1)), (7, Pr.ex (i64 ((a.length : Nat) : Int))), (8, Pr.ex (x2)), (9, Pr.ex (i64 ((b.length : Nat) : Int))), (10, Pr.ex (Value.bool (!decide (((a.length : Nat) : Int) = ((b.length : Nat) : Int)))))] 5 hN_1 hD_1 (by kernel_rfl) (by kernel_rfl) ?_ ?_
 refine Asks.cons ?_ (Asks.cons ?_ (Asks.cons ?_ (Asks.cons ?_ (Asks.cons ?_ (Asks.zero _)))))
 exact Ask.plain rfl rfl fun aq wq hNq hO hR hT => does_move (V := x1) ((hO 0 rfl).trans s0_1) ⟨Ext.refl _, rfl⟩
 exact Ask.plain rfl rfl fun aq wq hNq hO hR hT => does_len (T := DG) (xs := a) sli_41 (SlT.at (hT 6 rfl rfl) (hsx1_1.ext' hR)) ⟨Ext.refl _, rfl⟩
 exact Ask.plain rfl rfl fun aq wq hNq hO hR hT => does_move (V := x2) ((hO 1 rfl).trans s1_1) ⟨Ext.refl _, rfl⟩
 exact Ask.plain rfl rfl fun aq wq hNq hO hR hT => does_len (T := DG) (xs := b) sli_41 (SlT.at (hT 8 rfl rfl) (hsx2_1.ext' hR)) ⟨Ext.refl _, rfl⟩
 exact Ask.plain rfl rfl fun aq wq hNq hO hR hT => does_neq (a := ((a.length : Nat) : Int)) (b := ((b.length : Nat) : Int)) (hT 7 rfl rfl) (hT 9 rfl rfl) ⟨Ext.refl _, rfl⟩
 intro a2 wd2 hN_2 hD_2 hO hR hA hU
 obtain ⟨_, _, _, _, t10, _⟩ := hA
 have hE_2 := hE_1.trans hR
 have s0_2 := (hO 0 rfl).trans s0_1
 have s1_2 := (hO 1 rfl).trans s1_1
 have hsx1_2 := hsx1_1.ext' hR
 have hsx2_2 := hsx2_1.ext' hR
 have s10_2 : get a2 10 = Value.bool (!decide (((a.length : Nat) : Int) = ((b.length : Nat) : Int))) := t10
 clear hE_1 hN_1 hD_1 s0_1 s1_1 hsx1_1 hsx2_1
 refine tail_nil ?_
 refine wp_if (B := !decide (((a.length : Nat) : Int) = ((b.length : Nat) : Int))) s10_2 (fun hc0 => ?_) (fun hc0 => ?_)
 have hc0 := of_decide_eq_false (bn hc0)
 refine wp_seq ?_
 refine region_lex [] [(4, Pr.ex (Value.bool (false)))] 1 hN_2 hD_2 (by kernel_rfl) (by kernel_rfl) ?_ ?_
 refine Asks.cons ?_ (Asks.zero _)
 exact Ask.plain rfl rfl fun aq wq hNq hO hR hT => does_assign (V := Value.bool (false)) rfl ⟨Ext.refl _, rfl⟩
 intro a3 wd3 hN_3 hD_3 hO hR hA hU
 obtain ⟨t4, _⟩ := hA
 have hE_3 := hE_2.trans hR
 have hsx1_3 := hsx1_2.ext' hR
 have hsx2_3 := hsx2_2.ext' hR
 have s4_3 : get a3 4 = Value.bool (false) := t4
 clear hE_2 hN_2 hD_2 s0_2 s1_2 s10_2 hsx1_2 hsx2_2
 refine tail_nil ?_
 refine wp_ret ?_
 refine res_one (V := Value.bool (false)) rfl hD_3 s4_3 ?_
 exact ⟨by show Value.bool _ = Value.bool _; rw [same_len (by omega)], hE_3⟩
 have hc0 := of_decide_eq_true (bn' hc0)
 refine wp_skip ?_
 refine wp_seq ?_
 refine wp_seq ?_
 refine region_lex [] [(11, Pr.ex (x1)), (12, Pr.ex (i64 ((a.length : Nat) : Int))), (13, Pr.ex (i64 ((0 : Nat) : Int)))] 3 hN_2 hD_2 (by kernel_rfl) (by kernel_rfl) ?_ ?_
 refine Asks.cons ?_ (Asks.cons ?_ (Asks.cons ?_ (Asks.zero _)))
 exact Ask.plain rfl rfl fun aq wq hNq hO hR hT => does_move (V := x1) ((hO 0 rfl).trans s0_2) ⟨Ext.refl _, rfl⟩
 exact Ask.plain rfl rfl fun aq wq hNq hO hR hT => does_len (T := DG) (xs := a) sli_41 (SlT.at (hT 11 rfl rfl) (hsx1_2.ext' hR)) ⟨Ext.refl _, rfl⟩
 exact Ask.plain rfl rfl fun aq wq hNq hO hR hT => does_move (V := i64 ((0 : Nat) : Int)) rfl ⟨Ext.refl _, rfl⟩
 intro a4 wd4 hN_4 hD_4 hO hR hA hU
 obtain ⟨_, t12, t13, _⟩ := hA
 have hE_4 := hE_2.trans hR
 have s0_4 := (hO 0 rfl).trans s0_2
 have s1_4 := (hO 1 rfl).trans s1_2
 have hsx1_4 := hsx1_2.ext' hR
 have hsx2_4 := hsx2_2.ext' hR
 have s12_4 : get a4 12 = i64 ((a.length : Nat) : Int) := t12
 have s13_4 : get a4 13 = i64 ((0 : Nat) : Int) := t13
 clear hE_2 hN_2 hD_2 s0_2 s1_2 s10_2 hsx1_2 hsx2_2
 refine tail_nil ?_
 refine wp_block ?_
 refine loop_g (fun mz az wz => ∃ k : Nat, mz = a.length - k ∧ (az.tmps.size = 26) ∧ (az.defers = []) ∧ (get az 0 = x1) ∧ (get az 1 = x2) ∧ (get az 12 = i64 ((a.length : Nat) : Int)) ∧ (get az 13 = i64 ((k : Nat) : Int)) ∧ (Ext w0 wz) ∧ (SlT DG 0 (w0.heap.size + 1) (a) x1 wz) ∧ (SlT DG 0 (w0.heap.size + 1) (b) x2 wz) ∧ (∀ j, j < k → a[j]? = b[j]?) ∧ (k ≤ a.length)) ?_ ?_
 exact ⟨_, 0, rfl, hN_4, hD_4, s0_4, s1_4, s12_4, s13_4, hE_4, hsx1_4, hsx2_4, fun j hj => absurd hj (Nat.not_lt_zero _), Nat.zero_le _⟩
 rintro mz a5 wd5 ⟨k, rfl, hN_5, hD_5, s0_5, s1_5, s12_5, s13_5, hE_5, hsx1_5, hsx2_5, hall, hk⟩
 refine wp_seq ?_
 refine region_lex [] [(14, Pr.ex (Value.bool (decide (((k : Nat) : Int) < ((a.length : Nat) : Int)))))] 1 hN_5 hD_5 (by kernel_rfl) (by kernel_rfl) ?_ ?_
 refine Asks.cons ?_ (Asks.zero _)
 exact Ask.plain rfl rfl fun aq wq hNq hO hR hT => does_lss (a := ((k : Nat) : Int)) (b := ((a.length : Nat) : Int)) ((hO 13 rfl).trans s13_5) ((hO 12 rfl).trans s12_5) ⟨Ext.refl _, rfl⟩
 intro a6 wd6 hN_6 hD_6 hO hR hA hU
 obtain ⟨t14, _⟩ := hA
 have hE_6 := hE_5.trans hR
 have s0_6 := (hO 0 rfl).trans s0_5
 have s1_6 := (hO 1 rfl).trans s1_5
 have s12_6 := (hO 12 rfl).trans s12_5
 have s13_6 := (hO 13 rfl).trans s13_5
 have hsx1_6 := hsx1_5.ext' hR
 have hsx2_6 := hsx2_5.ext' hR
 have s14_6 : get a6 14 = Value.bool (decide (((k : Nat) : Int) < ((a.length : Nat) : Int))) := t14
 clear hE_5 hN_5 hD_5 s0_5 s1_5 s12_5 s13_5 hsx1_5 hsx2_5
 refine tail_nil ?_
 refine wp_seq ?_
 refine wp_if (B := decide (((k : Nat) : Int) < ((a.length : Nat) : Int))) s14_6 (fun hc1 => ?_) (fun hc1 => ?_)
 have hc1 := of_decide_eq_true hc1
 obtain ⟨d, hd⟩ := get_of_lt (l := a) (k := k) (by omega)
 obtain ⟨e, he⟩ := get_of_lt (l := b) (k := k) (by omega)
 refine wp_skip ?_
 refine wp_seq ?_
 refine wp_block ?_
 refine wp_seq ?_
 refine region_lex [] [(15, Pr.ex (i64 ((k : Nat) : Int))), (5, Pr.ex (i64 ((k : Nat) : Int)))] 2 hN_6 hD_6 (by kernel_rfl) (by kernel_rfl) ?_ ?_
 refine Asks.cons ?_ (Asks.cons ?_ (Asks.zero _))
 exact Ask.plain rfl rfl fun aq wq hNq hO hR hT => does_move (V := i64 ((k : Nat) : Int)) ((hO 13 rfl).trans s13_6) ⟨Ext.refl _, rfl⟩
 exact Ask.plain rfl rfl fun aq wq hNq hO hR hT => does_assign (V := i64 ((k : Nat) : Int)) (hT 15 rfl rfl) ⟨Ext.refl _, rfl⟩
 intro a7 wd7 hN_7 hD_7 hO hR hA hU
 obtain ⟨_, t5, _⟩ := hA
 have hE_7 := hE_6.trans hR
 have s0_7 := (hO 0 rfl).trans s0_6
 have s1_7 := (hO 1 rfl).trans s1_6
 have s12_7 := (hO 12 rfl).trans s12_6
 have s13_7 := (hO 13 rfl).trans s13_6
 have hsx1_7 := hsx1_6.ext' hR
 have hsx2_7 := hsx2_6.ext' hR
 have s5_7 : get a7 5 = i64 ((k : Nat) : Int) := t5
 clear hE_6 hN_6 hD_6 s0_6 s1_6 s12_6 s13_6 s14_6 hsx1_6 hsx2_6
 refine tail_nil ?_
 refine wp_seq ?_
 refine region_any [] [(16, Pr.ex (x1)), (17, Pr.ex (i64 ((k : Nat) : Int))), (18, Pr.pt' 0 (w0.heap.size + 1) [w32 (d).a, w32 (d).b, w32 (d).c, w32 (d).d]), (19, Pr.ex (Dg.val (d))), (20, Pr.ex (x2)), (21, Pr.ex (i64 ((k : Nat) : Int))), (22, Pr.pt' 0 (w0.heap.size + 1) [w32 (e).a, w32 (e).b, w32 (e).c, w32 (e).d]), (23, Pr.ex (Dg.val (e))), (24, Pr.ex (Value.bool (!decide (d = e))))] 9 mixed hN_7 hD_7 (by kernel_rfl) (by kernel_rfl) (by kernel_rfl) ?_ ?_
 refine Asks.cons ?_ (Asks.cons ?_ (Asks.cons ?_ (Asks.cons ?_ (Asks.cons ?_ (Asks.cons ?_ (Asks.cons ?_ (Asks.cons ?_ (Asks.cons ?_ (Asks.zero _)))))))))
 exact Ask.plainD rfl rfl fun aq wq hNq hO hR hT => does_move (V := x1) ((hO 0 rfl).trans s0_7) ⟨Ext.refl _, rfl⟩
 exact Ask.plainD rfl rfl fun aq wq hNq hO hR hT => does_move (V := i64 ((k : Nat) : Int)) ((hO 5 rfl).trans s5_7) ⟨Ext.refl _, rfl⟩
 exact Ask.plainD rfl rfl fun aq wq hNq hO hR hT => does_indexSl (T := DG) (xs := a) (i := ((k : Nat) : Int)) (X := d) sli_41 rfl (SlT.at (hT 16 rfl rfl) (hsx1_7.ext' hR)) (hT 17 rfl rfl) (by omega) hd (fun v h => ⟨Ext.refl _, h⟩)
 exact Ask.plainD rfl rfl fun aq wq hNq hO hR hT => does_loadP (cs := [w32 (d).a, w32 (d).b, w32 (d).c, w32 (d).d]) (hT 18 rfl rfl) row_27 rfl ⟨Ext.refl _, rfl⟩
 exact Ask.plainD rfl rfl fun aq wq hNq hO hR hT => does_move (V := x2) ((hO 1 rfl).trans s1_7) ⟨Ext.refl _, rfl⟩
 exact Ask.plainD rfl rfl fun aq wq hNq hO hR hT => does_move (V := i64 ((k : Nat) : Int)) ((hO 5 rfl).trans s5_7) ⟨Ext.refl _, rfl⟩
 exact Ask.plainD rfl rfl fun aq wq hNq hO hR hT => does_indexSl (T := DG) (xs := b) (i := ((k : Nat) : Int)) (X := e) sli_41 rfl (SlT.at (hT 20 rfl rfl) (hsx2_7.ext' hR)) (hT 21 rfl rfl) (by omega) he (fun v h => ⟨Ext.refl _, h⟩)
 exact Ask.plainD rfl rfl fun aq wq hNq hO hR hT => does_loadP (cs := [w32 (e).a, w32 (e).b, w32 (e).c, w32 (e).d]) (hT 22 rfl rfl) row_27 rfl ⟨Ext.refl _, rfl⟩
 exact Ask.plainD rfl rfl fun aq wq hNq hO hR hT => does_neT (a := d) (b := e) eq_27 (hT 19 rfl rfl) (hT 23 rfl rfl) ⟨Ext.refl _, rfl⟩
 intro a8 wd8 hN_8 hD_8 hO hR hA hU
 obtain ⟨_, _, _, _, _, _, _, _, t24, _⟩ := hA
 have hE_8 := hE_7.trans hR
 have s0_8 := (hO 0 rfl).trans s0_7
 have s1_8 := (hO 1 rfl).trans s1_7
 have s12_8 := (hO 12 rfl).trans s12_7
 have s13_8 := (hO 13 rfl).trans s13_7
 have hsx1_8 := hsx1_7.ext' hR
 have hsx2_8 := hsx2_7.ext' hR
 have s24_8 : get a8 24 = Value.bool (!decide (d = e)) := t24
 clear hE_7 hN_7 hD_7 s0_7 s1_7 s5_7 s12_7 s13_7 hsx1_7 hsx2_7
 refine tail_nil ?_
 refine wp_if (B := !decide (d = e)) s24_8 (fun hc2 => ?_) (fun hc2 => ?_)
 have hc2 := of_decide_eq_false (bn hc2)
 refine wp_seq ?_
 refine region_lex [] [(4, Pr.ex (Value.bool (false)))] 1 hN_8 hD_8 (by kernel_rfl) (by kernel_rfl) ?_ ?_
 refine Asks.cons ?_ (Asks.zero _)
 exact Ask.plain rfl rfl fun aq wq hNq hO hR hT => does_assign (V := Value.bool (false)) rfl ⟨Ext.refl _, rfl⟩
 intro a9 wd9 hN_9 hD_9 hO hR hA hU
 obtain ⟨t4, _⟩ := hA
 have hE_9 := hE_8.trans hR
 have hsx1_9 := hsx1_8.ext' hR
 have hsx2_9 := hsx2_8.ext' hR
 have s4_9 : get a9 4 = Value.bool (false) := t4
 clear hE_8 hN_8 hD_8 s0_8 s1_8 s12_8 s13_8 s24_8 hsx1_8 hsx2_8
 refine tail_nil ?_
 refine wp_ret ?_
 refine res_one (V := Value.bool (false)) rfl hD_9 s4_9 ?_
 exact ⟨by show Value.bool _ = Value.bool _; rw [same_no hd he hc2], hE_9⟩
 have hc2 := of_decide_eq_true (bn' hc2)
 refine wp_skip ?_
 refine region_lex [] [(25, Pr.ex (i64 ((k + 1 : Nat) : Int)))] 1 hN_8 hD_8 (by kernel_rfl) (by kernel_rfl) ?_ ?_
 refine Asks.cons ?_ (Asks.zero _)
 exact Ask.plain rfl rfl fun aq wq hNq hO hR hT => does_add (a := ((k : Nat) : Int)) (b := ((1 : Nat) : Int)) (r := ((k + 1 : Nat) : Int)) ((hO 13 rfl).trans s13_8) rfl (by omega) (by omega) (by omega) ⟨Ext.refl _, rfl⟩
 intro a10 wd10 hN_10 hD_10 hO hR hA hU
 obtain ⟨t25, _⟩ := hA
 have hE_10 := hE_8.trans hR
 have s0_10 := (hO 0 rfl).trans s0_8
 have s1_10 := (hO 1 rfl).trans s1_8
 have s12_10 := (hO 12 rfl).trans s12_8
 have s13_10 := (hO 13 rfl).trans s13_8
 have hsx1_10 := hsx1_8.ext' hR
 have hsx2_10 := hsx2_8.ext' hR
 have s25_10 : get a10 25 = i64 ((k + 1 : Nat) : Int) := t25
 clear hE_8 hN_8 hD_8 s0_8 s1_8 s12_8 s13_8 s24_8 hsx1_8 hsx2_8
 refine tail_put rfl rfl hN_10 hD_10 (by decide) (does_move (V := i64 ((k + 1 : Nat) : Int)) s25_10 (fun a11 hN_11 hD_11 hv hO => ?_))
 have s13_11 := hv
 have s0_11 := (hO 0 rfl).trans s0_10
 have s1_11 := (hO 1 rfl).trans s1_10
 have s12_11 := (hO 12 rfl).trans s12_10
 clear hO hv hN_10 hD_10 s0_10 s1_10 s12_10 s25_10 s13_10
 refine tail_nil ?_
 exact ⟨_, by omega, k + 1, rfl, hN_11, hD_11, s0_11, s1_11, s12_11, s13_11, hE_10, hsx1_10, hsx2_10, fun j hj => (Nat.lt_succ_iff_lt_or_eq.1 hj).elim (fun h => hall j h) (fun h => by subst h; rw [hd, he, hc2]), by omega⟩
 have hc1 := of_decide_eq_false hc1
 refine wp_exit ?_
 refine wp_seq ?_
 refine region_lex [] [(4, Pr.ex (Value.bool (true)))] 1 hN_6 hD_6 (by kernel_rfl) (by kernel_rfl) ?_ ?_
 refine Asks.cons ?_ (Asks.zero _)
 exact Ask.plain rfl rfl fun aq wq hNq hO hR hT => does_assign (V := Value.bool (true)) rfl ⟨Ext.refl _, rfl⟩
 intro a12 wd12 hN_12 hD_12 hO hR hA hU
 obtain ⟨t4, _⟩ := hA
 have hE_12 := hE_6.trans hR
 have hsx1_12 := hsx1_6.ext' hR
 have hsx2_12 := hsx2_6.ext' hR
 have s4_12 : get a12 4 = Value.bool (true) := t4
 clear hE_6 hN_6 hD_6 s0_6 s1_6 s12_6 s13_6 s14_6 hsx1_6 hsx2_6
 refine tail_nil ?_
 refine wp_ret ?_
 refine res_one (V := Value.bool (true)) rfl hD_12 s4_12 ?_
 exact ⟨by show Value.bool _ = Value.bool _; rw [same_yes (by omega) (by omega) hall], hE_12⟩

end Go.Proofs.YtijfjpbahepegaaDoor
