/- The walks of functions of the program: printed. -/
import Derived.Test.YtaeohnkfmachfaaDoorKB
import Derived.Test.YtaeohnkfmachfaaDoorF0
set_option maxRecDepth 100000
namespace Go.Proofs.YtaeohnkfmachfaaDoor
open Go Go.RowKit Sk Sd
theorem list_ (a b : List Dg) (x1 x2 : Value) (w0 : World) (hx1 : SlT DG 0 0 a x1 w0) (hx2 : SlT DG 0 0 b x2 w0) (hn : a.length ≤ 1000000) :
    Gives Tryd.prog 26 #[x1, x2] w0 (Pr.ex (Value.bool (decide (a = b)))) := by
 refine enter (N := 26) Tryd.func26 rfl rfl ?_
 intro a0 N0 D0 hA
 have s0_0 : get a0 0 = x1 := hA 0 _ rfl
 have s1_0 : get a0 1 = x2 := hA 1 _ rfl
 clear hA
 have E0 : Ext w0 w0 := Ext.refl w0
 have X1_0 := hx1.close
 have X2_0 := hx2.close
 refine wp_seq ?_
 refine Rl [] [(4, Pr.ex (Value.bool (false)))] 1 N0 D0 ?_ ?_
 refine Ac ?_ (Az _)
 exact Ap fun aq wq _ hO hR hT => does_assign (V := Value.bool (false)) rfl eR
 intro a1 wd1 N1 D1 hO hR hA hU
 obtain ⟨_, _⟩ := hA
 have E1 := E0.trans hR
 have s0_1 := oT hO s0_0 rfl
 have s1_1 := oT hO s1_0 rfl
 have X1_1 := X1_0.ext' hR
 have X2_1 := X2_0.ext' hR
 clear E0 N0 D0 s0_0 s1_0 X1_0 X2_0
 refine tail_nil ?_
 refine wp_seq ?_
 refine wp_seq ?_
 refine Rl [] [(6, Pr.ex (x1)), (7, Pr.ex (i64 (a.length : Int))), (8, Pr.ex (x2)), (9, Pr.ex (i64 (b.length : Int))), (10, Pr.ex (Value.bool (!decide ((a.length : Int) = (b.length : Int)))))] 5 N1 D1 ?_ ?_
 refine Ac ?_ (Ac ?_ (Ac ?_ (Ac ?_ (Ac ?_ (Az _)))))
 exact Am s0_1 rfl fun _ => rfl
 exact Ap fun aq wq _ hO hR hT => does_len (T := DG) (xs := a) sli_27 (SlT.at (hT 6 rfl rfl) (X1_1.ext' hR)) eR
 exact Am s1_1 rfl fun _ => rfl
 exact Ap fun aq wq _ hO hR hT => does_len (T := DG) (xs := b) sli_27 (SlT.at (hT 8 rfl rfl) (X2_1.ext' hR)) eR
 exact Ap fun aq wq _ hO hR hT => does_neq (a := (a.length : Int)) (b := (b.length : Int)) (hT 7 rfl rfl) (hT 9 rfl rfl) eR
 intro a2 wd2 N2 D2 hO hR hA hU
 obtain ⟨_, _, _, _, t10, _⟩ := hA
 have E2 := E1.trans hR
 have s0_2 := oT hO s0_1 rfl
 have s1_2 := oT hO s1_1 rfl
 have X1_2 := X1_1.ext' hR
 have X2_2 := X2_1.ext' hR
 have s10_2 : get a2 10 = Value.bool (!decide ((a.length : Int) = (b.length : Int))) := t10
 clear E1 N1 D1 s0_1 s1_1 X1_1 X2_1
 refine tail_nil ?_
 refine wp_if (B := !decide ((a.length : Int) = (b.length : Int))) s10_2 (fun hc0 => ?_) (fun hc0 => ?_)
 have hc0 := of_decide_eq_false (bn hc0)
 refine wp_seq ?_
 refine Rl [] [(4, Pr.ex (Value.bool (false)))] 1 N2 D2 ?_ ?_
 refine Ac ?_ (Az _)
 exact Ap fun aq wq _ hO hR hT => does_assign (V := Value.bool (false)) rfl eR
 intro a3 wd3 N3 D3 hO hR hA hU
 obtain ⟨t4, _⟩ := hA
 have E3 := E2.trans hR
 have X1_3 := X1_2.ext' hR
 have X2_3 := X2_2.ext' hR
 have s4_3 : get a3 4 = Value.bool (false) := t4
 clear E2 N2 D2 s0_2 s1_2 s10_2 X1_2 X2_2
 refine tail_nil ?_
 refine wp_ret ?_
 refine res_one (V := Value.bool (false)) rfl D3 s4_3 ?_
 exact ⟨by show Value.bool _ = Value.bool _; rw [same_len (by omega)], E3⟩
 have hc0 := of_decide_eq_true (bn' hc0)
 refine wp_skip ?_
 refine wp_seq ?_
 refine wp_seq ?_
 refine Rl [] [(5, Pr.ex (i64 ((0 : Nat) : Int)))] 1 N2 D2 ?_ ?_
 refine Ac ?_ (Az _)
 exact Ap fun aq wq _ hO hR hT => does_assign (V := i64 ((0 : Nat) : Int)) rfl eR
 intro a4 wd4 N4 D4 hO hR hA hU
 obtain ⟨t5, _⟩ := hA
 have E4 := E2.trans hR
 have s0_4 := oT hO s0_2 rfl
 have s1_4 := oT hO s1_2 rfl
 have X1_4 := X1_2.ext' hR
 have X2_4 := X2_2.ext' hR
 have s5_4 : get a4 5 = i64 ((0 : Nat) : Int) := t5
 clear E2 N2 D2 s0_2 s1_2 s10_2 X1_2 X2_2
 refine tail_nil ?_
 refine wp_block ?_
 refine loop_g (fun mz az wz => ∃ k : Nat, mz = a.length - k ∧ (az.tmps.size = 26) ∧ (az.defers = []) ∧ (get az 0 = x1) ∧ (get az 1 = x2) ∧ (get az 5 = i64 (k : Int)) ∧ (Ext w0 wz) ∧ (SlT DG 0 (w0.heap.size + 1) (a) x1 wz) ∧ (SlT DG 0 (w0.heap.size + 1) (b) x2 wz) ∧ (∀ j, j < k → a[j]? = b[j]?) ∧ (k ≤ a.length)) ?_ ?_
 exact ⟨_, 0, rfl, N4, D4, s0_4, s1_4, s5_4, E4, X1_4, X2_4, fun j hj => absurd hj (Nat.not_lt_zero _), Nat.zero_le _⟩
 rintro mz a5 wd5 ⟨k, rfl, N5, D5, s0_5, s1_5, s5_5, E5, X1_5, X2_5, hall, hk⟩
 refine wp_seq ?_
 refine wp_seq ?_
 refine Rl [] [(11, Pr.ex (i64 (k : Int))), (12, Pr.ex (x1)), (13, Pr.ex (i64 (a.length : Int))), (14, Pr.ex (Value.bool (decide ((k : Int) < (a.length : Int)))))] 4 N5 D5 ?_ ?_
 refine Ac ?_ (Ac ?_ (Ac ?_ (Ac ?_ (Az _))))
 exact Am s5_5 rfl fun _ => rfl
 exact Am s0_5 rfl fun _ => rfl
 exact Ap fun aq wq _ hO hR hT => does_len (T := DG) (xs := a) sli_27 (SlT.at (hT 12 rfl rfl) (X1_5.ext' hR)) eR
 exact Ap fun aq wq _ hO hR hT => does_lss (a := (k : Int)) (b := (a.length : Int)) (hT 11 rfl rfl) (hT 13 rfl rfl) eR
 intro a6 wd6 N6 D6 hO hR hA hU
 obtain ⟨_, _, _, t14, _⟩ := hA
 have E6 := E5.trans hR
 have s0_6 := oT hO s0_5 rfl
 have s1_6 := oT hO s1_5 rfl
 have s5_6 := oT hO s5_5 rfl
 have X1_6 := X1_5.ext' hR
 have X2_6 := X2_5.ext' hR
 have s14_6 : get a6 14 = Value.bool (decide ((k : Int) < (a.length : Int))) := t14
 clear E5 N5 D5 s0_5 s1_5 s5_5 X1_5 X2_5
 refine tail_nil ?_
 refine wp_if (B := decide ((k : Int) < (a.length : Int))) s14_6 (fun hc1 => ?_) (fun hc1 => ?_)
 have hc1 := of_decide_eq_true hc1
 obtain ⟨d, hd⟩ := get_of_lt (l := a) (k := k) (by omega)
 obtain ⟨e, he⟩ := get_of_lt (l := b) (k := k) (by omega)
 refine wp_skip ?_
 refine wp_seq ?_
 refine wp_block ?_
 refine wp_seq ?_
 refine Ra [] [(17, Pr.ex (x1)), (18, Pr.ex (i64 (k : Int))), (19, Pr.pt' 0 (w0.heap.size + 1) [w32 (d).a, w32 (d).b, w32 (d).c, w32 (d).d]), (20, Pr.ex (Dg.val (d))), (21, Pr.ex (x2)), (22, Pr.ex (i64 (k : Int))), (23, Pr.pt' 0 (w0.heap.size + 1) [w32 (e).a, w32 (e).b, w32 (e).c, w32 (e).d]), (24, Pr.ex (Dg.val (e))), (25, Pr.ex (Value.bool (!decide (d = e))))] 9 mixed N6 D6 ?_ ?_
 refine Ac ?_ (Ac ?_ (Ac ?_ (Ac ?_ (Ac ?_ (Ac ?_ (Ac ?_ (Ac ?_ (Ac ?_ (Az _)))))))))
 exact Am s0_6 rfl fun _ => rfl
 exact Am s5_6 rfl fun _ => rfl
 exact Ad fun aq wq _ hO hR hT => does_indexSl (T := DG) (xs := a) (i := (k : Int)) (X := d) sli_27 rfl (SlT.at (hT 17 rfl rfl) (X1_6.ext' hR)) (hT 18 rfl rfl) (by omega) hd (fun v h => ⟨Ext.refl _, h⟩)
 exact Ad fun aq wq _ hO hR hT => does_loadP (cs := [w32 (d).a, w32 (d).b, w32 (d).c, w32 (d).d]) (hT 19 rfl rfl) row_24 rfl eR
 exact Am s1_6 rfl fun _ => rfl
 exact Am s5_6 rfl fun _ => rfl
 exact Ad fun aq wq _ hO hR hT => does_indexSl (T := DG) (xs := b) (i := (k : Int)) (X := e) sli_27 rfl (SlT.at (hT 21 rfl rfl) (X2_6.ext' hR)) (hT 22 rfl rfl) (by omega) he (fun v h => ⟨Ext.refl _, h⟩)
 exact Ad fun aq wq _ hO hR hT => does_loadP (cs := [w32 (e).a, w32 (e).b, w32 (e).c, w32 (e).d]) (hT 23 rfl rfl) row_24 rfl eR
 exact Ad fun aq wq _ hO hR hT => does_neT (a := d) (b := e) eq_24 (hT 20 rfl rfl) (hT 24 rfl rfl) eR
 intro a7 wd7 N7 D7 hO hR hA hU
 obtain ⟨_, _, _, _, _, _, _, _, t25, _⟩ := hA
 have E7 := E6.trans hR
 have s0_7 := oT hO s0_6 rfl
 have s1_7 := oT hO s1_6 rfl
 have s5_7 := oT hO s5_6 rfl
 have X1_7 := X1_6.ext' hR
 have X2_7 := X2_6.ext' hR
 have s25_7 : get a7 25 = Value.bool (!decide (d = e)) := t25
 clear E6 N6 D6 s0_6 s1_6 s5_6 s14_6 X1_6 X2_6
 refine tail_nil ?_
 refine wp_if (B := !decide (d = e)) s25_7 (fun hc2 => ?_) (fun hc2 => ?_)
 have hc2 := of_decide_eq_false (bn hc2)
 refine wp_seq ?_
 refine Rl [] [(4, Pr.ex (Value.bool (false)))] 1 N7 D7 ?_ ?_
 refine Ac ?_ (Az _)
 exact Ap fun aq wq _ hO hR hT => does_assign (V := Value.bool (false)) rfl eR
 intro a8 wd8 N8 D8 hO hR hA hU
 obtain ⟨t4, _⟩ := hA
 have E8 := E7.trans hR
 have X1_8 := X1_7.ext' hR
 have X2_8 := X2_7.ext' hR
 have s4_8 : get a8 4 = Value.bool (false) := t4
 clear E7 N7 D7 s0_7 s1_7 s5_7 s25_7 X1_7 X2_7
 refine tail_nil ?_
 refine wp_ret ?_
 refine res_one (V := Value.bool (false)) rfl D8 s4_8 ?_
 exact ⟨by show Value.bool _ = Value.bool _; rw [same_no hd he hc2], E8⟩
 have hc2 := of_decide_eq_true (bn' hc2)
 refine wp_skip ?_
 refine Rl [] [(15, Pr.ex (i64 (k : Int))), (16, Pr.ex (i64 ((k + 1 : Nat) : Int)))] 2 N7 D7 ?_ ?_
 refine Ac ?_ (Ac ?_ (Az _))
 exact Am s5_7 rfl fun _ => rfl
 exact Ap fun aq wq _ hO hR hT => does_add (a := (k : Int)) (b := ((1 : Nat) : Int)) (r := ((k + 1 : Nat) : Int)) (hT 15 rfl rfl) rfl (by omega) (by omega) (by omega) eR
 intro a9 wd9 N9 D9 hO hR hA hU
 obtain ⟨_, t16, _⟩ := hA
 have E9 := E7.trans hR
 have s0_9 := oT hO s0_7 rfl
 have s1_9 := oT hO s1_7 rfl
 have s5_9 := oT hO s5_7 rfl
 have X1_9 := X1_7.ext' hR
 have X2_9 := X2_7.ext' hR
 have s16_9 : get a9 16 = i64 ((k + 1 : Nat) : Int) := t16
 clear E7 N7 D7 s0_7 s1_7 s5_7 s25_7 X1_7 X2_7
 refine tail_put rfl rfl N9 D9 (by decide) (does_assign (V := i64 ((k + 1 : Nat) : Int)) s16_9 (fun a10 N10 D10 hv hO => ?_))
 have s5_10 := hv
 have s0_10 := oT hO s0_9 rfl
 have s1_10 := oT hO s1_9 rfl
 clear hO hv N9 D9 s0_9 s1_9 s16_9 s5_9
 refine tail_nil ?_
 exact ⟨_, by omega, k + 1, rfl, N10, D10, s0_10, s1_10, s5_10, E9, X1_9, X2_9, fun j hj => (Nat.lt_succ_iff_lt_or_eq.1 hj).elim (fun h => hall j h) (fun h => by subst h; rw [hd, he, hc2]), by omega⟩
 have hc1 := of_decide_eq_false hc1
 refine wp_exit ?_
 refine wp_seq ?_
 refine Rl [] [(4, Pr.ex (Value.bool (true)))] 1 N6 D6 ?_ ?_
 refine Ac ?_ (Az _)
 exact Ap fun aq wq _ hO hR hT => does_assign (V := Value.bool (true)) rfl eR
 intro a11 wd11 N11 D11 hO hR hA hU
 obtain ⟨t4, _⟩ := hA
 have E11 := E6.trans hR
 have X1_11 := X1_6.ext' hR
 have X2_11 := X2_6.ext' hR
 have s4_11 : get a11 4 = Value.bool (true) := t4
 clear E6 N6 D6 s0_6 s1_6 s5_6 s14_6 X1_6 X2_6
 refine tail_nil ?_
 refine wp_ret ?_
 refine res_one (V := Value.bool (true)) rfl D11 s4_11 ?_
 exact ⟨by show Value.bool _ = Value.bool _; rw [same_yes (by omega) (by omega) hall], E11⟩

theorem sameSig (i j : Int) (a b c d : List Dg) (x1 x2 x3 x4 : Value) (w0 : World) (hx1 : SlT DG 0 0 a x1 w0) (hx2 : SlT DG 0 0 b x2 w0) (hx3 : SlT DG 0 0 c x3 w0) (hx4 : SlT DG 0 0 d x4 w0) (hn1 : a.length ≤ 1000000) (hn2 : b.length ≤ 1000000) :
    Gives Tryd.prog 10 #[Value.agg #[i64 (i), x1, x2], Value.agg #[i64 (j), x3, x4]] w0 (Pr.ex (Value.bool ((decide (i = j) && decide (a = c)) && decide (b = d)))) := by
 refine enter (N := 24) Tryd.func10 rfl rfl ?_
 intro a0 N0 D0 hA
 have s0_0 : get a0 0 = Value.agg #[i64 (i), x1, x2] := hA 0 _ rfl
 have s1_0 : get a0 1 = Value.agg #[i64 (j), x3, x4] := hA 1 _ rfl
 clear hA
 have E0 : Ext w0 w0 := Ext.refl w0
 have X1_0 := hx1.close
 have X2_0 := hx2.close
 have X3_0 := hx3.close
 have X4_0 := hx4.close
 refine wp_seq ?_
 refine Rl [2, 3] [(2, Pr.box' w0.heap.size 30 [i64 (i), x1, x2]), (3, Pr.box' w0.heap.size 30 [i64 (j), x3, x4]), (4, Pr.ex (Value.bool (false)))] 3 N0 D0 ?_ ?_
 refine Ac ?_ (Ac ?_ (Ac ?_ (Az _)))
 refine Ask.fresh rfl rfl ?_
 intro aq wq hNq hO hR hT
 exact does_box (V := Value.agg #[i64 (i), x1, x2]) (oT hO s0_0 rfl) (fun b w2 he hlo hb => ⟨he, ⟨b, rfl, Nat.le_trans hR.size' hlo, hb⟩, ⟨b, rfl, hlo, hb.lt⟩⟩)
 refine Ask.fresh rfl rfl ?_
 intro aq wq hNq hO hR hT
 exact does_box (V := Value.agg #[i64 (j), x3, x4]) (oT hO s1_0 rfl) (fun b w2 he hlo hb => ⟨he, ⟨b, rfl, Nat.le_trans hR.size' hlo, hb⟩, ⟨b, rfl, hlo, hb.lt⟩⟩)
 exact Ap fun aq wq _ hO hR hT => does_assign (V := Value.bool (false)) rfl eR
 intro a1 wd1 N1 D1 hO hR hA hU
 obtain ⟨t2, t3, _, _⟩ := hA
 have E1 := E0.trans hR
 have X1_1 := X1_0.ext' hR
 have X2_1 := X2_0.ext' hR
 have X3_1 := X3_0.ext' hR
 have X4_1 := X4_0.ext' hR
 obtain ⟨b2, s2_1, lo_b2, B2_1⟩ := t2
 have nb_x1_b2 := SlT.old X1_0 lo_b2
 have nb_x2_b2 := SlT.old X2_0 lo_b2
 have nb_x3_b2 := SlT.old X3_0 lo_b2
 have nb_x4_b2 := SlT.old X4_0 lo_b2
 have fr_b2 : w0.heap.size ≤ b2 := Nat.le_trans E0.size' lo_b2
 obtain ⟨b3, s3_1, lo_b3, B3_1⟩ := t3
 have nb_x1_b3 := SlT.old X1_0 lo_b3
 have nb_x2_b3 := SlT.old X2_0 lo_b3
 have nb_x3_b3 := SlT.old X3_0 lo_b3
 have nb_x4_b3 := SlT.old X4_0 lo_b3
 have fr_b3 : w0.heap.size ≤ b3 := Nat.le_trans E0.size' lo_b3
 obtain ⟨u0, ⟨u1, _⟩⟩ := hU
 have ne_b2_b3 : b2 ≠ b3 := fun e => u0 3 (by decide) (by rw [s2_1, s3_1, e])
 clear E0 N0 D0 s0_0 s1_0 X1_0 X2_0 X3_0 X4_0
 refine tail_nil ?_
 refine wp_seq ?_
 refine Rl [] [(5, Pr.ex (Value.pointer (some ⟨b2, 0, none⟩))), (6, Pr.ex (i64 (i))), (7, Pr.ex (Value.pointer (some ⟨b3, 0, none⟩))), (8, Pr.ex (i64 (j))), (9, Pr.ex (Value.bool (decide (i = j)))), (10, Pr.ex (Value.bool (decide (i = j)))), (11, Pr.ifb (decide (i = j)) (Pr.ex (Value.pointer (some ⟨b2, 1, none⟩)))), (12, Pr.ifb (decide (i = j)) (Pr.ex (x1))), (13, Pr.ifb (decide (i = j)) (Pr.ex (Value.pointer (some ⟨b3, 1, none⟩)))), (14, Pr.ifb (decide (i = j)) (Pr.ex (x3))), (15, Pr.ifb (decide (i = j)) (Pr.ex (Value.bool (decide (a = c))))), (16, Pr.ex (Value.bool ((decide (i = j)) && (decide (a = c))))), (17, Pr.ex (Value.bool ((decide (i = j)) && (decide (a = c))))), (18, Pr.ifb ((decide (i = j)) && (decide (a = c))) (Pr.ex (Value.pointer (some ⟨b2, 2, none⟩)))), (19, Pr.ifb ((decide (i = j)) && (decide (a = c))) (Pr.ex (x2))), (20, Pr.ifb ((decide (i = j)) && (decide (a = c))) (Pr.ex (Value.pointer (some ⟨b3, 2, none⟩)))), (21, Pr.ifb ((decide (i = j)) && (decide (a = c))) (Pr.ex (x4))), (22, Pr.ifb ((decide (i = j)) && (decide (a = c))) (Pr.ex (Value.bool (decide (b = d))))), (23, Pr.ex (Value.bool (((decide (i = j)) && (decide (a = c))) && (decide (b = d))))), (4, Pr.ex (Value.bool (((decide (i = j)) && (decide (a = c))) && (decide (b = d)))))] 20 N1 D1 ?_ ?_
 refine Ac ?_ (Ac ?_ (Ac ?_ (Ac ?_ (Ac ?_ (Ac ?_ (Ac ?_ (Ac ?_ (Ac ?_ (Ac ?_ (Ac ?_ (Ac ?_ (Ac ?_ (Ac ?_ (Ac ?_ (Ac ?_ (Ac ?_ (Ac ?_ (Ac ?_ (Ac ?_ (Az _))))))))))))))))))))
 exact Ap fun aq wq _ hO hR hT => does_field (o' := 0) fld_30_0 (oT hO s2_1 rfl) rfl eR
 exact Ap fun aq wq _ hO hR hT => does_loadD1 (o := 0) (V := i64 (i)) (hT 5 rfl rfl) (B2_1.ext' hR) rfl one_3 eR
 exact Ap fun aq wq _ hO hR hT => does_field (o' := 0) fld_30_0 (oT hO s3_1 rfl) rfl eR
 exact Ap fun aq wq _ hO hR hT => does_loadD1 (o := 0) (V := i64 (j)) (hT 7 rfl rfl) (B3_1.ext' hR) rfl one_3 eR
 exact Ap fun aq wq _ hO hR hT => does_eql (a := i) (b := j) (hT 6 rfl rfl) (hT 8 rfl rfl) eR
 exact Ap fun aq wq _ hO hR hT => does_move (V := Value.bool (decide (i = j))) (hT 9 rfl rfl) eR
 refine Ask.guarded (B := decide (i = j)) (want := true) (t := 10) rfl rfl rfl rfl (by decide) (fun aq wq hO hR hT => hT 10 rfl rfl) (fun hG aq wq hNq hO hR hT => ?_) (fun hno _ => fun hc => absurd hc hno)
 exact does_field (o' := 1) fld_30_1 (oT hO s2_1 rfl) rfl ⟨Ext.refl _, fun _ => rfl⟩
 refine Ask.guarded (B := decide (i = j)) (want := true) (t := 10) rfl rfl rfl rfl (by decide) (fun aq wq hO hR hT => hT 10 rfl rfl) (fun hG aq wq hNq hO hR hT => ?_) (fun hno _ => fun hc => absurd hc hno)
 exact does_loadD1 (o := 1) (V := x1) (hT 11 rfl rfl hG) (B2_1.ext' hR) rfl one_28 ⟨Ext.refl _, fun _ => rfl⟩
 refine Ask.guarded (B := decide (i = j)) (want := true) (t := 10) rfl rfl rfl rfl (by decide) (fun aq wq hO hR hT => hT 10 rfl rfl) (fun hG aq wq hNq hO hR hT => ?_) (fun hno _ => fun hc => absurd hc hno)
 exact does_field (o' := 1) fld_30_1 (oT hO s3_1 rfl) rfl ⟨Ext.refl _, fun _ => rfl⟩
 refine Ask.guarded (B := decide (i = j)) (want := true) (t := 10) rfl rfl rfl rfl (by decide) (fun aq wq hO hR hT => hT 10 rfl rfl) (fun hG aq wq hNq hO hR hT => ?_) (fun hno _ => fun hc => absurd hc hno)
 exact does_loadD1 (o := 1) (V := x3) (hT 13 rfl rfl hG) (B3_1.ext' hR) rfl one_28 ⟨Ext.refl _, fun _ => rfl⟩
 refine Ask.guarded (B := decide (i = j)) (want := true) (t := 10) rfl rfl rfl rfl (by decide) (fun aq wq hO hR hT => hT 10 rfl rfl) (fun hG aq wq hNq hO hR hT => ?_) (fun hno _ => fun hc => absurd hc hno)
 exact does_ret (vs := #[x1, x3]) call_26 (args2 (hT 12 rfl rfl hG) (hT 14 rfl rfl hG)) rfl ((list_ a c (x1) (x3) wq ((X1_1.ext' hR).wide (Nat.zero_le _) (.inl rfl)) ((X3_1.ext' hR).wide (Nat.zero_le _) (.inl rfl)) hn1).mono fun v w2 h => ⟨h.2, fun _ => h.1⟩)
 exact Ap fun aq wq _ hO hR hT => does_and (B := decide (i = j)) (X := decide (a = c)) (hT 10 rfl rfl) (fun hB => (hT 15 rfl rfl hB)) rfl eR
 exact Ap fun aq wq _ hO hR hT => does_move (V := Value.bool ((decide (i = j)) && (decide (a = c)))) (hT 16 rfl rfl) eR
 refine Ask.guarded (B := (decide (i = j)) && (decide (a = c))) (want := true) (t := 17) rfl rfl rfl rfl (by decide) (fun aq wq hO hR hT => hT 17 rfl rfl) (fun hG aq wq hNq hO hR hT => ?_) (fun hno _ => fun hc => absurd hc hno)
 exact does_field (o' := 2) fld_30_2 (oT hO s2_1 rfl) rfl ⟨Ext.refl _, fun _ => rfl⟩
 refine Ask.guarded (B := (decide (i = j)) && (decide (a = c))) (want := true) (t := 17) rfl rfl rfl rfl (by decide) (fun aq wq hO hR hT => hT 17 rfl rfl) (fun hG aq wq hNq hO hR hT => ?_) (fun hno _ => fun hc => absurd hc hno)
 exact does_loadD1 (o := 2) (V := x2) (hT 18 rfl rfl hG) (B2_1.ext' hR) rfl one_27 ⟨Ext.refl _, fun _ => rfl⟩
 refine Ask.guarded (B := (decide (i = j)) && (decide (a = c))) (want := true) (t := 17) rfl rfl rfl rfl (by decide) (fun aq wq hO hR hT => hT 17 rfl rfl) (fun hG aq wq hNq hO hR hT => ?_) (fun hno _ => fun hc => absurd hc hno)
 exact does_field (o' := 2) fld_30_2 (oT hO s3_1 rfl) rfl ⟨Ext.refl _, fun _ => rfl⟩
 refine Ask.guarded (B := (decide (i = j)) && (decide (a = c))) (want := true) (t := 17) rfl rfl rfl rfl (by decide) (fun aq wq hO hR hT => hT 17 rfl rfl) (fun hG aq wq hNq hO hR hT => ?_) (fun hno _ => fun hc => absurd hc hno)
 exact does_loadD1 (o := 2) (V := x4) (hT 20 rfl rfl hG) (B3_1.ext' hR) rfl one_27 ⟨Ext.refl _, fun _ => rfl⟩
 refine Ask.guarded (B := (decide (i = j)) && (decide (a = c))) (want := true) (t := 17) rfl rfl rfl rfl (by decide) (fun aq wq hO hR hT => hT 17 rfl rfl) (fun hG aq wq hNq hO hR hT => ?_) (fun hno _ => fun hc => absurd hc hno)
 exact does_ret (vs := #[x2, x4]) call_26 (args2 (hT 19 rfl rfl hG) (hT 21 rfl rfl hG)) rfl ((list_ b d (x2) (x4) wq ((X2_1.ext' hR).wide (Nat.zero_le _) (.inl rfl)) ((X4_1.ext' hR).wide (Nat.zero_le _) (.inl rfl)) hn2).mono fun v w2 h => ⟨h.2, fun _ => h.1⟩)
 exact Ap fun aq wq _ hO hR hT => does_and (B := (decide (i = j)) && (decide (a = c))) (X := decide (b = d)) (hT 17 rfl rfl) (fun hB => (hT 22 rfl rfl hB)) rfl eR
 exact Ap fun aq wq _ hO hR hT => does_assign (V := Value.bool (((decide (i = j)) && (decide (a = c))) && (decide (b = d)))) (hT 23 rfl rfl) eR
 intro a2 wd2 N2 D2 hO hR hA hU
 obtain ⟨_, _, _, _, _, _, _, _, _, _, _, _, _, _, _, _, _, _, _, t4, _⟩ := hA
 have E2 := E1.trans hR
 have B2_2 := B2_1.ext' hR
 have B3_2 := B3_1.ext' hR
 have X1_2 := X1_1.ext' hR
 have X2_2 := X2_1.ext' hR
 have X3_2 := X3_1.ext' hR
 have X4_2 := X4_1.ext' hR
 have s4_2 : get a2 4 = Value.bool (((decide (i = j)) && (decide (a = c))) && (decide (b = d))) := t4
 clear E1 N1 D1 s2_1 s3_1 B2_1 B3_1 X1_1 X2_1 X3_1 X4_1
 refine tail_nil ?_
 refine wp_ret ?_
 refine res_one (V := Value.bool (((decide (i = j)) && (decide (a = c))) && (decide (b = d)))) rfl D2 s4_2 ?_
 exact ⟨rfl, E2⟩

end Go.Proofs.YtaeohnkfmachfaaDoor
