/- The walks of functions of the program: printed. -/
import Derived.Test.YtmmghpbncejfiaaDoorKB
import Derived.Test.YtmmghpbncejfiaaDoorG111
import Derived.Test.YtmmghpbncejfiaaDoorG112
import Derived.Test.YtmmghpbncejfiaaDoorG113
import Derived.Test.YtmmghpbncejfiaaDoorF0
set_option maxRecDepth 100000
namespace Go.Proofs.YtmmghpbncejfiaaDoor
open Go Go.RowKit Sk Sd
theorem call_8 : Callable Tryd.prog 8 := ⟨_, Tryd.func8, by kernel_rfl, rfl⟩
theorem fld_38_2 : FieldIs Tryd.prog 38 2 16 := ⟨_, _, 6, Tryd.underlying38, rfl, rfl, by kernel_rfl⟩
theorem call_9 : Callable Tryd.prog 9 := ⟨_, Tryd.func9, by kernel_rfl, rfl⟩
theorem fld_38_3 : FieldIs Tryd.prog 38 3 23 := ⟨_, _, 6, Tryd.underlying38, rfl, rfl, by kernel_rfl⟩
theorem fld_38_0 : FieldIs Tryd.prog 38 0 0 := ⟨_, _, 7, Tryd.underlying38, rfl, rfl, by kernel_rfl⟩
theorem fld_38_1 : FieldIs Tryd.prog 38 1 8 := ⟨_, _, 7, Tryd.underlying38, rfl, rfl, by kernel_rfl⟩
theorem call_15 : Callable Tryd.prog 15 := ⟨_, Tryd.func15, by kernel_rfl, rfl⟩
theorem linkTwice (ra oa rb ob bs : Dg) (i : Int) (s p : List Dg) (bt : Dg) (j : Int) (t q : List Dg) (x1 x2 x3 x4 : Value) (w0 : World) (hL : Laid w0) (hx1 : SlT DG 0 0 s x1 w0) (hx2 : SlT DG 0 0 p x2 w0) (hx3 : SlT DG 0 0 t x3 w0) (hx4 : SlT DG 0 0 q x4 w0) :
    Gives Tryd.prog 4 #[Value.agg #[w32 (ra).a, w32 (ra).b, w32 (ra).c, w32 (ra).d, w32 (oa).a, w32 (oa).b, w32 (oa).c, w32 (oa).d, w32 (rb).a, w32 (rb).b, w32 (rb).c, w32 (rb).d, w32 (ob).a, w32 (ob).b, w32 (ob).c, w32 (ob).d, w32 (bs).a, w32 (bs).b, w32 (bs).c, w32 (bs).d, i64 (i), x1, x2, w32 (bt).a, w32 (bt).b, w32 (bt).c, w32 (bt).d, i64 (j), x3, x4]] w0 (Pr.ex (Value.bool true)) := by
 refine enter (N := 61) Tryd.func4 rfl rfl ?_
 intro a0 N0 D0 hA
 have s0_0 : get a0 0 = Value.agg #[w32 (ra).a, w32 (ra).b, w32 (ra).c, w32 (ra).d, w32 (oa).a, w32 (oa).b, w32 (oa).c, w32 (oa).d, w32 (rb).a, w32 (rb).b, w32 (rb).c, w32 (rb).d, w32 (ob).a, w32 (ob).b, w32 (ob).c, w32 (ob).d, w32 (bs).a, w32 (bs).b, w32 (bs).c, w32 (bs).d, i64 (i), x1, x2, w32 (bt).a, w32 (bt).b, w32 (bt).c, w32 (bt).d, i64 (j), x3, x4] := hA 0 _ rfl
 clear hA
 have E0 : Ext w0 w0 := Ext.refl w0
 have X1_0 := hx1.close
 have X2_0 := hx2.close
 have X3_0 := hx3.close
 have X4_0 := hx4.close
 refine wp_seq ?_
 refine Rl [1] [(1, Pr.box' w0.heap.size 38 [w32 (ra).a, w32 (ra).b, w32 (ra).c, w32 (ra).d, w32 (oa).a, w32 (oa).b, w32 (oa).c, w32 (oa).d, w32 (rb).a, w32 (rb).b, w32 (rb).c, w32 (rb).d, w32 (ob).a, w32 (ob).b, w32 (ob).c, w32 (ob).d, w32 (bs).a, w32 (bs).b, w32 (bs).c, w32 (bs).d, i64 (i), x1, x2, w32 (bt).a, w32 (bt).b, w32 (bt).c, w32 (bt).d, i64 (j), x3, x4]), (2, Pr.ex (Value.bool (false)))] 2 N0 D0 ?_ ?_
 refine Ac ?_ (Ac ?_ (Az _))
 refine Ask.fresh rfl rfl ?_
 intro aq wq hNq hO hR hT
 exact does_box (V := Value.agg #[w32 (ra).a, w32 (ra).b, w32 (ra).c, w32 (ra).d, w32 (oa).a, w32 (oa).b, w32 (oa).c, w32 (oa).d, w32 (rb).a, w32 (rb).b, w32 (rb).c, w32 (rb).d, w32 (ob).a, w32 (ob).b, w32 (ob).c, w32 (ob).d, w32 (bs).a, w32 (bs).b, w32 (bs).c, w32 (bs).d, i64 (i), x1, x2, w32 (bt).a, w32 (bt).b, w32 (bt).c, w32 (bt).d, i64 (j), x3, x4]) (oT hO s0_0 rfl) (fun b w2 he hlo hb => ⟨he, ⟨b, rfl, Nat.le_trans hR.size' hlo, hb⟩, ⟨b, rfl, hlo, hb.lt⟩⟩)
 exact Ap fun aq wq _ hO hR hT => does_assign (V := Value.bool (false)) rfl eR
 intro a1 wd1 N1 D1 hO hR hA hU
 obtain ⟨t1, _, _⟩ := hA
 have E1 := E0.trans hR
 have X1_1 := X1_0.ext' hR
 have X2_1 := X2_0.ext' hR
 have X3_1 := X3_0.ext' hR
 have X4_1 := X4_0.ext' hR
 obtain ⟨b1, s1_1, lo_b1, B1_1⟩ := t1
 have nb_x1_b1 := SlT.old X1_0 lo_b1
 have nb_x2_b1 := SlT.old X2_0 lo_b1
 have nb_x3_b1 := SlT.old X3_0 lo_b1
 have nb_x4_b1 := SlT.old X4_0 lo_b1
 have fr_b1 : w0.heap.size ≤ b1 := Nat.le_trans E0.size' lo_b1
 clear E0 N0 D0 s0_0 X1_0 X2_0 X3_0 X4_0
 refine tail_nil ?_
 refine wp_seq ?_
 refine wp_seq ?_
 refine Rl [] [(4, Pr.ex (Value.bool (true))), (5, Pr.ex (Value.bool (false)))] 2 N1 D1 ?_ ?_
 refine Ac ?_ (Ac ?_ (Az _))
 exact Ap fun aq wq _ hO hR hT => does_ret (vs := #[]) call_8 args0 rfl ((awake44 wq (hL.ext (E1.trans hR))).mono fun v w2 h => ⟨h.2, h.1⟩)
 exact Ap fun aq wq _ hO hR hT => does_not (B := true) (hT 4 rfl rfl) eR
 intro a2 wd2 N2 D2 hO hR hA hU
 obtain ⟨_, t5, _⟩ := hA
 have E2 := E1.trans hR
 have s1_2 := oT hO s1_1 rfl
 have B1_2 := B1_1.ext' hR
 have X1_2 := X1_1.ext' hR
 have X2_2 := X2_1.ext' hR
 have X3_2 := X3_1.ext' hR
 have X4_2 := X4_1.ext' hR
 have s5_2 : get a2 5 = Value.bool (false) := t5
 clear E1 N1 D1 s1_1 B1_1 X1_1 X2_1 X3_1 X4_1
 refine tail_nil ?_
 refine wp_ifF s5_2 ?_
 refine wp_skip ?_
 refine wp_seq ?_
 refine wp_seq ?_
 refine Rl [] [(6, Pr.ex (Value.pointer (some ⟨b1, 16, none⟩))), (7, Pr.ex (Value.agg #[w32 (bs).a, w32 (bs).b, w32 (bs).c, w32 (bs).d, i64 (i), x1, x2])), (8, Pr.ex (Value.bool (decide ((s.length : Int) ≤ ((40 : Nat) : Int)) && decide ((p.length : Int) ≤ ((6 : Nat) : Int))))), (9, Pr.ex (Value.bool (!(decide ((s.length : Int) ≤ ((40 : Nat) : Int)) && decide ((p.length : Int) ≤ ((6 : Nat) : Int)))))), (10, Pr.ex (Value.bool (!(decide ((s.length : Int) ≤ ((40 : Nat) : Int)) && decide ((p.length : Int) ≤ ((6 : Nat) : Int)))))), (11, Pr.ifb (!(!(decide ((s.length : Int) ≤ ((40 : Nat) : Int)) && decide ((p.length : Int) ≤ ((6 : Nat) : Int))))) (Pr.ex (Value.pointer (some ⟨b1, 23, none⟩)))), (12, Pr.ifb (!(!(decide ((s.length : Int) ≤ ((40 : Nat) : Int)) && decide ((p.length : Int) ≤ ((6 : Nat) : Int))))) (Pr.ex (Value.agg #[w32 (bt).a, w32 (bt).b, w32 (bt).c, w32 (bt).d, i64 (j), x3, x4]))), (13, Pr.ifb (!(!(decide ((s.length : Int) ≤ ((40 : Nat) : Int)) && decide ((p.length : Int) ≤ ((6 : Nat) : Int))))) (Pr.ex (Value.bool (decide ((t.length : Int) ≤ ((40 : Nat) : Int)) && decide ((q.length : Int) ≤ ((6 : Nat) : Int)))))), (14, Pr.ifb (!(!(decide ((s.length : Int) ≤ ((40 : Nat) : Int)) && decide ((p.length : Int) ≤ ((6 : Nat) : Int))))) (Pr.ex (Value.bool (!(decide ((t.length : Int) ≤ ((40 : Nat) : Int)) && decide ((q.length : Int) ≤ ((6 : Nat) : Int))))))), (15, Pr.ex (Value.bool ((!(decide ((s.length : Int) ≤ ((40 : Nat) : Int)) && decide ((p.length : Int) ≤ ((6 : Nat) : Int)))) || (!(decide ((t.length : Int) ≤ ((40 : Nat) : Int)) && decide ((q.length : Int) ≤ ((6 : Nat) : Int)))))))] 10 N2 D2 ?_ ?_
 refine Ac ?_ (Ac ?_ (Ac ?_ (Ac ?_ (Ac ?_ (Ac ?_ (Ac ?_ (Ac ?_ (Ac ?_ (Ac ?_ (Az _))))))))))
 exact Ap fun aq wq _ hO hR hT => does_field (o' := 16) fld_38_2 (oT hO s1_2 rfl) rfl eR
 exact Ap fun aq wq _ hO hR hT => does_loadD (o := 16) (n := 7) (mid := [w32 (bs).a, w32 (bs).b, w32 (bs).c, w32 (bs).d, i64 (i), x1, x2]) (hT 6 rfl rfl) (B1_2.ext' hR) rfl rfl (nB rfl) row_32 rfl eR
 exact Ap fun aq wq _ hO hR hT => does_ret (vs := #[Value.agg #[w32 (bs).a, w32 (bs).b, w32 (bs).c, w32 (bs).d, i64 (i), x1, x2]]) call_9 (args1 (hT 7 rfl rfl)) rfl ((short44 bs (i) s p (x1) (x2) wq ((X1_2.ext' hR).wide (Nat.zero_le _) (.inl rfl)) ((X2_2.ext' hR).wide (Nat.zero_le _) (.inl rfl))).mono fun v w2 h => ⟨h.2, h.1⟩)
 exact Ap fun aq wq _ hO hR hT => does_not (B := decide ((s.length : Int) ≤ ((40 : Nat) : Int)) && decide ((p.length : Int) ≤ ((6 : Nat) : Int))) (hT 8 rfl rfl) eR
 exact Ap fun aq wq _ hO hR hT => does_move (V := Value.bool (!(decide ((s.length : Int) ≤ ((40 : Nat) : Int)) && decide ((p.length : Int) ≤ ((6 : Nat) : Int))))) (hT 9 rfl rfl) eR
 refine Ask.guarded (B := !(decide ((s.length : Int) ≤ ((40 : Nat) : Int)) && decide ((p.length : Int) ≤ ((6 : Nat) : Int)))) (want := false) (t := 10) rfl rfl rfl rfl (by decide) (fun aq wq hO hR hT => hT 10 rfl rfl) (fun hG aq wq hNq hO hR hT => ?_) (fun hno _ => fun hc => absurd (bn hc) hno)
 replace hG := nb hG
 exact does_field (o' := 23) fld_38_3 (oT hO s1_2 rfl) rfl ⟨Ext.refl _, fun _ => rfl⟩
 refine Ask.guarded (B := !(decide ((s.length : Int) ≤ ((40 : Nat) : Int)) && decide ((p.length : Int) ≤ ((6 : Nat) : Int)))) (want := false) (t := 10) rfl rfl rfl rfl (by decide) (fun aq wq hO hR hT => hT 10 rfl rfl) (fun hG aq wq hNq hO hR hT => ?_) (fun hno _ => fun hc => absurd (bn hc) hno)
 replace hG := nb hG
 exact does_loadD (o := 23) (n := 7) (mid := [w32 (bt).a, w32 (bt).b, w32 (bt).c, w32 (bt).d, i64 (j), x3, x4]) (hT 11 rfl rfl hG) (B1_2.ext' hR) rfl rfl (nB rfl) row_32 rfl ⟨Ext.refl _, fun _ => rfl⟩
 refine Ask.guarded (B := !(decide ((s.length : Int) ≤ ((40 : Nat) : Int)) && decide ((p.length : Int) ≤ ((6 : Nat) : Int)))) (want := false) (t := 10) rfl rfl rfl rfl (by decide) (fun aq wq hO hR hT => hT 10 rfl rfl) (fun hG aq wq hNq hO hR hT => ?_) (fun hno _ => fun hc => absurd (bn hc) hno)
 replace hG := nb hG
 exact does_ret (vs := #[Value.agg #[w32 (bt).a, w32 (bt).b, w32 (bt).c, w32 (bt).d, i64 (j), x3, x4]]) call_9 (args1 (hT 12 rfl rfl hG)) rfl ((short44 bt (j) t q (x3) (x4) wq ((X3_2.ext' hR).wide (Nat.zero_le _) (.inl rfl)) ((X4_2.ext' hR).wide (Nat.zero_le _) (.inl rfl))).mono fun v w2 h => ⟨h.2, fun _ => h.1⟩)
 refine Ask.guarded (B := !(decide ((s.length : Int) ≤ ((40 : Nat) : Int)) && decide ((p.length : Int) ≤ ((6 : Nat) : Int)))) (want := false) (t := 10) rfl rfl rfl rfl (by decide) (fun aq wq hO hR hT => hT 10 rfl rfl) (fun hG aq wq hNq hO hR hT => ?_) (fun hno _ => fun hc => absurd (bn hc) hno)
 replace hG := nb hG
 exact does_not (B := decide ((t.length : Int) ≤ ((40 : Nat) : Int)) && decide ((q.length : Int) ≤ ((6 : Nat) : Int))) (hT 13 rfl rfl hG) ⟨Ext.refl _, fun _ => rfl⟩
 exact Ap fun aq wq _ hO hR hT => does_or (B := !(decide ((s.length : Int) ≤ ((40 : Nat) : Int)) && decide ((p.length : Int) ≤ ((6 : Nat) : Int)))) (X := !(decide ((t.length : Int) ≤ ((40 : Nat) : Int)) && decide ((q.length : Int) ≤ ((6 : Nat) : Int)))) (hT 10 rfl rfl) rfl (fun hB => (hT 14 rfl rfl (nb hB))) eR
 intro a3 wd3 N3 D3 hO hR hA hU
 obtain ⟨_, _, _, _, _, _, _, _, _, t15, _⟩ := hA
 have E3 := E2.trans hR
 have s1_3 := oT hO s1_2 rfl
 have B1_3 := B1_2.ext' hR
 have X1_3 := X1_2.ext' hR
 have X2_3 := X2_2.ext' hR
 have X3_3 := X3_2.ext' hR
 have X4_3 := X4_2.ext' hR
 have s15_3 : get a3 15 = Value.bool ((!(decide ((s.length : Int) ≤ ((40 : Nat) : Int)) && decide ((p.length : Int) ≤ ((6 : Nat) : Int)))) || (!(decide ((t.length : Int) ≤ ((40 : Nat) : Int)) && decide ((q.length : Int) ≤ ((6 : Nat) : Int))))) := t15
 clear E2 N2 D2 s1_2 s5_2 B1_2 X1_2 X2_2 X3_2 X4_2
 refine tail_nil ?_
 refine wp_if (B := (!(decide ((s.length : Int) ≤ ((40 : Nat) : Int)) && decide ((p.length : Int) ≤ ((6 : Nat) : Int)))) || (!(decide ((t.length : Int) ≤ ((40 : Nat) : Int)) && decide ((q.length : Int) ≤ ((6 : Nat) : Int))))) s15_3 (fun hc0 => ?_) (fun hc0 => ?_)
 refine wp_seq ?_
 refine Rl [] [(2, Pr.ex (Value.bool (true)))] 1 N3 D3 ?_ ?_
 refine Ac ?_ (Az _)
 exact Ap fun aq wq _ hO hR hT => does_assign (V := Value.bool (true)) rfl eR
 intro a4 wd4 N4 D4 hO hR hA hU
 obtain ⟨t2, _⟩ := hA
 have E4 := E3.trans hR
 have B1_4 := B1_3.ext' hR
 have X1_4 := X1_3.ext' hR
 have X2_4 := X2_3.ext' hR
 have X3_4 := X3_3.ext' hR
 have X4_4 := X4_3.ext' hR
 have s2_4 : get a4 2 = Value.bool (true) := t2
 clear E3 N3 D3 s1_3 s15_3 B1_3 X1_3 X2_3 X3_3 X4_3
 refine tail_nil ?_
 refine wp_ret ?_
 refine res_one (V := Value.bool (true)) rfl D4 s2_4 ?_
 exact ⟨rfl, E4⟩
 have h46 : (s.length ≤ 40 ∧ p.length ≤ 6) ∧ t.length ≤ 40 ∧ q.length ≤ 6 := by simp at hc0; omega
 have hns : s.length ≤ 100000 := by omega
 have hnp : p.length ≤ 100000 := by omega
 have hnt : t.length ≤ 100000 := by omega
 have hnq : q.length ≤ 100000 := by omega
 refine wp_skip ?_
 refine wp_seq ?_
 refine Rl [] [(16, Pr.ex (Value.pointer (some ⟨b1, 0, none⟩))), (17, Pr.ex (Value.agg #[w32 (ra).a, w32 (ra).b, w32 (ra).c, w32 (ra).d, w32 (oa).a, w32 (oa).b, w32 (oa).c, w32 (oa).d])), (18, Pr.ex (Value.pointer (some ⟨b1, 16, none⟩))), (19, Pr.ex (Value.agg #[w32 (bs).a, w32 (bs).b, w32 (bs).c, w32 (bs).d, i64 (i), x1, x2])), (20, Pr.ex (Value.pointer (some ⟨b1, 8, none⟩))), (21, Pr.ex (Value.agg #[w32 (rb).a, w32 (rb).b, w32 (rb).c, w32 (rb).d, w32 (ob).a, w32 (ob).b, w32 (ob).c, w32 (ob).d])), (22, Pr.ex (Value.pointer (some ⟨b1, 23, none⟩))), (23, Pr.ex (Value.agg #[w32 (bt).a, w32 (bt).b, w32 (bt).c, w32 (bt).d, i64 (j), x3, x4])), (24, Pr.ex (Value.bool (twiceB bs ra oa (i) s p bt rb ob (j) t q))), (3, Pr.ex (Value.bool (twiceB bs ra oa (i) s p bt rb ob (j) t q)))] 10 N3 D3 ?_ ?_
 refine Ac ?_ (Ac ?_ (Ac ?_ (Ac ?_ (Ac ?_ (Ac ?_ (Ac ?_ (Ac ?_ (Ac ?_ (Ac ?_ (Az _))))))))))
 exact Ap fun aq wq _ hO hR hT => does_field (o' := 0) fld_38_0 (oT hO s1_3 rfl) rfl eR
 exact Ap fun aq wq _ hO hR hT => does_loadD (o := 0) (n := 8) (mid := [w32 (ra).a, w32 (ra).b, w32 (ra).c, w32 (ra).d, w32 (oa).a, w32 (oa).b, w32 (oa).c, w32 (oa).d]) (hT 16 rfl rfl) (B1_3.ext' hR) rfl rfl (nB rfl) row_26 rfl eR
 exact Ap fun aq wq _ hO hR hT => does_field (o' := 16) fld_38_2 (oT hO s1_3 rfl) rfl eR
 exact Ap fun aq wq _ hO hR hT => does_loadD (o := 16) (n := 7) (mid := [w32 (bs).a, w32 (bs).b, w32 (bs).c, w32 (bs).d, i64 (i), x1, x2]) (hT 18 rfl rfl) (B1_3.ext' hR) rfl rfl (nB rfl) row_32 rfl eR
 exact Ap fun aq wq _ hO hR hT => does_field (o' := 8) fld_38_1 (oT hO s1_3 rfl) rfl eR
 exact Ap fun aq wq _ hO hR hT => does_loadD (o := 8) (n := 8) (mid := [w32 (rb).a, w32 (rb).b, w32 (rb).c, w32 (rb).d, w32 (ob).a, w32 (ob).b, w32 (ob).c, w32 (ob).d]) (hT 20 rfl rfl) (B1_3.ext' hR) rfl rfl (nB rfl) row_26 rfl eR
 exact Ap fun aq wq _ hO hR hT => does_field (o' := 23) fld_38_3 (oT hO s1_3 rfl) rfl eR
 exact Ap fun aq wq _ hO hR hT => does_loadD (o := 23) (n := 7) (mid := [w32 (bt).a, w32 (bt).b, w32 (bt).c, w32 (bt).d, i64 (j), x3, x4]) (hT 22 rfl rfl) (B1_3.ext' hR) rfl rfl (nB rfl) row_32 rfl eR
 exact Ap fun aq wq _ hO hR hT => does_ret (vs := #[Value.agg #[w32 (ra).a, w32 (ra).b, w32 (ra).c, w32 (ra).d, w32 (oa).a, w32 (oa).b, w32 (oa).c, w32 (oa).d], Value.agg #[w32 (bs).a, w32 (bs).b, w32 (bs).c, w32 (bs).d, i64 (i), x1, x2], Value.agg #[w32 (rb).a, w32 (rb).b, w32 (rb).c, w32 (rb).d, w32 (ob).a, w32 (ob).b, w32 (ob).c, w32 (ob).d], Value.agg #[w32 (bt).a, w32 (bt).b, w32 (bt).c, w32 (bt).d, i64 (j), x3, x4]]) call_14 (args4 (hT 17 rfl rfl) (hT 19 rfl rfl) (hT 21 rfl rfl) (hT 23 rfl rfl)) rfl ((twice_ ra oa bs (i) s p rb ob bt (j) t q (x1) (x2) (x3) (x4) wq (hL.ext (E3.trans hR)) ((X1_3.ext' hR).wide (Nat.zero_le _) (.inl rfl)) ((X2_3.ext' hR).wide (Nat.zero_le _) (.inl rfl)) ((X3_3.ext' hR).wide (Nat.zero_le _) (.inl rfl)) ((X4_3.ext' hR).wide (Nat.zero_le _) (.inl rfl)) hns hnp hnt hnq).mono fun v w2 h => ⟨h.2, h.1⟩)
 exact Ap fun aq wq _ hO hR hT => does_assign (V := Value.bool (twiceB bs ra oa (i) s p bt rb ob (j) t q)) (hT 24 rfl rfl) eR
 intro a5 wd5 N5 D5 hO hR hA hU
 obtain ⟨_, _, _, _, _, _, _, _, _, t3, _⟩ := hA
 have E5 := E3.trans hR
 have s1_5 := oT hO s1_3 rfl
 have B1_5 := B1_3.ext' hR
 have X1_5 := X1_3.ext' hR
 have X2_5 := X2_3.ext' hR
 have X3_5 := X3_3.ext' hR
 have X4_5 := X4_3.ext' hR
 have s3_5 : get a5 3 = Value.bool (twiceB bs ra oa (i) s p bt rb ob (j) t q) := t3
 clear E3 N3 D3 s1_3 s15_3 B1_3 X1_3 X2_3 X3_3 X4_3
 refine tail_nil ?_
 refine wp_seq ?_
 refine Rl [] [(25, Pr.ex (Value.bool (twiceB bs ra oa (i) s p bt rb ob (j) t q))), (26, Pr.ex (Value.pointer (some ⟨b1, 0, none⟩))), (27, Pr.ex (Value.agg #[w32 (ra).a, w32 (ra).b, w32 (ra).c, w32 (ra).d, w32 (oa).a, w32 (oa).b, w32 (oa).c, w32 (oa).d])), (28, Pr.ex (Value.pointer (some ⟨b1, 16, none⟩))), (29, Pr.ex (Value.agg #[w32 (bs).a, w32 (bs).b, w32 (bs).c, w32 (bs).d, i64 (i), x1, x2])), (30, Pr.ex (Value.pointer (some ⟨b1, 8, none⟩))), (31, Pr.ex (Value.agg #[w32 (rb).a, w32 (rb).b, w32 (rb).c, w32 (rb).d, w32 (ob).a, w32 (ob).b, w32 (ob).c, w32 (ob).d])), (32, Pr.ex (Value.pointer (some ⟨b1, 23, none⟩))), (33, Pr.ex (Value.agg #[w32 (bt).a, w32 (bt).b, w32 (bt).c, w32 (bt).d, i64 (j), x3, x4])), (34, Pr.ex (Value.bool (twiceB bs ra oa (i) s p bt rb ob (j) t q))), (35, Pr.ex (Value.bool (((twiceB bs ra oa (i) s p bt rb ob (j) t q) == (twiceB bs ra oa (i) s p bt rb ob (j) t q))))), (36, Pr.ex (Value.bool (((twiceB bs ra oa (i) s p bt rb ob (j) t q) == (twiceB bs ra oa (i) s p bt rb ob (j) t q))))), (37, Pr.ifb (((twiceB bs ra oa (i) s p bt rb ob (j) t q) == (twiceB bs ra oa (i) s p bt rb ob (j) t q))) (Pr.ex (Value.pointer (some ⟨b1, 8, none⟩)))), (38, Pr.ifb (((twiceB bs ra oa (i) s p bt rb ob (j) t q) == (twiceB bs ra oa (i) s p bt rb ob (j) t q))) (Pr.ex (Value.agg #[w32 (rb).a, w32 (rb).b, w32 (rb).c, w32 (rb).d, w32 (ob).a, w32 (ob).b, w32 (ob).c, w32 (ob).d]))), (39, Pr.ifb (((twiceB bs ra oa (i) s p bt rb ob (j) t q) == (twiceB bs ra oa (i) s p bt rb ob (j) t q))) (Pr.ex (Value.pointer (some ⟨b1, 23, none⟩)))), (40, Pr.ifb (((twiceB bs ra oa (i) s p bt rb ob (j) t q) == (twiceB bs ra oa (i) s p bt rb ob (j) t q))) (Pr.ex (Value.agg #[w32 (bt).a, w32 (bt).b, w32 (bt).c, w32 (bt).d, i64 (j), x3, x4]))), (41, Pr.ifb (((twiceB bs ra oa (i) s p bt rb ob (j) t q) == (twiceB bs ra oa (i) s p bt rb ob (j) t q))) (Pr.ex (Value.pointer (some ⟨b1, 0, none⟩)))), (42, Pr.ifb (((twiceB bs ra oa (i) s p bt rb ob (j) t q) == (twiceB bs ra oa (i) s p bt rb ob (j) t q))) (Pr.ex (Value.agg #[w32 (ra).a, w32 (ra).b, w32 (ra).c, w32 (ra).d, w32 (oa).a, w32 (oa).b, w32 (oa).c, w32 (oa).d]))), (43, Pr.ifb (((twiceB bs ra oa (i) s p bt rb ob (j) t q) == (twiceB bs ra oa (i) s p bt rb ob (j) t q))) (Pr.ex (Value.pointer (some ⟨b1, 16, none⟩)))), (44, Pr.ifb (((twiceB bs ra oa (i) s p bt rb ob (j) t q) == (twiceB bs ra oa (i) s p bt rb ob (j) t q))) (Pr.ex (Value.agg #[w32 (bs).a, w32 (bs).b, w32 (bs).c, w32 (bs).d, i64 (i), x1, x2]))), (45, Pr.ifb (((twiceB bs ra oa (i) s p bt rb ob (j) t q) == (twiceB bs ra oa (i) s p bt rb ob (j) t q))) (Pr.ex (Value.bool (twiceB bt rb ob (j) t q bs ra oa (i) s p)))), (46, Pr.ifb (((twiceB bs ra oa (i) s p bt rb ob (j) t q) == (twiceB bs ra oa (i) s p bt rb ob (j) t q))) (Pr.ex (Value.bool (twiceB bs ra oa (i) s p bt rb ob (j) t q)))), (47, Pr.ifb (((twiceB bs ra oa (i) s p bt rb ob (j) t q) == (twiceB bs ra oa (i) s p bt rb ob (j) t q))) (Pr.ex (Value.bool (((twiceB bt rb ob (j) t q bs ra oa (i) s p) == (twiceB bs ra oa (i) s p bt rb ob (j) t q)))))), (48, Pr.ex (Value.bool ((((twiceB bs ra oa (i) s p bt rb ob (j) t q) == (twiceB bs ra oa (i) s p bt rb ob (j) t q))) && (((twiceB bt rb ob (j) t q bs ra oa (i) s p) == (twiceB bs ra oa (i) s p bt rb ob (j) t q)))))), (49, Pr.ex (Value.bool ((((twiceB bs ra oa (i) s p bt rb ob (j) t q) == (twiceB bs ra oa (i) s p bt rb ob (j) t q))) && (((twiceB bt rb ob (j) t q bs ra oa (i) s p) == (twiceB bs ra oa (i) s p bt rb ob (j) t q)))))), (50, Pr.ifb ((((twiceB bs ra oa (i) s p bt rb ob (j) t q) == (twiceB bs ra oa (i) s p bt rb ob (j) t q))) && (((twiceB bt rb ob (j) t q bs ra oa (i) s p) == (twiceB bs ra oa (i) s p bt rb ob (j) t q)))) (Pr.ex (Value.pointer (some ⟨b1, 0, none⟩)))), (51, Pr.ifb ((((twiceB bs ra oa (i) s p bt rb ob (j) t q) == (twiceB bs ra oa (i) s p bt rb ob (j) t q))) && (((twiceB bt rb ob (j) t q bs ra oa (i) s p) == (twiceB bs ra oa (i) s p bt rb ob (j) t q)))) (Pr.ex (Value.agg #[w32 (ra).a, w32 (ra).b, w32 (ra).c, w32 (ra).d, w32 (oa).a, w32 (oa).b, w32 (oa).c, w32 (oa).d]))), (52, Pr.ifb ((((twiceB bs ra oa (i) s p bt rb ob (j) t q) == (twiceB bs ra oa (i) s p bt rb ob (j) t q))) && (((twiceB bt rb ob (j) t q bs ra oa (i) s p) == (twiceB bs ra oa (i) s p bt rb ob (j) t q)))) (Pr.ex (Value.pointer (some ⟨b1, 16, none⟩)))), (53, Pr.ifb ((((twiceB bs ra oa (i) s p bt rb ob (j) t q) == (twiceB bs ra oa (i) s p bt rb ob (j) t q))) && (((twiceB bt rb ob (j) t q bs ra oa (i) s p) == (twiceB bs ra oa (i) s p bt rb ob (j) t q)))) (Pr.ex (Value.agg #[w32 (bs).a, w32 (bs).b, w32 (bs).c, w32 (bs).d, i64 (i), x1, x2]))), (54, Pr.ifb ((((twiceB bs ra oa (i) s p bt rb ob (j) t q) == (twiceB bs ra oa (i) s p bt rb ob (j) t q))) && (((twiceB bt rb ob (j) t q bs ra oa (i) s p) == (twiceB bs ra oa (i) s p bt rb ob (j) t q)))) (Pr.ex (Value.pointer (some ⟨b1, 0, none⟩)))), (55, Pr.ifb ((((twiceB bs ra oa (i) s p bt rb ob (j) t q) == (twiceB bs ra oa (i) s p bt rb ob (j) t q))) && (((twiceB bt rb ob (j) t q bs ra oa (i) s p) == (twiceB bs ra oa (i) s p bt rb ob (j) t q)))) (Pr.ex (Value.agg #[w32 (ra).a, w32 (ra).b, w32 (ra).c, w32 (ra).d, w32 (oa).a, w32 (oa).b, w32 (oa).c, w32 (oa).d]))), (56, Pr.ifb ((((twiceB bs ra oa (i) s p bt rb ob (j) t q) == (twiceB bs ra oa (i) s p bt rb ob (j) t q))) && (((twiceB bt rb ob (j) t q bs ra oa (i) s p) == (twiceB bs ra oa (i) s p bt rb ob (j) t q)))) (Pr.ex (Value.pointer (some ⟨b1, 23, none⟩)))), (57, Pr.ifb ((((twiceB bs ra oa (i) s p bt rb ob (j) t q) == (twiceB bs ra oa (i) s p bt rb ob (j) t q))) && (((twiceB bt rb ob (j) t q bs ra oa (i) s p) == (twiceB bs ra oa (i) s p bt rb ob (j) t q)))) (Pr.ex (Value.agg #[w32 (bt).a, w32 (bt).b, w32 (bt).c, w32 (bt).d, i64 (j), x3, x4]))), (58, Pr.ifb ((((twiceB bs ra oa (i) s p bt rb ob (j) t q) == (twiceB bs ra oa (i) s p bt rb ob (j) t q))) && (((twiceB bt rb ob (j) t q bs ra oa (i) s p) == (twiceB bs ra oa (i) s p bt rb ob (j) t q)))) (Pr.ex (Value.bool (twiceB bs ra oa (i) s p bt ra oa (j) t q)))), (59, Pr.ifb ((((twiceB bs ra oa (i) s p bt rb ob (j) t q) == (twiceB bs ra oa (i) s p bt rb ob (j) t q))) && (((twiceB bt rb ob (j) t q bs ra oa (i) s p) == (twiceB bs ra oa (i) s p bt rb ob (j) t q)))) (Pr.ex (Value.bool (!(twiceB bs ra oa (i) s p bt ra oa (j) t q))))), (60, Pr.ex (Value.bool (((((twiceB bs ra oa (i) s p bt rb ob (j) t q) == (twiceB bs ra oa (i) s p bt rb ob (j) t q))) && (((twiceB bt rb ob (j) t q bs ra oa (i) s p) == (twiceB bs ra oa (i) s p bt rb ob (j) t q)))) && (!(twiceB bs ra oa (i) s p bt ra oa (j) t q))))), (2, Pr.ex (Value.bool (((((twiceB bs ra oa (i) s p bt rb ob (j) t q) == (twiceB bs ra oa (i) s p bt rb ob (j) t q))) && (((twiceB bt rb ob (j) t q bs ra oa (i) s p) == (twiceB bs ra oa (i) s p bt rb ob (j) t q)))) && (!(twiceB bs ra oa (i) s p bt ra oa (j) t q)))))] 37 N5 D5 ?_ ?_
 refine Ac ?_ (Ac ?_ (Ac ?_ (Ac ?_ (Ac ?_ (Ac ?_ (Ac ?_ (Ac ?_ (Ac ?_ (Ac ?_ (Ac ?_ (Ac ?_ (Ac ?_ (Ac ?_ (Ac ?_ (Ac ?_ (Ac ?_ (Ac ?_ (Ac ?_ (Ac ?_ (Ac ?_ (Ac ?_ (Ac ?_ (Ac ?_ (Ac ?_ (Ac ?_ (Ac ?_ (Ac ?_ (Ac ?_ (Ac ?_ (Ac ?_ (Ac ?_ (Ac ?_ (Ac ?_ (Ac ?_ (Ac ?_ (Ac ?_ (Az _)))))))))))))))))))))))))))))))))))))
 exact Am s3_5 rfl fun _ => rfl
 exact Ap fun aq wq _ hO hR hT => does_field (o' := 0) fld_38_0 (oT hO s1_5 rfl) rfl eR
 exact Ap fun aq wq _ hO hR hT => does_loadD (o := 0) (n := 8) (mid := [w32 (ra).a, w32 (ra).b, w32 (ra).c, w32 (ra).d, w32 (oa).a, w32 (oa).b, w32 (oa).c, w32 (oa).d]) (hT 26 rfl rfl) (B1_5.ext' hR) rfl rfl (nB rfl) row_26 rfl eR
 exact Ap fun aq wq _ hO hR hT => does_field (o' := 16) fld_38_2 (oT hO s1_5 rfl) rfl eR
 exact Ap fun aq wq _ hO hR hT => does_loadD (o := 16) (n := 7) (mid := [w32 (bs).a, w32 (bs).b, w32 (bs).c, w32 (bs).d, i64 (i), x1, x2]) (hT 28 rfl rfl) (B1_5.ext' hR) rfl rfl (nB rfl) row_32 rfl eR
 exact Ap fun aq wq _ hO hR hT => does_field (o' := 8) fld_38_1 (oT hO s1_5 rfl) rfl eR
 exact Ap fun aq wq _ hO hR hT => does_loadD (o := 8) (n := 8) (mid := [w32 (rb).a, w32 (rb).b, w32 (rb).c, w32 (rb).d, w32 (ob).a, w32 (ob).b, w32 (ob).c, w32 (ob).d]) (hT 30 rfl rfl) (B1_5.ext' hR) rfl rfl (nB rfl) row_26 rfl eR
 exact Ap fun aq wq _ hO hR hT => does_field (o' := 23) fld_38_3 (oT hO s1_5 rfl) rfl eR
 exact Ap fun aq wq _ hO hR hT => does_loadD (o := 23) (n := 7) (mid := [w32 (bt).a, w32 (bt).b, w32 (bt).c, w32 (bt).d, i64 (j), x3, x4]) (hT 32 rfl rfl) (B1_5.ext' hR) rfl rfl (nB rfl) row_32 rfl eR
 exact Ap fun aq wq _ hO hR hT => does_ret (vs := #[Value.agg #[w32 (ra).a, w32 (ra).b, w32 (ra).c, w32 (ra).d, w32 (oa).a, w32 (oa).b, w32 (oa).c, w32 (oa).d], Value.agg #[w32 (bs).a, w32 (bs).b, w32 (bs).c, w32 (bs).d, i64 (i), x1, x2], Value.agg #[w32 (rb).a, w32 (rb).b, w32 (rb).c, w32 (rb).d, w32 (ob).a, w32 (ob).b, w32 (ob).c, w32 (ob).d], Value.agg #[w32 (bt).a, w32 (bt).b, w32 (bt).c, w32 (bt).d, i64 (j), x3, x4]]) call_15 (args4 (hT 27 rfl rfl) (hT 29 rfl rfl) (hT 31 rfl rfl) (hT 33 rfl rfl)) rfl ((twiceR ra oa bs (i) s p rb ob bt (j) t q (x1) (x2) (x3) (x4) wq ((X1_5.ext' hR).wide (Nat.zero_le _) (.inl rfl)) ((X2_5.ext' hR).wide (Nat.zero_le _) (.inl rfl)) ((X3_5.ext' hR).wide (Nat.zero_le _) (.inl rfl)) ((X4_5.ext' hR).wide (Nat.zero_le _) (.inl rfl)) hns hnp hnt hnq).mono fun v w2 h => ⟨h.2, h.1⟩)
 exact Ap fun aq wq _ hO hR hT => does_eqB Tryd.underlying4 (hT 25 rfl rfl) (hT 34 rfl rfl) eR
 exact Ap fun aq wq _ hO hR hT => does_move (V := Value.bool (((twiceB bs ra oa (i) s p bt rb ob (j) t q) == (twiceB bs ra oa (i) s p bt rb ob (j) t q)))) (hT 35 rfl rfl) eR
 refine Ask.guarded (B := ((twiceB bs ra oa (i) s p bt rb ob (j) t q) == (twiceB bs ra oa (i) s p bt rb ob (j) t q))) (want := true) (t := 36) rfl rfl rfl rfl (by decide) (fun aq wq hO hR hT => hT 36 rfl rfl) (fun hG aq wq hNq hO hR hT => ?_) (fun hno _ => fun hc => absurd hc hno)
 exact does_field (o' := 8) fld_38_1 (oT hO s1_5 rfl) rfl ⟨Ext.refl _, fun _ => rfl⟩
 refine Ask.guarded (B := ((twiceB bs ra oa (i) s p bt rb ob (j) t q) == (twiceB bs ra oa (i) s p bt rb ob (j) t q))) (want := true) (t := 36) rfl rfl rfl rfl (by decide) (fun aq wq hO hR hT => hT 36 rfl rfl) (fun hG aq wq hNq hO hR hT => ?_) (fun hno _ => fun hc => absurd hc hno)
 exact does_loadD (o := 8) (n := 8) (mid := [w32 (rb).a, w32 (rb).b, w32 (rb).c, w32 (rb).d, w32 (ob).a, w32 (ob).b, w32 (ob).c, w32 (ob).d]) (hT 37 rfl rfl hG) (B1_5.ext' hR) rfl rfl (nB rfl) row_26 rfl ⟨Ext.refl _, fun _ => rfl⟩
 refine Ask.guarded (B := ((twiceB bs ra oa (i) s p bt rb ob (j) t q) == (twiceB bs ra oa (i) s p bt rb ob (j) t q))) (want := true) (t := 36) rfl rfl rfl rfl (by decide) (fun aq wq hO hR hT => hT 36 rfl rfl) (fun hG aq wq hNq hO hR hT => ?_) (fun hno _ => fun hc => absurd hc hno)
 exact does_field (o' := 23) fld_38_3 (oT hO s1_5 rfl) rfl ⟨Ext.refl _, fun _ => rfl⟩
 refine Ask.guarded (B := ((twiceB bs ra oa (i) s p bt rb ob (j) t q) == (twiceB bs ra oa (i) s p bt rb ob (j) t q))) (want := true) (t := 36) rfl rfl rfl rfl (by decide) (fun aq wq hO hR hT => hT 36 rfl rfl) (fun hG aq wq hNq hO hR hT => ?_) (fun hno _ => fun hc => absurd hc hno)
 exact does_loadD (o := 23) (n := 7) (mid := [w32 (bt).a, w32 (bt).b, w32 (bt).c, w32 (bt).d, i64 (j), x3, x4]) (hT 39 rfl rfl hG) (B1_5.ext' hR) rfl rfl (nB rfl) row_32 rfl ⟨Ext.refl _, fun _ => rfl⟩
 refine Ask.guarded (B := ((twiceB bs ra oa (i) s p bt rb ob (j) t q) == (twiceB bs ra oa (i) s p bt rb ob (j) t q))) (want := true) (t := 36) rfl rfl rfl rfl (by decide) (fun aq wq hO hR hT => hT 36 rfl rfl) (fun hG aq wq hNq hO hR hT => ?_) (fun hno _ => fun hc => absurd hc hno)
 exact does_field (o' := 0) fld_38_0 (oT hO s1_5 rfl) rfl ⟨Ext.refl _, fun _ => rfl⟩
 refine Ask.guarded (B := ((twiceB bs ra oa (i) s p bt rb ob (j) t q) == (twiceB bs ra oa (i) s p bt rb ob (j) t q))) (want := true) (t := 36) rfl rfl rfl rfl (by decide) (fun aq wq hO hR hT => hT 36 rfl rfl) (fun hG aq wq hNq hO hR hT => ?_) (fun hno _ => fun hc => absurd hc hno)
 exact does_loadD (o := 0) (n := 8) (mid := [w32 (ra).a, w32 (ra).b, w32 (ra).c, w32 (ra).d, w32 (oa).a, w32 (oa).b, w32 (oa).c, w32 (oa).d]) (hT 41 rfl rfl hG) (B1_5.ext' hR) rfl rfl (nB rfl) row_26 rfl ⟨Ext.refl _, fun _ => rfl⟩
 refine Ask.guarded (B := ((twiceB bs ra oa (i) s p bt rb ob (j) t q) == (twiceB bs ra oa (i) s p bt rb ob (j) t q))) (want := true) (t := 36) rfl rfl rfl rfl (by decide) (fun aq wq hO hR hT => hT 36 rfl rfl) (fun hG aq wq hNq hO hR hT => ?_) (fun hno _ => fun hc => absurd hc hno)
 exact does_field (o' := 16) fld_38_2 (oT hO s1_5 rfl) rfl ⟨Ext.refl _, fun _ => rfl⟩
 refine Ask.guarded (B := ((twiceB bs ra oa (i) s p bt rb ob (j) t q) == (twiceB bs ra oa (i) s p bt rb ob (j) t q))) (want := true) (t := 36) rfl rfl rfl rfl (by decide) (fun aq wq hO hR hT => hT 36 rfl rfl) (fun hG aq wq hNq hO hR hT => ?_) (fun hno _ => fun hc => absurd hc hno)
 exact does_loadD (o := 16) (n := 7) (mid := [w32 (bs).a, w32 (bs).b, w32 (bs).c, w32 (bs).d, i64 (i), x1, x2]) (hT 43 rfl rfl hG) (B1_5.ext' hR) rfl rfl (nB rfl) row_32 rfl ⟨Ext.refl _, fun _ => rfl⟩
 refine Ask.guarded (B := ((twiceB bs ra oa (i) s p bt rb ob (j) t q) == (twiceB bs ra oa (i) s p bt rb ob (j) t q))) (want := true) (t := 36) rfl rfl rfl rfl (by decide) (fun aq wq hO hR hT => hT 36 rfl rfl) (fun hG aq wq hNq hO hR hT => ?_) (fun hno _ => fun hc => absurd hc hno)
 exact does_ret (vs := #[Value.agg #[w32 (rb).a, w32 (rb).b, w32 (rb).c, w32 (rb).d, w32 (ob).a, w32 (ob).b, w32 (ob).c, w32 (ob).d], Value.agg #[w32 (bt).a, w32 (bt).b, w32 (bt).c, w32 (bt).d, i64 (j), x3, x4], Value.agg #[w32 (ra).a, w32 (ra).b, w32 (ra).c, w32 (ra).d, w32 (oa).a, w32 (oa).b, w32 (oa).c, w32 (oa).d], Value.agg #[w32 (bs).a, w32 (bs).b, w32 (bs).c, w32 (bs).d, i64 (i), x1, x2]]) call_14 (args4 (hT 38 rfl rfl hG) (hT 40 rfl rfl hG) (hT 42 rfl rfl hG) (hT 44 rfl rfl hG)) rfl ((twice_ rb ob bt (j) t q ra oa bs (i) s p (x3) (x4) (x1) (x2) wq (hL.ext (E5.trans hR)) ((X3_5.ext' hR).wide (Nat.zero_le _) (.inl rfl)) ((X4_5.ext' hR).wide (Nat.zero_le _) (.inl rfl)) ((X1_5.ext' hR).wide (Nat.zero_le _) (.inl rfl)) ((X2_5.ext' hR).wide (Nat.zero_le _) (.inl rfl)) hnt hnq hns hnp).mono fun v w2 h => ⟨h.2, fun _ => h.1⟩)
 refine Ask.guarded (B := ((twiceB bs ra oa (i) s p bt rb ob (j) t q) == (twiceB bs ra oa (i) s p bt rb ob (j) t q))) (want := true) (t := 36) rfl rfl rfl rfl (by decide) (fun aq wq hO hR hT => hT 36 rfl rfl) (fun hG aq wq hNq hO hR hT => ?_) (fun hno _ => fun hc => absurd hc hno)
 exact does_move (V := Value.bool (twiceB bs ra oa (i) s p bt rb ob (j) t q)) (oT hO s3_5 rfl) ⟨Ext.refl _, fun _ => rfl⟩
 refine Ask.guarded (B := ((twiceB bs ra oa (i) s p bt rb ob (j) t q) == (twiceB bs ra oa (i) s p bt rb ob (j) t q))) (want := true) (t := 36) rfl rfl rfl rfl (by decide) (fun aq wq hO hR hT => hT 36 rfl rfl) (fun hG aq wq hNq hO hR hT => ?_) (fun hno _ => fun hc => absurd hc hno)
 exact does_eqB Tryd.underlying4 (hT 45 rfl rfl hG) (hT 46 rfl rfl hG) ⟨Ext.refl _, fun _ => rfl⟩
 exact Ap fun aq wq _ hO hR hT => does_and (B := ((twiceB bs ra oa (i) s p bt rb ob (j) t q) == (twiceB bs ra oa (i) s p bt rb ob (j) t q))) (X := ((twiceB bt rb ob (j) t q bs ra oa (i) s p) == (twiceB bs ra oa (i) s p bt rb ob (j) t q))) (hT 36 rfl rfl) (fun hB => (hT 47 rfl rfl hB)) rfl eR
 exact Ap fun aq wq _ hO hR hT => does_move (V := Value.bool ((((twiceB bs ra oa (i) s p bt rb ob (j) t q) == (twiceB bs ra oa (i) s p bt rb ob (j) t q))) && (((twiceB bt rb ob (j) t q bs ra oa (i) s p) == (twiceB bs ra oa (i) s p bt rb ob (j) t q))))) (hT 48 rfl rfl) eR
 refine Ask.guarded (B := (((twiceB bs ra oa (i) s p bt rb ob (j) t q) == (twiceB bs ra oa (i) s p bt rb ob (j) t q))) && (((twiceB bt rb ob (j) t q bs ra oa (i) s p) == (twiceB bs ra oa (i) s p bt rb ob (j) t q)))) (want := true) (t := 49) rfl rfl rfl rfl (by decide) (fun aq wq hO hR hT => hT 49 rfl rfl) (fun hG aq wq hNq hO hR hT => ?_) (fun hno _ => fun hc => absurd hc hno)
 exact does_field (o' := 0) fld_38_0 (oT hO s1_5 rfl) rfl ⟨Ext.refl _, fun _ => rfl⟩
 refine Ask.guarded (B := (((twiceB bs ra oa (i) s p bt rb ob (j) t q) == (twiceB bs ra oa (i) s p bt rb ob (j) t q))) && (((twiceB bt rb ob (j) t q bs ra oa (i) s p) == (twiceB bs ra oa (i) s p bt rb ob (j) t q)))) (want := true) (t := 49) rfl rfl rfl rfl (by decide) (fun aq wq hO hR hT => hT 49 rfl rfl) (fun hG aq wq hNq hO hR hT => ?_) (fun hno _ => fun hc => absurd hc hno)
 exact does_loadD (o := 0) (n := 8) (mid := [w32 (ra).a, w32 (ra).b, w32 (ra).c, w32 (ra).d, w32 (oa).a, w32 (oa).b, w32 (oa).c, w32 (oa).d]) (hT 50 rfl rfl hG) (B1_5.ext' hR) rfl rfl (nB rfl) row_26 rfl ⟨Ext.refl _, fun _ => rfl⟩
 refine Ask.guarded (B := (((twiceB bs ra oa (i) s p bt rb ob (j) t q) == (twiceB bs ra oa (i) s p bt rb ob (j) t q))) && (((twiceB bt rb ob (j) t q bs ra oa (i) s p) == (twiceB bs ra oa (i) s p bt rb ob (j) t q)))) (want := true) (t := 49) rfl rfl rfl rfl (by decide) (fun aq wq hO hR hT => hT 49 rfl rfl) (fun hG aq wq hNq hO hR hT => ?_) (fun hno _ => fun hc => absurd hc hno)
 exact does_field (o' := 16) fld_38_2 (oT hO s1_5 rfl) rfl ⟨Ext.refl _, fun _ => rfl⟩
 refine Ask.guarded (B := (((twiceB bs ra oa (i) s p bt rb ob (j) t q) == (twiceB bs ra oa (i) s p bt rb ob (j) t q))) && (((twiceB bt rb ob (j) t q bs ra oa (i) s p) == (twiceB bs ra oa (i) s p bt rb ob (j) t q)))) (want := true) (t := 49) rfl rfl rfl rfl (by decide) (fun aq wq hO hR hT => hT 49 rfl rfl) (fun hG aq wq hNq hO hR hT => ?_) (fun hno _ => fun hc => absurd hc hno)
 exact does_loadD (o := 16) (n := 7) (mid := [w32 (bs).a, w32 (bs).b, w32 (bs).c, w32 (bs).d, i64 (i), x1, x2]) (hT 52 rfl rfl hG) (B1_5.ext' hR) rfl rfl (nB rfl) row_32 rfl ⟨Ext.refl _, fun _ => rfl⟩
 refine Ask.guarded (B := (((twiceB bs ra oa (i) s p bt rb ob (j) t q) == (twiceB bs ra oa (i) s p bt rb ob (j) t q))) && (((twiceB bt rb ob (j) t q bs ra oa (i) s p) == (twiceB bs ra oa (i) s p bt rb ob (j) t q)))) (want := true) (t := 49) rfl rfl rfl rfl (by decide) (fun aq wq hO hR hT => hT 49 rfl rfl) (fun hG aq wq hNq hO hR hT => ?_) (fun hno _ => fun hc => absurd hc hno)
 exact does_field (o' := 0) fld_38_0 (oT hO s1_5 rfl) rfl ⟨Ext.refl _, fun _ => rfl⟩
 refine Ask.guarded (B := (((twiceB bs ra oa (i) s p bt rb ob (j) t q) == (twiceB bs ra oa (i) s p bt rb ob (j) t q))) && (((twiceB bt rb ob (j) t q bs ra oa (i) s p) == (twiceB bs ra oa (i) s p bt rb ob (j) t q)))) (want := true) (t := 49) rfl rfl rfl rfl (by decide) (fun aq wq hO hR hT => hT 49 rfl rfl) (fun hG aq wq hNq hO hR hT => ?_) (fun hno _ => fun hc => absurd hc hno)
 exact does_loadD (o := 0) (n := 8) (mid := [w32 (ra).a, w32 (ra).b, w32 (ra).c, w32 (ra).d, w32 (oa).a, w32 (oa).b, w32 (oa).c, w32 (oa).d]) (hT 54 rfl rfl hG) (B1_5.ext' hR) rfl rfl (nB rfl) row_26 rfl ⟨Ext.refl _, fun _ => rfl⟩
 refine Ask.guarded (B := (((twiceB bs ra oa (i) s p bt rb ob (j) t q) == (twiceB bs ra oa (i) s p bt rb ob (j) t q))) && (((twiceB bt rb ob (j) t q bs ra oa (i) s p) == (twiceB bs ra oa (i) s p bt rb ob (j) t q)))) (want := true) (t := 49) rfl rfl rfl rfl (by decide) (fun aq wq hO hR hT => hT 49 rfl rfl) (fun hG aq wq hNq hO hR hT => ?_) (fun hno _ => fun hc => absurd hc hno)
 exact does_field (o' := 23) fld_38_3 (oT hO s1_5 rfl) rfl ⟨Ext.refl _, fun _ => rfl⟩
 refine Ask.guarded (B := (((twiceB bs ra oa (i) s p bt rb ob (j) t q) == (twiceB bs ra oa (i) s p bt rb ob (j) t q))) && (((twiceB bt rb ob (j) t q bs ra oa (i) s p) == (twiceB bs ra oa (i) s p bt rb ob (j) t q)))) (want := true) (t := 49) rfl rfl rfl rfl (by decide) (fun aq wq hO hR hT => hT 49 rfl rfl) (fun hG aq wq hNq hO hR hT => ?_) (fun hno _ => fun hc => absurd hc hno)
 exact does_loadD (o := 23) (n := 7) (mid := [w32 (bt).a, w32 (bt).b, w32 (bt).c, w32 (bt).d, i64 (j), x3, x4]) (hT 56 rfl rfl hG) (B1_5.ext' hR) rfl rfl (nB rfl) row_32 rfl ⟨Ext.refl _, fun _ => rfl⟩
 refine Ask.guarded (B := (((twiceB bs ra oa (i) s p bt rb ob (j) t q) == (twiceB bs ra oa (i) s p bt rb ob (j) t q))) && (((twiceB bt rb ob (j) t q bs ra oa (i) s p) == (twiceB bs ra oa (i) s p bt rb ob (j) t q)))) (want := true) (t := 49) rfl rfl rfl rfl (by decide) (fun aq wq hO hR hT => hT 49 rfl rfl) (fun hG aq wq hNq hO hR hT => ?_) (fun hno _ => fun hc => absurd hc hno)
 exact does_ret (vs := #[Value.agg #[w32 (ra).a, w32 (ra).b, w32 (ra).c, w32 (ra).d, w32 (oa).a, w32 (oa).b, w32 (oa).c, w32 (oa).d], Value.agg #[w32 (bs).a, w32 (bs).b, w32 (bs).c, w32 (bs).d, i64 (i), x1, x2], Value.agg #[w32 (ra).a, w32 (ra).b, w32 (ra).c, w32 (ra).d, w32 (oa).a, w32 (oa).b, w32 (oa).c, w32 (oa).d], Value.agg #[w32 (bt).a, w32 (bt).b, w32 (bt).c, w32 (bt).d, i64 (j), x3, x4]]) call_14 (args4 (hT 51 rfl rfl hG) (hT 53 rfl rfl hG) (hT 55 rfl rfl hG) (hT 57 rfl rfl hG)) rfl ((twice_ ra oa bs (i) s p ra oa bt (j) t q (x1) (x2) (x3) (x4) wq (hL.ext (E5.trans hR)) ((X1_5.ext' hR).wide (Nat.zero_le _) (.inl rfl)) ((X2_5.ext' hR).wide (Nat.zero_le _) (.inl rfl)) ((X3_5.ext' hR).wide (Nat.zero_le _) (.inl rfl)) ((X4_5.ext' hR).wide (Nat.zero_le _) (.inl rfl)) hns hnp hnt hnq).mono fun v w2 h => ⟨h.2, fun _ => h.1⟩)
 refine Ask.guarded (B := (((twiceB bs ra oa (i) s p bt rb ob (j) t q) == (twiceB bs ra oa (i) s p bt rb ob (j) t q))) && (((twiceB bt rb ob (j) t q bs ra oa (i) s p) == (twiceB bs ra oa (i) s p bt rb ob (j) t q)))) (want := true) (t := 49) rfl rfl rfl rfl (by decide) (fun aq wq hO hR hT => hT 49 rfl rfl) (fun hG aq wq hNq hO hR hT => ?_) (fun hno _ => fun hc => absurd hc hno)
 exact does_not (B := twiceB bs ra oa (i) s p bt ra oa (j) t q) (hT 58 rfl rfl hG) ⟨Ext.refl _, fun _ => rfl⟩
 exact Ap fun aq wq _ hO hR hT => does_and (B := (((twiceB bs ra oa (i) s p bt rb ob (j) t q) == (twiceB bs ra oa (i) s p bt rb ob (j) t q))) && (((twiceB bt rb ob (j) t q bs ra oa (i) s p) == (twiceB bs ra oa (i) s p bt rb ob (j) t q)))) (X := !(twiceB bs ra oa (i) s p bt ra oa (j) t q)) (hT 49 rfl rfl) (fun hB => (hT 59 rfl rfl hB)) rfl eR
 exact Ap fun aq wq _ hO hR hT => does_assign (V := Value.bool (((((twiceB bs ra oa (i) s p bt rb ob (j) t q) == (twiceB bs ra oa (i) s p bt rb ob (j) t q))) && (((twiceB bt rb ob (j) t q bs ra oa (i) s p) == (twiceB bs ra oa (i) s p bt rb ob (j) t q)))) && (!(twiceB bs ra oa (i) s p bt ra oa (j) t q)))) (hT 60 rfl rfl) eR
 intro a6 wd6 N6 D6 hO hR hA hU
 obtain ⟨_, _, _, _, _, _, _, _, _, _, _, _, _, _, _, _, _, _, _, _, _, _, _, _, _, _, _, _, _, _, _, _, _, _, _, _, t2, _⟩ := hA
 have E6 := E5.trans hR
 have B1_6 := B1_5.ext' hR
 have X1_6 := X1_5.ext' hR
 have X2_6 := X2_5.ext' hR
 have X3_6 := X3_5.ext' hR
 have X4_6 := X4_5.ext' hR
 have s2_6 : get a6 2 = Value.bool (((((twiceB bs ra oa (i) s p bt rb ob (j) t q) == (twiceB bs ra oa (i) s p bt rb ob (j) t q))) && (((twiceB bt rb ob (j) t q bs ra oa (i) s p) == (twiceB bs ra oa (i) s p bt rb ob (j) t q)))) && (!(twiceB bs ra oa (i) s p bt ra oa (j) t q))) := t2
 clear E5 N5 D5 s1_5 s3_5 B1_5 X1_5 X2_5 X3_5 X4_5
 refine tail_nil ?_
 refine wp_ret ?_
 refine res_one (V := Value.bool (((((twiceB bs ra oa (i) s p bt rb ob (j) t q) == (twiceB bs ra oa (i) s p bt rb ob (j) t q))) && (((twiceB bt rb ob (j) t q bs ra oa (i) s p) == (twiceB bs ra oa (i) s p bt rb ob (j) t q)))) && (!(twiceB bs ra oa (i) s p bt ra oa (j) t q)))) rfl D6 s2_6 ?_
 exact ⟨congrArg Value.bool (by rw [twiceB_self, show twiceB bt rb ob j t q bs ra oa i s p = twiceB bs ra oa i s p bt rb ob j t q from twiceB_comm]; simp), E6⟩

end Go.Proofs.YtmmghpbncejfiaaDoor
