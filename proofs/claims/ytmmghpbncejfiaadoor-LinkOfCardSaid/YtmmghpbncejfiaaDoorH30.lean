/- The walks of functions of the program: printed. -/
import Derived.Test.YtmmghpbncejfiaaDoorKB
import Derived.Test.YtmmghpbncejfiaaDoorG110
import Derived.Test.YtmmghpbncejfiaaDoorG111
import Derived.Test.YtmmghpbncejfiaaDoorG113
import Derived.Test.YtmmghpbncejfiaaDoorF0
set_option maxRecDepth 100000
namespace Go.Proofs.YtmmghpbncejfiaaDoor
open Go Go.RowKit Sk Sd
theorem call_8 : Callable Tryd.prog 8 := ⟨_, Tryd.func8, by kernel_rfl, rfl⟩
theorem call_9 : Callable Tryd.prog 9 := ⟨_, Tryd.func9, by kernel_rfl, rfl⟩
theorem linkOfLaw (r o b : Dg) (i : Int) (s p : List Dg) (x1 x2 : Value) (w0 : World) (hL : Laid w0) (hx1 : SlT DG 0 0 s x1 w0) (hx2 : SlT DG 0 0 p x2 w0) :
    Gives Tryd.prog 3 #[Value.agg #[w32 (r).a, w32 (r).b, w32 (r).c, w32 (r).d, w32 (o).a, w32 (o).b, w32 (o).c, w32 (o).d], Value.agg #[w32 (b).a, w32 (b).b, w32 (b).c, w32 (b).d, i64 (i), x1, x2]] w0 (Pr.ex (Value.bool true)) := by
 refine enter (N := 24) Tryd.func3 rfl rfl ?_
 intro a0 N0 D0 hA
 have s0_0 : get a0 0 = Value.agg #[w32 (r).a, w32 (r).b, w32 (r).c, w32 (r).d, w32 (o).a, w32 (o).b, w32 (o).c, w32 (o).d] := hA 0 _ rfl
 have s1_0 : get a0 1 = Value.agg #[w32 (b).a, w32 (b).b, w32 (b).c, w32 (b).d, i64 (i), x1, x2] := hA 1 _ rfl
 clear hA
 have E0 : Ext w0 w0 := Ext.refl w0
 have X1_0 := hx1.close
 have X2_0 := hx2.close
 refine wp_seq ?_
 refine Rl [2, 3] [(2, Pr.box' w0.heap.size 26 [w32 (r).a, w32 (r).b, w32 (r).c, w32 (r).d, w32 (o).a, w32 (o).b, w32 (o).c, w32 (o).d]), (3, Pr.box' w0.heap.size 32 [w32 (b).a, w32 (b).b, w32 (b).c, w32 (b).d, i64 (i), x1, x2]), (4, Pr.ex (Value.bool (false)))] 3 N0 D0 ?_ ?_
 refine Ac ?_ (Ac ?_ (Ac ?_ (Az _)))
 refine Ask.fresh rfl rfl ?_
 intro aq wq hNq hO hR hT
 exact does_box (V := Value.agg #[w32 (r).a, w32 (r).b, w32 (r).c, w32 (r).d, w32 (o).a, w32 (o).b, w32 (o).c, w32 (o).d]) (oT hO s0_0 rfl) (fun b w2 he hlo hb => ⟨he, ⟨b, rfl, Nat.le_trans hR.size' hlo, hb⟩, ⟨b, rfl, hlo, hb.lt⟩⟩)
 refine Ask.fresh rfl rfl ?_
 intro aq wq hNq hO hR hT
 exact does_box (V := Value.agg #[w32 (b).a, w32 (b).b, w32 (b).c, w32 (b).d, i64 (i), x1, x2]) (oT hO s1_0 rfl) (fun b w2 he hlo hb => ⟨he, ⟨b, rfl, Nat.le_trans hR.size' hlo, hb⟩, ⟨b, rfl, hlo, hb.lt⟩⟩)
 exact Ap fun aq wq _ hO hR hT => does_assign (V := Value.bool (false)) rfl eR
 intro a1 wd1 N1 D1 hO hR hA hU
 obtain ⟨t2, t3, _, _⟩ := hA
 have E1 := E0.trans hR
 have X1_1 := X1_0.ext' hR
 have X2_1 := X2_0.ext' hR
 obtain ⟨b2, s2_1, lo_b2, B2_1⟩ := t2
 have nb_x1_b2 := SlT.old X1_0 lo_b2
 have nb_x2_b2 := SlT.old X2_0 lo_b2
 have fr_b2 : w0.heap.size ≤ b2 := Nat.le_trans E0.size' lo_b2
 obtain ⟨b3, s3_1, lo_b3, B3_1⟩ := t3
 have nb_x1_b3 := SlT.old X1_0 lo_b3
 have nb_x2_b3 := SlT.old X2_0 lo_b3
 have fr_b3 : w0.heap.size ≤ b3 := Nat.le_trans E0.size' lo_b3
 obtain ⟨u0, ⟨u1, _⟩⟩ := hU
 have ne_b2_b3 : b2 ≠ b3 := fun e => u0 3 (by decide) (by rw [s2_1, s3_1, e])
 clear E0 N0 D0 s0_0 s1_0 X1_0 X2_0
 refine tail_nil ?_
 refine wp_seq ?_
 refine wp_seq ?_
 refine Rl [] [(5, Pr.ex (Value.bool (true))), (6, Pr.ex (Value.bool (false)))] 2 N1 D1 ?_ ?_
 refine Ac ?_ (Ac ?_ (Az _))
 exact Ap fun aq wq _ hO hR hT => does_ret (vs := #[]) call_8 args0 rfl ((awake44 wq (hL.ext (E1.trans hR))).mono fun v w2 h => ⟨h.2, h.1⟩)
 exact Ap fun aq wq _ hO hR hT => does_not (B := true) (hT 5 rfl rfl) eR
 intro a2 wd2 N2 D2 hO hR hA hU
 obtain ⟨_, t6, _⟩ := hA
 have E2 := E1.trans hR
 have s2_2 := oT hO s2_1 rfl
 have s3_2 := oT hO s3_1 rfl
 have B2_2 := B2_1.ext' hR
 have B3_2 := B3_1.ext' hR
 have X1_2 := X1_1.ext' hR
 have X2_2 := X2_1.ext' hR
 have s6_2 : get a2 6 = Value.bool (false) := t6
 clear E1 N1 D1 s2_1 s3_1 B2_1 B3_1 X1_1 X2_1
 refine tail_nil ?_
 refine wp_ifF s6_2 ?_
 refine wp_skip ?_
 refine wp_seq ?_
 refine wp_seq ?_
 refine Rl [] [(7, Pr.ex (Value.agg #[w32 (b).a, w32 (b).b, w32 (b).c, w32 (b).d, i64 (i), x1, x2])), (8, Pr.ex (Value.bool (decide ((s.length : Int) ≤ ((40 : Nat) : Int)) && decide ((p.length : Int) ≤ ((6 : Nat) : Int))))), (9, Pr.ex (Value.bool (!(decide ((s.length : Int) ≤ ((40 : Nat) : Int)) && decide ((p.length : Int) ≤ ((6 : Nat) : Int))))))] 3 N2 D2 ?_ ?_
 refine Ac ?_ (Ac ?_ (Ac ?_ (Az _)))
 exact Ap fun aq wq _ hO hR hT => does_loadD (o := 0) (n := 7) (mid := [w32 (b).a, w32 (b).b, w32 (b).c, w32 (b).d, i64 (i), x1, x2]) (oT hO s3_2 rfl) (B3_2.ext' hR) rfl rfl (nB rfl) row_32 rfl eR
 exact Ap fun aq wq _ hO hR hT => does_ret (vs := #[Value.agg #[w32 (b).a, w32 (b).b, w32 (b).c, w32 (b).d, i64 (i), x1, x2]]) call_9 (args1 (hT 7 rfl rfl)) rfl ((short44 b (i) s p (x1) (x2) wq ((X1_2.ext' hR).wide (Nat.zero_le _) (.inl rfl)) ((X2_2.ext' hR).wide (Nat.zero_le _) (.inl rfl))).mono fun v w2 h => ⟨h.2, h.1⟩)
 exact Ap fun aq wq _ hO hR hT => does_not (B := decide ((s.length : Int) ≤ ((40 : Nat) : Int)) && decide ((p.length : Int) ≤ ((6 : Nat) : Int))) (hT 8 rfl rfl) eR
 intro a3 wd3 N3 D3 hO hR hA hU
 obtain ⟨_, _, t9, _⟩ := hA
 have E3 := E2.trans hR
 have s2_3 := oT hO s2_2 rfl
 have s3_3 := oT hO s3_2 rfl
 have B2_3 := B2_2.ext' hR
 have B3_3 := B3_2.ext' hR
 have X1_3 := X1_2.ext' hR
 have X2_3 := X2_2.ext' hR
 have s9_3 : get a3 9 = Value.bool (!(decide ((s.length : Int) ≤ ((40 : Nat) : Int)) && decide ((p.length : Int) ≤ ((6 : Nat) : Int)))) := t9
 clear E2 N2 D2 s2_2 s3_2 s6_2 B2_2 B3_2 X1_2 X2_2
 refine tail_nil ?_
 refine wp_if (B := !(decide ((s.length : Int) ≤ ((40 : Nat) : Int)) && decide ((p.length : Int) ≤ ((6 : Nat) : Int)))) s9_3 (fun hc0 => ?_) (fun hc0 => ?_)
 refine wp_seq ?_
 refine Rl [] [(4, Pr.ex (Value.bool (true)))] 1 N3 D3 ?_ ?_
 refine Ac ?_ (Az _)
 exact Ap fun aq wq _ hO hR hT => does_assign (V := Value.bool (true)) rfl eR
 intro a4 wd4 N4 D4 hO hR hA hU
 obtain ⟨t4, _⟩ := hA
 have E4 := E3.trans hR
 have B2_4 := B2_3.ext' hR
 have B3_4 := B3_3.ext' hR
 have X1_4 := X1_3.ext' hR
 have X2_4 := X2_3.ext' hR
 have s4_4 : get a4 4 = Value.bool (true) := t4
 clear E3 N3 D3 s2_3 s3_3 s9_3 B2_3 B3_3 X1_3 X2_3
 refine tail_nil ?_
 refine wp_ret ?_
 refine res_one (V := Value.bool (true)) rfl D4 s4_4 ?_
 exact ⟨rfl, E4⟩
 have h46 : s.length ≤ 40 ∧ p.length ≤ 6 := by simp at hc0; omega
 have hns : s.length ≤ 100000 := by omega
 have hnp : p.length ≤ 100000 := by omega
 refine wp_skip ?_
 refine wp_seq ?_
 refine Ra [] [(10, Pr.ex (Value.agg #[w32 (r).a, w32 (r).b, w32 (r).c, w32 (r).d, w32 (o).a, w32 (o).b, w32 (o).c, w32 (o).d])), (11, Pr.ex (Dg.val (linkOf r o))), (12, Pr.ex (Value.agg #[w32 (r).a, w32 (r).b, w32 (r).c, w32 (r).d, w32 (o).a, w32 (o).b, w32 (o).c, w32 (o).d])), (13, Pr.ex (Dg.val (linkOf r o))), (14, Pr.ex (Value.bool (decide (linkOf r o = linkOf r o)))), (15, Pr.ex (Value.bool (decide (linkOf r o = linkOf r o)))), (16, Pr.ifb (decide (linkOf r o = linkOf r o)) (Pr.ex (Value.agg #[w32 (r).a, w32 (r).b, w32 (r).c, w32 (r).d, w32 (o).a, w32 (o).b, w32 (o).c, w32 (o).d]))), (17, Pr.ifb (decide (linkOf r o = linkOf r o)) (Pr.ex (Value.agg #[w32 (b).a, w32 (b).b, w32 (b).c, w32 (b).d, i64 (i), x1, x2]))), (18, Pr.ifb (decide (linkOf r o = linkOf r o)) (Pr.ex (Value.bool (keyCheck b (linkOf r o) (i) s p)))), (19, Pr.ifb (decide (linkOf r o = linkOf r o)) (Pr.ex (Value.agg #[w32 (r).a, w32 (r).b, w32 (r).c, w32 (r).d, w32 (o).a, w32 (o).b, w32 (o).c, w32 (o).d]))), (20, Pr.ifb (decide (linkOf r o = linkOf r o)) (Pr.ex (Value.agg #[w32 (b).a, w32 (b).b, w32 (b).c, w32 (b).d, i64 (i), x1, x2]))), (21, Pr.ifb (decide (linkOf r o = linkOf r o)) (Pr.ex (Value.bool (keyCheck b (linkOf r o) (i) s p)))), (22, Pr.ifb (decide (linkOf r o = linkOf r o)) (Pr.ex (Value.bool (((keyCheck b (linkOf r o) (i) s p) == (keyCheck b (linkOf r o) (i) s p)))))), (23, Pr.ex (Value.bool ((decide (linkOf r o = linkOf r o)) && (((keyCheck b (linkOf r o) (i) s p) == (keyCheck b (linkOf r o) (i) s p)))))), (4, Pr.ex (Value.bool ((decide (linkOf r o = linkOf r o)) && (((keyCheck b (linkOf r o) (i) s p) == (keyCheck b (linkOf r o) (i) s p))))))] 15 mixed N3 D3 ?_ ?_
 refine Ac ?_ (Ac ?_ (Ac ?_ (Ac ?_ (Ac ?_ (Ac ?_ (Ac ?_ (Ac ?_ (Ac ?_ (Ac ?_ (Ac ?_ (Ac ?_ (Ac ?_ (Ac ?_ (Ac ?_ (Az _)))))))))))))))
 exact Ad fun aq wq _ hO hR hT => does_loadD (o := 0) (n := 8) (mid := [w32 (r).a, w32 (r).b, w32 (r).c, w32 (r).d, w32 (o).a, w32 (o).b, w32 (o).c, w32 (o).d]) (oT hO s2_3 rfl) (B2_3.ext' hR) rfl rfl (nB rfl) row_26 rfl eR
 exact Ad fun aq wq _ hO hR hT => does_ret (vs := #[Value.agg #[w32 (r).a, w32 (r).b, w32 (r).c, w32 (r).d, w32 (o).a, w32 (o).b, w32 (o).c, w32 (o).d]]) call_10 (args1 (hT 10 rfl rfl)) rfl ((linkOf_ r o wq (hL.ext (E3.trans hR))).mono fun v w2 h => ⟨h.2, h.1⟩)
 exact Ad fun aq wq _ hO hR hT => does_loadD (o := 0) (n := 8) (mid := [w32 (r).a, w32 (r).b, w32 (r).c, w32 (r).d, w32 (o).a, w32 (o).b, w32 (o).c, w32 (o).d]) (oT hO s2_3 rfl) (B2_3.ext' hR) rfl rfl (nB rfl) row_26 rfl eR
 exact Ad fun aq wq _ hO hR hT => does_ret (vs := #[Value.agg #[w32 (r).a, w32 (r).b, w32 (r).c, w32 (r).d, w32 (o).a, w32 (o).b, w32 (o).c, w32 (o).d]]) call_11 (args1 (hT 12 rfl rfl)) rfl ((linkOfR r o wq).mono fun v w2 h => ⟨h.2, h.1⟩)
 exact Ad fun aq wq _ hO hR hT => does_eqT (a := linkOf r o) (b := linkOf r o) eq_24 (hT 11 rfl rfl) (hT 13 rfl rfl) eR
 exact Ad fun aq wq _ hO hR hT => does_move (V := Value.bool (decide (linkOf r o = linkOf r o))) (hT 14 rfl rfl) eR
 refine Ask.guarded (B := decide (linkOf r o = linkOf r o)) (want := true) (t := 15) rfl rfl rfl rfl (by decide) (fun aq wq hO hR hT => hT 15 rfl rfl) (fun hG aq wq hNq hO hR hT => ?_) (fun hno _ => fun hc => absurd hc hno)
 replace hR := (Ext.drew _).trans hR
 exact does_loadD (o := 0) (n := 8) (mid := [w32 (r).a, w32 (r).b, w32 (r).c, w32 (r).d, w32 (o).a, w32 (o).b, w32 (o).c, w32 (o).d]) (oT hO s2_3 rfl) (B2_3.ext' hR) rfl rfl (nB rfl) row_26 rfl ⟨Ext.refl _, fun _ => rfl⟩
 refine Ask.guarded (B := decide (linkOf r o = linkOf r o)) (want := true) (t := 15) rfl rfl rfl rfl (by decide) (fun aq wq hO hR hT => hT 15 rfl rfl) (fun hG aq wq hNq hO hR hT => ?_) (fun hno _ => fun hc => absurd hc hno)
 replace hR := (Ext.drew _).trans hR
 exact does_loadD (o := 0) (n := 7) (mid := [w32 (b).a, w32 (b).b, w32 (b).c, w32 (b).d, i64 (i), x1, x2]) (oT hO s3_3 rfl) (B3_3.ext' hR) rfl rfl (nB rfl) row_32 rfl ⟨Ext.refl _, fun _ => rfl⟩
 refine Ask.guarded (B := decide (linkOf r o = linkOf r o)) (want := true) (t := 15) rfl rfl rfl rfl (by decide) (fun aq wq hO hR hT => hT 15 rfl rfl) (fun hG aq wq hNq hO hR hT => ?_) (fun hno _ => fun hc => absurd hc hno)
 replace hR := (Ext.drew _).trans hR
 exact does_ret (vs := #[Value.agg #[w32 (r).a, w32 (r).b, w32 (r).c, w32 (r).d, w32 (o).a, w32 (o).b, w32 (o).c, w32 (o).d], Value.agg #[w32 (b).a, w32 (b).b, w32 (b).c, w32 (b).d, i64 (i), x1, x2]]) call_12 (args2 (hT 16 rfl rfl hG) (hT 17 rfl rfl hG)) rfl ((linkCheck_ r o b (i) s p (x1) (x2) wq (hL.ext (E3.trans hR)) ((X1_3.ext' hR).wide (Nat.zero_le _) (.inl rfl)) ((X2_3.ext' hR).wide (Nat.zero_le _) (.inl rfl)) hns hnp).mono fun v w2 h => ⟨h.2, fun _ => h.1⟩)
 refine Ask.guarded (B := decide (linkOf r o = linkOf r o)) (want := true) (t := 15) rfl rfl rfl rfl (by decide) (fun aq wq hO hR hT => hT 15 rfl rfl) (fun hG aq wq hNq hO hR hT => ?_) (fun hno _ => fun hc => absurd hc hno)
 replace hR := (Ext.drew _).trans hR
 exact does_loadD (o := 0) (n := 8) (mid := [w32 (r).a, w32 (r).b, w32 (r).c, w32 (r).d, w32 (o).a, w32 (o).b, w32 (o).c, w32 (o).d]) (oT hO s2_3 rfl) (B2_3.ext' hR) rfl rfl (nB rfl) row_26 rfl ⟨Ext.refl _, fun _ => rfl⟩
 refine Ask.guarded (B := decide (linkOf r o = linkOf r o)) (want := true) (t := 15) rfl rfl rfl rfl (by decide) (fun aq wq hO hR hT => hT 15 rfl rfl) (fun hG aq wq hNq hO hR hT => ?_) (fun hno _ => fun hc => absurd hc hno)
 replace hR := (Ext.drew _).trans hR
 exact does_loadD (o := 0) (n := 7) (mid := [w32 (b).a, w32 (b).b, w32 (b).c, w32 (b).d, i64 (i), x1, x2]) (oT hO s3_3 rfl) (B3_3.ext' hR) rfl rfl (nB rfl) row_32 rfl ⟨Ext.refl _, fun _ => rfl⟩
 refine Ask.guarded (B := decide (linkOf r o = linkOf r o)) (want := true) (t := 15) rfl rfl rfl rfl (by decide) (fun aq wq hO hR hT => hT 15 rfl rfl) (fun hG aq wq hNq hO hR hT => ?_) (fun hno _ => fun hc => absurd hc hno)
 replace hR := (Ext.drew _).trans hR
 exact does_ret (vs := #[Value.agg #[w32 (r).a, w32 (r).b, w32 (r).c, w32 (r).d, w32 (o).a, w32 (o).b, w32 (o).c, w32 (o).d], Value.agg #[w32 (b).a, w32 (b).b, w32 (b).c, w32 (b).d, i64 (i), x1, x2]]) call_13 (args2 (hT 19 rfl rfl hG) (hT 20 rfl rfl hG)) rfl ((linkCheckR r o b (i) s p (x1) (x2) wq ((X1_3.ext' hR).wide (Nat.zero_le _) (.inl rfl)) ((X2_3.ext' hR).wide (Nat.zero_le _) (.inl rfl)) hns hnp).mono fun v w2 h => ⟨h.2, fun _ => h.1⟩)
 refine Ask.guarded (B := decide (linkOf r o = linkOf r o)) (want := true) (t := 15) rfl rfl rfl rfl (by decide) (fun aq wq hO hR hT => hT 15 rfl rfl) (fun hG aq wq hNq hO hR hT => ?_) (fun hno _ => fun hc => absurd hc hno)
 replace hR := (Ext.drew _).trans hR
 exact does_eqB Tryd.underlying4 (hT 18 rfl rfl hG) (hT 21 rfl rfl hG) ⟨Ext.refl _, fun _ => rfl⟩
 exact Ad fun aq wq _ hO hR hT => does_and (B := decide (linkOf r o = linkOf r o)) (X := ((keyCheck b (linkOf r o) (i) s p) == (keyCheck b (linkOf r o) (i) s p))) (hT 15 rfl rfl) (fun hB => (hT 22 rfl rfl hB)) rfl eR
 exact Ad fun aq wq _ hO hR hT => does_assign (V := Value.bool ((decide (linkOf r o = linkOf r o)) && (((keyCheck b (linkOf r o) (i) s p) == (keyCheck b (linkOf r o) (i) s p))))) (hT 23 rfl rfl) eR
 intro a5 wd5 N5 D5 hO hR hA hU
 obtain ⟨_, _, _, _, _, _, _, _, _, _, _, _, _, _, t4, _⟩ := hA
 have E5 := E3.trans hR
 have B2_5 := B2_3.ext' hR
 have B3_5 := B3_3.ext' hR
 have X1_5 := X1_3.ext' hR
 have X2_5 := X2_3.ext' hR
 have s4_5 : get a5 4 = Value.bool ((decide (linkOf r o = linkOf r o)) && (((keyCheck b (linkOf r o) (i) s p) == (keyCheck b (linkOf r o) (i) s p)))) := t4
 clear E3 N3 D3 s2_3 s3_3 s9_3 B2_3 B3_3 X1_3 X2_3
 refine tail_nil ?_
 refine wp_ret ?_
 refine res_one (V := Value.bool ((decide (linkOf r o = linkOf r o)) && (((keyCheck b (linkOf r o) (i) s p) == (keyCheck b (linkOf r o) (i) s p))))) rfl D5 s4_5 ?_
 exact ⟨congrArg Value.bool (by simp), E5⟩

end Go.Proofs.YtmmghpbncejfiaaDoor
