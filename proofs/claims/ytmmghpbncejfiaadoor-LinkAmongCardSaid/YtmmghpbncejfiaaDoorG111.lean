/- The walks of functions of the program: printed. -/
import Derived.Test.YtmmghpbncejfiaaDoorKB
import Derived.Test.YtmmghpbncejfiaaDoorG70
import Derived.Test.YtmmghpbncejfiaaDoorG71
import Derived.Test.YtmmghpbncejfiaaDoorG110
import Derived.Test.YtmmghpbncejfiaaDoorF0
set_option maxRecDepth 100000
namespace Go.Proofs.YtmmghpbncejfiaaDoor
open Go Go.RowKit Sk Sd
theorem linkCheck_ (r o b : Dg) (i : Int) (s p : List Dg) (x1 x2 : Value) (w0 : World) (hL : Laid w0) (hx1 : SlT DG 0 0 s x1 w0) (hx2 : SlT DG 0 0 p x2 w0) (hns : s.length ≤ 100000) (hnp : p.length ≤ 100000) :
    Gives Tryd.prog 12 #[Value.agg #[w32 (r).a, w32 (r).b, w32 (r).c, w32 (r).d, w32 (o).a, w32 (o).b, w32 (o).c, w32 (o).d], Value.agg #[w32 (b).a, w32 (b).b, w32 (b).c, w32 (b).d, i64 (i), x1, x2]] w0 (Pr.ex (Value.bool (keyCheck b (linkOf r o) i s p))) := by
 refine enter (N := 12) Tryd.func12 rfl rfl ?_
 intro a0 N0 D0 hA
 have s0_0 : get a0 0 = Value.agg #[w32 (r).a, w32 (r).b, w32 (r).c, w32 (r).d, w32 (o).a, w32 (o).b, w32 (o).c, w32 (o).d] := hA 0 _ rfl
 have s1_0 : get a0 1 = Value.agg #[w32 (b).a, w32 (b).b, w32 (b).c, w32 (b).d, i64 (i), x1, x2] := hA 1 _ rfl
 clear hA
 have E0 : Ext w0 w0 := Ext.refl w0
 have X1_0 := hx1.close
 have X2_0 := hx2.close
 refine wp_seq ?_
 refine Rl [2, 3] [(2, Pr.box' w0.heap.size 26 [w32 (r).a, w32 (r).b, w32 (r).c, w32 (r).d, w32 (o).a, w32 (o).b, w32 (o).c, w32 (o).d]), (3, Pr.box' w0.heap.size 32 [w32 (b).a, w32 (b).b, w32 (b).c, w32 (b).d, i64 (i), x1, x2]), (4, Pr.ex (Value.bool (false)))] 3 N0 D0 ?_ ?_
 refine Ac ?_ (Ac ?_ (Ac ?_ (Az _)))
 refine Ask.fresh rfl rfl ?_
 intro aq wq hNq hO hR hT
 exact does_box (V := Value.agg #[w32 (r).a, w32 (r).b, w32 (r).c, w32 (r).d, w32 (o).a, w32 (o).b, w32 (o).c, w32 (o).d]) (oT hO s0_0 rfl) (fun b w2 he hlo hb => ⟨he, ⟨b, rfl, Nat.le_trans hR.size' hlo, hb⟩, ⟨b, rfl, hlo, hb.lt⟩⟩)
 refine Ask.fresh rfl rfl ?_
 intro aq wq hNq hO hR hT
 exact does_box (V := Value.agg #[w32 (b).a, w32 (b).b, w32 (b).c, w32 (b).d, i64 (i), x1, x2]) (oT hO s1_0 rfl) (fun b w2 he hlo hb => ⟨he, ⟨b, rfl, Nat.le_trans hR.size' hlo, hb⟩, ⟨b, rfl, hlo, hb.lt⟩⟩)
 exact Ap fun aq wq _ hO hR hT => does_assign (V := Value.bool (false)) rfl eR
 intro a1 wd1 N1 D1 hO hR hA hU
 obtain ⟨t2, t3, _, _⟩ := hA
 have E1 := E0.trans hR
 have X1_1 := X1_0.ext' hR
 have X2_1 := X2_0.ext' hR
 obtain ⟨b2, s2_1, lo_b2, B2_1⟩ := t2
 have nb_x1_b2 := SlT.old X1_0 lo_b2
 have nb_x2_b2 := SlT.old X2_0 lo_b2
 have fr_b2 : w0.heap.size ≤ b2 := Nat.le_trans E0.size' lo_b2
 obtain ⟨b3, s3_1, lo_b3, B3_1⟩ := t3
 have nb_x1_b3 := SlT.old X1_0 lo_b3
 have nb_x2_b3 := SlT.old X2_0 lo_b3
 have fr_b3 : w0.heap.size ≤ b3 := Nat.le_trans E0.size' lo_b3
 obtain ⟨u0, ⟨u1, _⟩⟩ := hU
 have ne_b2_b3 : b2 ≠ b3 := fun e => u0 3 (by decide) (by rw [s2_1, s3_1, e])
 clear E0 N0 D0 s0_0 s1_0 X1_0 X2_0
 refine tail_nil ?_
 refine wp_seq ?_
 refine Ra [] [(5, Pr.ex (Value.pointer (some ⟨b3, 0, none⟩))), (6, Pr.ex (Dg.val (b))), (7, Pr.ex (Value.agg #[w32 (r).a, w32 (r).b, w32 (r).c, w32 (r).d, w32 (o).a, w32 (o).b, w32 (o).c, w32 (o).d])), (8, Pr.ex (Dg.val (linkOf r o))), (9, Pr.ex (Value.pointer (some ⟨b3, 4, none⟩))), (10, Pr.ex (Value.agg #[i64 (i), x1, x2])), (11, Pr.ex (Value.bool (keyCheck b (linkOf r o) (i) s p))), (4, Pr.ex (Value.bool (keyCheck b (linkOf r o) (i) s p)))] 8 mixed N1 D1 ?_ ?_
 refine Ac ?_ (Ac ?_ (Ac ?_ (Ac ?_ (Ac ?_ (Ac ?_ (Ac ?_ (Ac ?_ (Az _))))))))
 exact Ad fun aq wq _ hO hR hT => does_field (o' := 0) fld_32_0 (oT hO s3_1 rfl) rfl eR
 exact Ad fun aq wq _ hO hR hT => does_loadD (o := 0) (n := 4) (mid := [w32 (b).a, w32 (b).b, w32 (b).c, w32 (b).d]) (hT 5 rfl rfl) (B3_1.ext' hR) rfl rfl (nB rfl) row_24 rfl eR
 exact Ad fun aq wq _ hO hR hT => does_loadD (o := 0) (n := 8) (mid := [w32 (r).a, w32 (r).b, w32 (r).c, w32 (r).d, w32 (o).a, w32 (o).b, w32 (o).c, w32 (o).d]) (oT hO s2_1 rfl) (B2_1.ext' hR) rfl rfl (nB rfl) row_26 rfl eR
 exact Ad fun aq wq _ hO hR hT => does_ret (vs := #[Value.agg #[w32 (r).a, w32 (r).b, w32 (r).c, w32 (r).d, w32 (o).a, w32 (o).b, w32 (o).c, w32 (o).d]]) call_10 (args1 (hT 7 rfl rfl)) rfl ((linkOf_ r o wq (hL.ext (E1.trans hR))).mono fun v w2 h => ⟨h.2, h.1⟩)
 exact Ad fun aq wq _ hO hR hT => does_field (o' := 4) fld_32_1 (oT hO s3_1 rfl) rfl eR
 exact Ad fun aq wq _ hO hR hT => does_loadD (o := 4) (n := 3) (mid := [i64 (i), x1, x2]) (hT 9 rfl rfl) (B3_1.ext' hR) rfl rfl (nB rfl) row_30 rfl eR
 exact Ad fun aq wq _ hO hR hT => does_ret (vs := #[Dg.val (b), Dg.val (linkOf r o), Value.agg #[i64 (i), x1, x2]]) call_26 (args3 (hT 6 rfl rfl) (hT 8 rfl rfl) (hT 10 rfl rfl)) rfl ((keyCheck_ b (linkOf r o) (i) s p (x1) (x2) wq (hL.ext (E1.trans hR)) ((X1_1.ext' hR).wide (Nat.zero_le _) (.inl rfl)) ((X2_1.ext' hR).wide (Nat.zero_le _) (.inl rfl)) hns hnp).mono fun v w2 h => ⟨h.2, h.1⟩)
 exact Ad fun aq wq _ hO hR hT => does_assign (V := Value.bool (keyCheck b (linkOf r o) (i) s p)) (hT 11 rfl rfl) eR
 intro a2 wd2 N2 D2 hO hR hA hU
 obtain ⟨_, _, _, _, _, _, _, t4, _⟩ := hA
 have E2 := E1.trans hR
 have B2_2 := B2_1.ext' hR
 have B3_2 := B3_1.ext' hR
 have X1_2 := X1_1.ext' hR
 have X2_2 := X2_1.ext' hR
 have s4_2 : get a2 4 = Value.bool (keyCheck b (linkOf r o) (i) s p) := t4
 clear E1 N1 D1 s2_1 s3_1 B2_1 B3_1 X1_1 X2_1
 refine tail_nil ?_
 refine wp_ret ?_
 refine res_one (V := Value.bool (keyCheck b (linkOf r o) (i) s p)) rfl D2 s4_2 ?_
 exact ⟨rfl, E2⟩

end Go.Proofs.YtmmghpbncejfiaaDoor
