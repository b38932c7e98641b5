/- The walks of functions of the program: printed. -/
import Derived.Test.YtijfjpbahepegaaDoorG10
import Derived.Test.YtijfjpbahepegaaDoorG70
import Derived.Test.YtijfjpbahepegaaDoorG71
import Derived.Test.YtijfjpbahepegaaDoorF0
set_option maxRecDepth 100000
namespace Go.Proofs.YtijfjpbahepegaaDoor
open Go Go.RowKit Sk Sd
theorem headCheck_ (z : Head) (bu : Dg) (i : Int) (one path : List Dg) (x1 x2 : Value) (w0 : World) (hL : Laid w0) (hx1 : SlT DG 0 0 one x1 w0) (hx2 : SlT DG 0 0 path x2 w0) (hn : one.length ≤ 100000) (hpn : path.length ≤ 100000) :
    Gives Tryd.prog 29 #[Value.agg #[i64 (z.size), w32 (z.root).a, w32 (z.root).b, w32 (z.root).c, w32 (z.root).d], Value.agg #[w32 (bu).a, w32 (bu).b, w32 (bu).c, w32 (bu).d, i64 (i), x1, x2]] w0 (Pr.ex (Value.bool (keyCheck bu (headOf z) i one path))) := by
 refine enter (N := 12) Tryd.func29 rfl rfl ?_
 intro a0 hN_0 hD_0 hA
 have s0_0 : get a0 0 = Value.agg #[i64 (z.size), w32 (z.root).a, w32 (z.root).b, w32 (z.root).c, w32 (z.root).d] := hA 0 _ rfl
 have s1_0 : get a0 1 = Value.agg #[w32 (bu).a, w32 (bu).b, w32 (bu).c, w32 (bu).d, i64 (i), x1, x2] := hA 1 _ rfl
 clear hA
 have hE_0 : Ext w0 w0 := Ext.refl w0
 have hsx1_0 := hx1.close
 have hsx2_0 := hx2.close
 refine wp_seq ?_
 refine region_lex [2, 3] [(2, Pr.box' w0.heap.size 29 [i64 (z.size), w32 (z.root).a, w32 (z.root).b, w32 (z.root).c, w32 (z.root).d]), (3, Pr.box' w0.heap.size 59 [w32 (bu).a, w32 (bu).b, w32 (bu).c, w32 (bu).d, i64 (i), x1, x2]), (4, Pr.ex (Value.bool (false)))] 3 hN_0 hD_0 (by kernel_rfl) (by kernel_rfl) ?_ ?_
 refine Asks.cons ?_ (Asks.cons ?_ (Asks.cons ?_ (Asks.zero _)))
 refine Ask.fresh rfl rfl ?_
 intro aq wq hNq hO hR hT
 exact does_box (V := Value.agg #[i64 (z.size), w32 (z.root).a, w32 (z.root).b, w32 (z.root).c, w32 (z.root).d]) ((hO 0 rfl).trans s0_0) (fun b w2 he hlo hb => ⟨he, ⟨b, rfl, Nat.le_trans hR.size' hlo, hb⟩, ⟨b, rfl, hlo, hb.lt⟩⟩)
 refine Ask.fresh rfl rfl ?_
 intro aq wq hNq hO hR hT
 exact does_box (V := Value.agg #[w32 (bu).a, w32 (bu).b, w32 (bu).c, w32 (bu).d, i64 (i), x1, x2]) ((hO 1 rfl).trans s1_0) (fun b w2 he hlo hb => ⟨he, ⟨b, rfl, Nat.le_trans hR.size' hlo, hb⟩, ⟨b, rfl, hlo, hb.lt⟩⟩)
 exact Ask.plain rfl rfl fun aq wq hNq hO hR hT => does_assign (V := Value.bool (false)) rfl ⟨Ext.refl _, rfl⟩
 intro a1 wd1 hN_1 hD_1 hO hR hA hU
 obtain ⟨t2, t3, _, _⟩ := hA
 have hE_1 := hE_0.trans hR
 have hsx1_1 := hsx1_0.ext' hR
 have hsx2_1 := hsx2_0.ext' hR
 obtain ⟨b2, s2_1, lo_b2, hbb2_1⟩ := t2
 have nb_x1_b2 := SlT.old hsx1_0 lo_b2
 have nb_x2_b2 := SlT.old hsx2_0 lo_b2
 have fr_b2 : w0.heap.size ≤ b2 := Nat.le_trans hE_0.size' lo_b2
 obtain ⟨b3, s3_1, lo_b3, hbb3_1⟩ := t3
 have nb_x1_b3 := SlT.old hsx1_0 lo_b3
 have nb_x2_b3 := SlT.old hsx2_0 lo_b3
 have fr_b3 : w0.heap.size ≤ b3 := Nat.le_trans hE_0.size' lo_b3
 obtain ⟨u0, ⟨u1, _⟩⟩ := hU
 have ne_b2_b3 : b2 ≠ b3 := fun e => u0 3 (by decide) (by rw [s2_1, s3_1, e])
 clear hE_0 hN_0 hD_0 s0_0 s1_0 hsx1_0 hsx2_0
 refine tail_nil ?_
 refine wp_seq ?_
 refine region_any [] [(5, Pr.ex (Value.pointer (some ⟨b3, 0, none⟩))), (6, Pr.ex (Dg.val (bu))), (7, Pr.ex (Value.agg #[i64 (z.size), w32 (z.root).a, w32 (z.root).b, w32 (z.root).c, w32 (z.root).d])), (8, Pr.ex (Dg.val (headOf z))), (9, Pr.ex (Value.pointer (some ⟨b3, 4, none⟩))), (10, Pr.ex (Value.agg #[i64 (i), x1, x2])), (11, Pr.ex (Value.bool (keyCheck bu (headOf z) (i) one path))), (4, Pr.ex (Value.bool (keyCheck bu (headOf z) (i) one path)))] 8 mixed hN_1 hD_1 (by kernel_rfl) (by kernel_rfl) (by kernel_rfl) ?_ ?_
 refine Asks.cons ?_ (Asks.cons ?_ (Asks.cons ?_ (Asks.cons ?_ (Asks.cons ?_ (Asks.cons ?_ (Asks.cons ?_ (Asks.cons ?_ (Asks.zero _))))))))
 exact Ask.plainD rfl rfl fun aq wq hNq hO hR hT => does_field (o' := 0) fld_59_0 ((hO 3 rfl).trans s3_1) rfl ⟨Ext.refl _, rfl⟩
 exact Ask.plainD rfl rfl fun aq wq hNq hO hR hT => does_loadD (o := 0) (n := 4) (mid := [w32 (bu).a, w32 (bu).b, w32 (bu).c, w32 (bu).d]) (hT 5 rfl rfl) (hbb3_1.ext' hR) rfl rfl (Nat.le_of_ble_eq_true rfl) row_27 rfl ⟨Ext.refl _, rfl⟩
 exact Ask.plainD rfl rfl fun aq wq hNq hO hR hT => does_loadD (o := 0) (n := 5) (mid := [i64 (z.size), w32 (z.root).a, w32 (z.root).b, w32 (z.root).c, w32 (z.root).d]) ((hO 2 rfl).trans s2_1) (hbb2_1.ext' hR) rfl rfl (Nat.le_of_ble_eq_true rfl) row_29 rfl ⟨Ext.refl _, rfl⟩
 exact Ask.plainD rfl rfl fun aq wq hNq hO hR hT => does_ret (vs := #[Value.agg #[i64 (z.size), w32 (z.root).a, w32 (z.root).b, w32 (z.root).c, w32 (z.root).d]]) call_16 (args1 (hT 7 rfl rfl)) rfl ((headOf_ z wq (hL.ext (hE_1.trans hR))).mono fun v w2 h => ⟨h.2, h.1⟩)
 exact Ask.plainD rfl rfl fun aq wq hNq hO hR hT => does_field (o' := 4) fld_59_1 ((hO 3 rfl).trans s3_1) rfl ⟨Ext.refl _, rfl⟩
 exact Ask.plainD rfl rfl fun aq wq hNq hO hR hT => does_loadD (o := 4) (n := 3) (mid := [i64 (i), x1, x2]) (hT 9 rfl rfl) (hbb3_1.ext' hR) rfl rfl (Nat.le_of_ble_eq_true rfl) row_57 rfl ⟨Ext.refl _, rfl⟩
 exact Ask.plainD rfl rfl fun aq wq hNq hO hR hT => does_ret (vs := #[Dg.val (bu), Dg.val (headOf z), Value.agg #[i64 (i), x1, x2]]) call_55 (args3 (hT 6 rfl rfl) (hT 8 rfl rfl) (hT 10 rfl rfl)) rfl ((keyCheck_ bu (headOf z) (i) one path (x1) (x2) wq (hL.ext (hE_1.trans hR)) ((hsx1_1.ext' hR).wide (Nat.zero_le _) (.inl rfl)) ((hsx2_1.ext' hR).wide (Nat.zero_le _) (.inl rfl)) hn hpn).mono fun v w2 h => ⟨h.2, h.1⟩)
 exact Ask.plainD rfl rfl fun aq wq hNq hO hR hT => does_assign (V := Value.bool (keyCheck bu (headOf z) (i) one path)) (hT 11 rfl rfl) ⟨Ext.refl _, rfl⟩
 intro a2 wd2 hN_2 hD_2 hO hR hA hU
 obtain ⟨_, _, _, _, _, _, _, t4, _⟩ := hA
 have hE_2 := hE_1.trans hR
 have hbb2_2 := hbb2_1.ext' hR
 have hbb3_2 := hbb3_1.ext' hR
 have hsx1_2 := hsx1_1.ext' hR
 have hsx2_2 := hsx2_1.ext' hR
 have s4_2 : get a2 4 = Value.bool (keyCheck bu (headOf z) (i) one path) := t4
 clear hE_1 hN_1 hD_1 s2_1 s3_1 hbb2_1 hbb3_1 hsx1_1 hsx2_1
 refine tail_nil ?_
 refine wp_ret ?_
 refine res_one (V := Value.bool (keyCheck bu (headOf z) (i) one path)) rfl hD_2 s4_2 ?_
 exact ⟨rfl, hE_2⟩

theorem headCheckR (z : Head) (bu : Dg) (i : Int) (one path : List Dg) (x1 x2 : Value) (w0 : World) (hx1 : SlT DG 0 0 one x1 w0) (hx2 : SlT DG 0 0 path x2 w0) (hn : one.length ≤ 100000) (hpn : path.length ≤ 100000) :
    Gives Tryd.prog 30 #[Value.agg #[i64 (z.size), w32 (z.root).a, w32 (z.root).b, w32 (z.root).c, w32 (z.root).d], Value.agg #[w32 (bu).a, w32 (bu).b, w32 (bu).c, w32 (bu).d, i64 (i), x1, x2]] w0 (Pr.ex (Value.bool (keyCheck bu (headOf z) i one path))) := by
 refine enter (N := 12) Tryd.func30 rfl rfl ?_
 intro a0 hN_0 hD_0 hA
 have s0_0 : get a0 0 = Value.agg #[i64 (z.size), w32 (z.root).a, w32 (z.root).b, w32 (z.root).c, w32 (z.root).d] := hA 0 _ rfl
 have s1_0 : get a0 1 = Value.agg #[w32 (bu).a, w32 (bu).b, w32 (bu).c, w32 (bu).d, i64 (i), x1, x2] := hA 1 _ rfl
 clear hA
 have hE_0 : Ext w0 w0 := Ext.refl w0
 have hsx1_0 := hx1.close
 have hsx2_0 := hx2.close
 refine wp_seq ?_
 refine region_lex [2, 3] [(2, Pr.box' w0.heap.size 29 [i64 (z.size), w32 (z.root).a, w32 (z.root).b, w32 (z.root).c, w32 (z.root).d]), (3, Pr.box' w0.heap.size 59 [w32 (bu).a, w32 (bu).b, w32 (bu).c, w32 (bu).d, i64 (i), x1, x2]), (4, Pr.ex (Value.bool (false)))] 3 hN_0 hD_0 (by kernel_rfl) (by kernel_rfl) ?_ ?_
 refine Asks.cons ?_ (Asks.cons ?_ (Asks.cons ?_ (Asks.zero _)))
 refine Ask.fresh rfl rfl ?_
 intro aq wq hNq hO hR hT
 exact does_box (V := Value.agg #[i64 (z.size), w32 (z.root).a, w32 (z.root).b, w32 (z.root).c, w32 (z.root).d]) ((hO 0 rfl).trans s0_0) (fun b w2 he hlo hb => ⟨he, ⟨b, rfl, Nat.le_trans hR.size' hlo, hb⟩, ⟨b, rfl, hlo, hb.lt⟩⟩)
 refine Ask.fresh rfl rfl ?_
 intro aq wq hNq hO hR hT
 exact does_box (V := Value.agg #[w32 (bu).a, w32 (bu).b, w32 (bu).c, w32 (bu).d, i64 (i), x1, x2]) ((hO 1 rfl).trans s1_0) (fun b w2 he hlo hb => ⟨he, ⟨b, rfl, Nat.le_trans hR.size' hlo, hb⟩, ⟨b, rfl, hlo, hb.lt⟩⟩)
 exact Ask.plain rfl rfl fun aq wq hNq hO hR hT => does_assign (V := Value.bool (false)) rfl ⟨Ext.refl _, rfl⟩
 intro a1 wd1 hN_1 hD_1 hO hR hA hU
 obtain ⟨t2, t3, _, _⟩ := hA
 have hE_1 := hE_0.trans hR
 have hsx1_1 := hsx1_0.ext' hR
 have hsx2_1 := hsx2_0.ext' hR
 obtain ⟨b2, s2_1, lo_b2, hbb2_1⟩ := t2
 have nb_x1_b2 := SlT.old hsx1_0 lo_b2
 have nb_x2_b2 := SlT.old hsx2_0 lo_b2
 have fr_b2 : w0.heap.size ≤ b2 := Nat.le_trans hE_0.size' lo_b2
 obtain ⟨b3, s3_1, lo_b3, hbb3_1⟩ := t3
 have nb_x1_b3 := SlT.old hsx1_0 lo_b3
 have nb_x2_b3 := SlT.old hsx2_0 lo_b3
 have fr_b3 : w0.heap.size ≤ b3 := Nat.le_trans hE_0.size' lo_b3
 obtain ⟨u0, ⟨u1, _⟩⟩ := hU
 have ne_b2_b3 : b2 ≠ b3 := fun e => u0 3 (by decide) (by rw [s2_1, s3_1, e])
 clear hE_0 hN_0 hD_0 s0_0 s1_0 hsx1_0 hsx2_0
 refine tail_nil ?_
 refine wp_seq ?_
 refine region_any [] [(5, Pr.ex (Value.pointer (some ⟨b3, 0, none⟩))), (6, Pr.ex (Dg.val (bu))), (7, Pr.ex (Value.agg #[i64 (z.size), w32 (z.root).a, w32 (z.root).b, w32 (z.root).c, w32 (z.root).d])), (8, Pr.ex (Dg.val (headOf z))), (9, Pr.ex (Value.pointer (some ⟨b3, 4, none⟩))), (10, Pr.ex (Value.agg #[i64 (i), x1, x2])), (11, Pr.ex (Value.bool (keyCheck bu (headOf z) (i) one path))), (4, Pr.ex (Value.bool (keyCheck bu (headOf z) (i) one path)))] 8 mixed hN_1 hD_1 (by kernel_rfl) (by kernel_rfl) (by kernel_rfl) ?_ ?_
 refine Asks.cons ?_ (Asks.cons ?_ (Asks.cons ?_ (Asks.cons ?_ (Asks.cons ?_ (Asks.cons ?_ (Asks.cons ?_ (Asks.cons ?_ (Asks.zero _))))))))
 exact Ask.plainD rfl rfl fun aq wq hNq hO hR hT => does_field (o' := 0) fld_59_0 ((hO 3 rfl).trans s3_1) rfl ⟨Ext.refl _, rfl⟩
 exact Ask.plainD rfl rfl fun aq wq hNq hO hR hT => does_loadD (o := 0) (n := 4) (mid := [w32 (bu).a, w32 (bu).b, w32 (bu).c, w32 (bu).d]) (hT 5 rfl rfl) (hbb3_1.ext' hR) rfl rfl (Nat.le_of_ble_eq_true rfl) row_27 rfl ⟨Ext.refl _, rfl⟩
 exact Ask.plainD rfl rfl fun aq wq hNq hO hR hT => does_loadD (o := 0) (n := 5) (mid := [i64 (z.size), w32 (z.root).a, w32 (z.root).b, w32 (z.root).c, w32 (z.root).d]) ((hO 2 rfl).trans s2_1) (hbb2_1.ext' hR) rfl rfl (Nat.le_of_ble_eq_true rfl) row_29 rfl ⟨Ext.refl _, rfl⟩
 exact Ask.plainD rfl rfl fun aq wq hNq hO hR hT => does_ret (vs := #[Value.agg #[i64 (z.size), w32 (z.root).a, w32 (z.root).b, w32 (z.root).c, w32 (z.root).d]]) call_17 (args1 (hT 7 rfl rfl)) rfl ((headOfR z wq).mono fun v w2 h => ⟨h.2, h.1⟩)
 exact Ask.plainD rfl rfl fun aq wq hNq hO hR hT => does_field (o' := 4) fld_59_1 ((hO 3 rfl).trans s3_1) rfl ⟨Ext.refl _, rfl⟩
 exact Ask.plainD rfl rfl fun aq wq hNq hO hR hT => does_loadD (o := 4) (n := 3) (mid := [i64 (i), x1, x2]) (hT 9 rfl rfl) (hbb3_1.ext' hR) rfl rfl (Nat.le_of_ble_eq_true rfl) row_57 rfl ⟨Ext.refl _, rfl⟩
 exact Ask.plainD rfl rfl fun aq wq hNq hO hR hT => does_ret (vs := #[Dg.val (bu), Dg.val (headOf z), Value.agg #[i64 (i), x1, x2]]) call_56 (args3 (hT 6 rfl rfl) (hT 8 rfl rfl) (hT 10 rfl rfl)) rfl ((keyCheckR bu (headOf z) (i) one path (x1) (x2) wq ((hsx1_1.ext' hR).wide (Nat.zero_le _) (.inl rfl)) ((hsx2_1.ext' hR).wide (Nat.zero_le _) (.inl rfl)) hn hpn).mono fun v w2 h => ⟨h.2, h.1⟩)
 exact Ask.plainD rfl rfl fun aq wq hNq hO hR hT => does_assign (V := Value.bool (keyCheck bu (headOf z) (i) one path)) (hT 11 rfl rfl) ⟨Ext.refl _, rfl⟩
 intro a2 wd2 hN_2 hD_2 hO hR hA hU
 obtain ⟨_, _, _, _, _, _, _, t4, _⟩ := hA
 have hE_2 := hE_1.trans hR
 have hbb2_2 := hbb2_1.ext' hR
 have hbb3_2 := hbb3_1.ext' hR
 have hsx1_2 := hsx1_1.ext' hR
 have hsx2_2 := hsx2_1.ext' hR
 have s4_2 : get a2 4 = Value.bool (keyCheck bu (headOf z) (i) one path) := t4
 clear hE_1 hN_1 hD_1 s2_1 s3_1 hbb2_1 hbb3_1 hsx1_1 hsx2_1
 refine tail_nil ?_
 refine wp_ret ?_
 refine res_one (V := Value.bool (keyCheck bu (headOf z) (i) one path)) rfl hD_2 s4_2 ?_
 exact ⟨rfl, hE_2⟩

theorem short43 (bu : Dg) (i : Int) (one path : List Dg) (x1 x2 : Value) (w0 : World) (hx1 : SlT DG 0 0 one x1 w0) (hx2 : SlT DG 0 0 path x2 w0) :
    Gives Tryd.prog 28 #[Value.agg #[w32 (bu).a, w32 (bu).b, w32 (bu).c, w32 (bu).d, i64 (i), x1, x2]] w0 (Pr.ex (Value.bool (decide (((one.length : Nat) : Int) ≤ ((40 : Nat) : Int)) && decide (((path.length : Nat) : Int) ≤ ((6 : Nat) : Int))))) := by
 refine enter (N := 15) Tryd.func28 rfl rfl ?_
 intro a0 hN_0 hD_0 hA
 have s0_0 : get a0 0 = Value.agg #[w32 (bu).a, w32 (bu).b, w32 (bu).c, w32 (bu).d, i64 (i), x1, x2] := hA 0 _ rfl
 clear hA
 have hE_0 : Ext w0 w0 := Ext.refl w0
 have hsx1_0 := hx1.close
 have hsx2_0 := hx2.close
 refine wp_seq ?_
 refine region_lex [1] [(1, Pr.box' w0.heap.size 59 [w32 (bu).a, w32 (bu).b, w32 (bu).c, w32 (bu).d, i64 (i), x1, x2]), (2, Pr.ex (Value.bool (false)))] 2 hN_0 hD_0 (by kernel_rfl) (by kernel_rfl) ?_ ?_
 refine Asks.cons ?_ (Asks.cons ?_ (Asks.zero _))
 refine Ask.fresh rfl rfl ?_
 intro aq wq hNq hO hR hT
 exact does_box (V := Value.agg #[w32 (bu).a, w32 (bu).b, w32 (bu).c, w32 (bu).d, i64 (i), x1, x2]) ((hO 0 rfl).trans s0_0) (fun b w2 he hlo hb => ⟨he, ⟨b, rfl, Nat.le_trans hR.size' hlo, hb⟩, ⟨b, rfl, hlo, hb.lt⟩⟩)
 exact Ask.plain rfl rfl fun aq wq hNq hO hR hT => does_assign (V := Value.bool (false)) rfl ⟨Ext.refl _, rfl⟩
 intro a1 wd1 hN_1 hD_1 hO hR hA hU
 obtain ⟨t1, _, _⟩ := hA
 have hE_1 := hE_0.trans hR
 have hsx1_1 := hsx1_0.ext' hR
 have hsx2_1 := hsx2_0.ext' hR
 obtain ⟨b1, s1_1, lo_b1, hbb1_1⟩ := t1
 have nb_x1_b1 := SlT.old hsx1_0 lo_b1
 have nb_x2_b1 := SlT.old hsx2_0 lo_b1
 have fr_b1 : w0.heap.size ≤ b1 := Nat.le_trans hE_0.size' lo_b1
 clear hE_0 hN_0 hD_0 s0_0 hsx1_0 hsx2_0
 refine tail_nil ?_
 refine wp_seq ?_
 refine region_lex [] [(3, Pr.ex (Value.pointer (some ⟨b1, 4, none⟩))), (4, Pr.ex (Value.pointer (some ⟨b1, 5, none⟩))), (5, Pr.ex (x1)), (6, Pr.ex (i64 ((one.length : Nat) : Int))), (7, Pr.ex (Value.bool (decide (((one.length : Nat) : Int) ≤ ((40 : Nat) : Int))))), (8, Pr.ex (Value.bool (decide (((one.length : Nat) : Int) ≤ ((40 : Nat) : Int))))), (9, Pr.ifb (decide (((one.length : Nat) : Int) ≤ ((40 : Nat) : Int))) (Pr.ex (Value.pointer (some ⟨b1, 4, none⟩)))), (10, Pr.ifb (decide (((one.length : Nat) : Int) ≤ ((40 : Nat) : Int))) (Pr.ex (Value.pointer (some ⟨b1, 6, none⟩)))), (11, Pr.ifb (decide (((one.length : Nat) : Int) ≤ ((40 : Nat) : Int))) (Pr.ex (x2))), (12, Pr.ifb (decide (((one.length : Nat) : Int) ≤ ((40 : Nat) : Int))) (Pr.ex (i64 ((path.length : Nat) : Int)))), (13, Pr.ifb (decide (((one.length : Nat) : Int) ≤ ((40 : Nat) : Int))) (Pr.ex (Value.bool (decide (((path.length : Nat) : Int) ≤ ((6 : Nat) : Int)))))), (14, Pr.ex (Value.bool ((decide (((one.length : Nat) : Int) ≤ ((40 : Nat) : Int))) && (decide (((path.length : Nat) : Int) ≤ ((6 : Nat) : Int)))))), (2, Pr.ex (Value.bool ((decide (((one.length : Nat) : Int) ≤ ((40 : Nat) : Int))) && (decide (((path.length : Nat) : Int) ≤ ((6 : Nat) : Int))))))] 13 hN_1 hD_1 (by kernel_rfl) (by kernel_rfl) ?_ ?_
 refine Asks.cons ?_ (Asks.cons ?_ (Asks.cons ?_ (Asks.cons ?_ (Asks.cons ?_ (Asks.cons ?_ (Asks.cons ?_ (Asks.cons ?_ (Asks.cons ?_ (Asks.cons ?_ (Asks.cons ?_ (Asks.cons ?_ (Asks.cons ?_ (Asks.zero _)))))))))))))
 exact Ask.plain rfl rfl fun aq wq hNq hO hR hT => does_field (o' := 4) fld_59_1 ((hO 1 rfl).trans s1_1) rfl ⟨Ext.refl _, rfl⟩
 exact Ask.plain rfl rfl fun aq wq hNq hO hR hT => does_field (o' := 5) fld_57_1 (hT 3 rfl rfl) rfl ⟨Ext.refl _, rfl⟩
 exact Ask.plain rfl rfl fun aq wq hNq hO hR hT => does_loadD1 (o := 5) (V := x1) (hT 4 rfl rfl) (hbb1_1.ext' hR) rfl one_55 ⟨Ext.refl _, rfl⟩
 exact Ask.plain rfl rfl fun aq wq hNq hO hR hT => does_len (T := DG) (xs := one) sli_55 (SlT.at (hT 5 rfl rfl) (hsx1_1.ext' hR)) ⟨Ext.refl _, rfl⟩
 exact Ask.plain rfl rfl fun aq wq hNq hO hR hT => does_leq (a := ((one.length : Nat) : Int)) (b := ((40 : Nat) : Int)) (hT 6 rfl rfl) rfl ⟨Ext.refl _, rfl⟩
 exact Ask.plain rfl rfl fun aq wq hNq hO hR hT => does_move (V := Value.bool (decide (((one.length : Nat) : Int) ≤ ((40 : Nat) : Int)))) (hT 7 rfl rfl) ⟨Ext.refl _, rfl⟩
 refine Ask.guarded (B := decide (((one.length : Nat) : Int) ≤ ((40 : Nat) : Int))) (want := true) (t := 8) rfl rfl rfl rfl (by decide) (fun aq wq hO hR hT => hT 8 rfl rfl) (fun hG aq wq hNq hO hR hT => ?_) (fun hno _ => fun hc => absurd hc hno)
 exact does_field (o' := 4) fld_59_1 ((hO 1 rfl).trans s1_1) rfl ⟨Ext.refl _, fun _ => rfl⟩
 refine Ask.guarded (B := decide (((one.length : Nat) : Int) ≤ ((40 : Nat) : Int))) (want := true) (t := 8) rfl rfl rfl rfl (by decide) (fun aq wq hO hR hT => hT 8 rfl rfl) (fun hG aq wq hNq hO hR hT => ?_) (fun hno _ => fun hc => absurd hc hno)
 exact does_field (o' := 6) fld_57_2 (hT 9 rfl rfl hG) rfl ⟨Ext.refl _, fun _ => rfl⟩
 refine Ask.guarded (B := decide (((one.length : Nat) : Int) ≤ ((40 : Nat) : Int))) (want := true) (t := 8) rfl rfl rfl rfl (by decide) (fun aq wq hO hR hT => hT 8 rfl rfl) (fun hG aq wq hNq hO hR hT => ?_) (fun hno _ => fun hc => absurd hc hno)
 exact does_loadD1 (o := 6) (V := x2) (hT 10 rfl rfl hG) (hbb1_1.ext' hR) rfl one_41 ⟨Ext.refl _, fun _ => rfl⟩
 refine Ask.guarded (B := decide (((one.length : Nat) : Int) ≤ ((40 : Nat) : Int))) (want := true) (t := 8) rfl rfl rfl rfl (by decide) (fun aq wq hO hR hT => hT 8 rfl rfl) (fun hG aq wq hNq hO hR hT => ?_) (fun hno _ => fun hc => absurd hc hno)
 exact does_len (T := DG) (xs := path) sli_41 (SlT.at (hT 11 rfl rfl hG) (hsx2_1.ext' hR)) ⟨Ext.refl _, fun _ => rfl⟩
 refine Ask.guarded (B := decide (((one.length : Nat) : Int) ≤ ((40 : Nat) : Int))) (want := true) (t := 8) rfl rfl rfl rfl (by decide) (fun aq wq hO hR hT => hT 8 rfl rfl) (fun hG aq wq hNq hO hR hT => ?_) (fun hno _ => fun hc => absurd hc hno)
 exact does_leq (a := ((path.length : Nat) : Int)) (b := ((6 : Nat) : Int)) (hT 12 rfl rfl hG) rfl ⟨Ext.refl _, fun _ => rfl⟩
 exact Ask.plain rfl rfl fun aq wq hNq hO hR hT => does_and (B := decide (((one.length : Nat) : Int) ≤ ((40 : Nat) : Int))) (X := decide (((path.length : Nat) : Int) ≤ ((6 : Nat) : Int))) (hT 8 rfl rfl) (fun hB => (hT 13 rfl rfl hB)) rfl ⟨Ext.refl _, rfl⟩
 exact Ask.plain rfl rfl fun aq wq hNq hO hR hT => does_assign (V := Value.bool ((decide (((one.length : Nat) : Int) ≤ ((40 : Nat) : Int))) && (decide (((path.length : Nat) : Int) ≤ ((6 : Nat) : Int))))) (hT 14 rfl rfl) ⟨Ext.refl _, rfl⟩
 intro a2 wd2 hN_2 hD_2 hO hR hA hU
 obtain ⟨_, _, _, _, _, _, _, _, _, _, _, _, t2, _⟩ := hA
 have hE_2 := hE_1.trans hR
 have hbb1_2 := hbb1_1.ext' hR
 have hsx1_2 := hsx1_1.ext' hR
 have hsx2_2 := hsx2_1.ext' hR
 have s2_2 : get a2 2 = Value.bool ((decide (((one.length : Nat) : Int) ≤ ((40 : Nat) : Int))) && (decide (((path.length : Nat) : Int) ≤ ((6 : Nat) : Int)))) := t2
 clear hE_1 hN_1 hD_1 s1_1 hbb1_1 hsx1_1 hsx2_1
 refine tail_nil ?_
 refine wp_ret ?_
 refine res_one (V := Value.bool ((decide (((one.length : Nat) : Int) ≤ ((40 : Nat) : Int))) && (decide (((path.length : Nat) : Int) ≤ ((6 : Nat) : Int))))) rfl hD_2 s2_2 ?_
 exact ⟨rfl, hE_2⟩

end Go.Proofs.YtijfjpbahepegaaDoor
