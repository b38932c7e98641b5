/- The walks of functions of the program: printed. -/
import Derived.Test.YtijfjpbahepegaaDoorG10
import Derived.Test.YtijfjpbahepegaaDoorG70
import Derived.Test.YtijfjpbahepegaaDoorG71
import Derived.Test.YtijfjpbahepegaaDoorF0
set_option maxRecDepth 100000
namespace Go.Proofs.YtijfjpbahepegaaDoor
open Go Go.RowKit Sk Sd
theorem headCheck_ (z : Head) (bu : Dg) (i : Int) (one path : List Dg) (x1 x2 : Value) (w0 : World) (hL : Laid w0) (hx1 : SlT DG 0 0 one x1 w0) (hx2 : SlT DG 0 0 path x2 w0) (hn : one.length ≤ 100000) (hpn : path.length ≤ 100000) :
    Gives Tryd.prog 29 #[Value.agg #[i64 (z.size), w32 (z.root).a, w32 (z.root).b, w32 (z.root).c, w32 (z.root).d], Value.agg #[w32 (bu).a, w32 (bu).b, w32 (bu).c, w32 (bu).d, i64 (i), x1, x2]] w0 (Pr.ex (Value.bool (keyCheck bu (headOf z) i one path))) := by
 refine enter (N := 12) Tryd.func29 rfl rfl ?_
 intro a0 hN_0 hD_0 hA
 have s0_0 : get a0 0 = Value.agg #[i64 (z.size), w32 (z.root).a, w32 (z.root).b, w32 (z.root).c, w32 (z.root).d] := hA 0 _ rfl
 have s1_0 : get a0 1 = Value.agg #[w32 (bu).a, w32 (bu).b, w32 (bu).c, w32 (bu).d, i64 (i), x1, x2] := hA 1 _ rfl
 clear hA
 have hE_0 : Ext w0 w0 := Ext.refl w0
 have hsx1_0 := hx1.close
 have hsx2_0 := hx2.close
 refine wp_seq ?_
 refine region_lex [2, 3] [(2, Pr.box' w0.heap.size 29 [i64 (z.size), w32 (z.root).a, w32 (z.root).b, w32 (z.root).c, w32 (z.root).d]), (3, Pr.box' w0.heap.size 59 [w32 (bu).a, w32 (bu).b, w32 (bu).c, w32 (bu).d, i64 (i), x1, x2]), (4, Pr.ex (Value.bool (false)))] 3 hN_0 hD_0 (by kernel_rfl) (by kernel_rfl) ?_ ?_
 refine Asks.cons ?_ (Asks.cons ?_ (Asks.cons ?_ (Asks.zero _)))
 refine Ask.fresh rfl rfl ?_
 intro aq wq hNq hO hR hT
 exact does_box (V := Value.agg #[i64 (z.size), w32 (z.root).a, w32 (z.root).b, w32 (z.root).c, w32 (z.root).d]) ((hO 0 rfl).trans s0_0) (fun b w2 he hlo hb => ⟨he, ⟨b, rfl, Nat.le_trans hR.size' hlo, hb⟩, ⟨b, rfl, hlo, hb.lt⟩⟩)
 refine Ask.fresh rfl rfl ?_
 intro aq wq hNq hO hR hT
 exact does_box (V := Value.agg #[w32 (bu).a, w32 (bu).b, w32 (bu).c, w32 (bu).d, i64 (i), x1, x2]) ((hO 1 rfl).trans s1_0) (fun b w2 he hlo hb => ⟨he, ⟨b, rfl, Nat.le_trans hR.size' hlo, hb⟩, ⟨b, rfl, hlo, hb.lt⟩⟩)
 exact Ask.plain rfl rfl fun aq wq hNq hO hR hT => does_assign (V := Value.bool (false)) rfl ⟨Ext.refl _, rfl⟩
 intro a1 wd1 hN_1 hD_1 hO hR hA hU
 obtain ⟨t2, t3, _, _⟩ := hA
 have hE_1 := hE_0.trans hR
 have hsx1_1 := hsx1_0.ext' hR
 have hsx2_1 := hsx2_0.ext' hR
 obtain ⟨b2, s2_1, lo_b2, hbb2_1⟩ := t2
 have nb_x1_b2 := SlT.old hsx1_0 lo_b2
 have nb_x2_b2 := SlT.old hsx2_0 lo_b2
 have fr_b2 : w0.heap.size ≤ b2 := Nat.le_trans hE_0.size' lo_b2
 obtain ⟨b3, s3_1, lo_b3, hbb3_1⟩ := t3
 have nb_x1_b3 := SlT.old hsx1_0 lo_b3
 have nb_x2_b3 := SlT.old hsx2_0 lo_b3
 have fr_b3 : w0.heap.size ≤ b3 := Nat.le_trans hE_0.size' lo_b3
 obtain ⟨u0, ⟨u1, _⟩⟩ := hU
 have ne_b2_b3 : b2 ≠ b3 := fun e => u0 3 (by decide) (by rw [s2_1, s3_1, e])
 clear hE_0 hN_0 hD_0 s0_0 s1_0 hsx1_0 hsx2_0
 refine tail_nil ?_
 refine wp_seq ?_
 refine region_any [] [(5, Pr.ex (Value.pointer (some ⟨b3, 0, none⟩))), (6, Pr.ex (Dg.val (bu))), (7, Pr.ex (Value.agg #[i64 (z.size), w32 (z.root).a, w32 (z.root).b, w32 (z.root).c, w32 (z.root).d])), (8, Pr.ex (Dg.val (headOf z))), (9, Pr.ex (Value.pointer (some ⟨b3, 4, none⟩))), (10, Pr.ex (Value.agg #[i64 (i), x1, x2])), (11, Pr.ex (Value.bool (keyCheck bu (headOf z) (i) one path))), (4, Pr.ex (Value.bool (keyCheck bu (headOf z) (i) one path)))] 8 mixed hN_1 hD_1 (by kernel_rfl) (by kernel_rfl) (by kernel_rfl) ?_ ?_
 refine Asks.cons ?_ (Asks.cons ?_ (Asks.cons ?_ (Asks.cons ?_ (Asks.cons ?_ (Asks.cons ?_ (Asks.cons ?_ (Asks.cons ?_ (Asks.zero _))))))))
 exact Ask.plainD rfl rfl fun aq wq hNq hO hR hT => does_field (o' := 0) fld_59_0 ((hO 3 rfl).trans s3_1) rfl ⟨Ext.refl _, rfl⟩
 exact Ask.plainD rfl rfl fun aq wq hNq hO hR hT => does_loadD (o := 0) (n := 4) (mid := [w32 (bu).a, w32 (bu).b, w32 (bu).c, w32 (bu).d]) (hT 5 rfl rfl) (hbb3_1.ext' hR) rfl rfl (Nat.le_of_ble_eq_true rfl) row_27 rfl ⟨Ext.refl _, rfl⟩
 exact Ask.plainD rfl rfl fun aq wq hNq hO hR hT => does_loadD (o := 0) (n := 5) (mid := [i64 (z.size), w32 (z.root).a, w32 (z.root).b, w32 (z.root).c, w32 (z.root).d]) ((hO 2 rfl).trans s2_1) (hbb2_1.ext' hR) rfl rfl (Nat.le_of_ble_eq_true rfl) row_29 rfl ⟨Ext.refl _, rfl⟩
 exact Ask.plainD rfl rfl fun aq wq hNq hO hR hT => does_ret (vs := #[Value.agg #[i64 (z.size), w32 (z.root).a, w32 (z.root).b, w32 (z.root).c, w32 (z.root).d]]) call_16 (args1 (hT 7 rfl rfl)) rfl ((headOf_ z wq (hL.ext (hE_1.trans hR))).mono fun v w2 h => ⟨h.2, h.1⟩)
 exact Ask.plainD rfl rfl fun aq wq hNq hO hR hT => does_field (o' := 4) fld_59_1 ((hO 3 rfl).trans s3_1) rfl ⟨Ext.refl _, rfl⟩
 exact Ask.plainD rfl rfl fun aq wq hNq hO hR hT => does_loadD (o := 4) (n := 3) (mid := [i64 (i), x1, x2]) (hT 9 rfl rfl) (hbb3_1.ext' hR) rfl rfl (Nat.le_of_ble_eq_true rfl) row_57 rfl ⟨Ext.refl _, rfl⟩
 exact Ask.plainD rfl rfl fun aq wq hNq hO hR hT => does_ret (vs := #[Dg.val (bu), Dg.val (headOf z), Value.agg #[i64 (i), x1, x2]]) call_55 (args3 (hT 6 rfl rfl) (hT 8 rfl rfl) (hT 10 rfl rfl)) rfl ((keyCheck_ bu (headOf z) (i) one path (x1) (x2) wq (hL.ext (hE_1.trans hR)) ((hsx1_1.ext' hR).wide (Nat.zero_le _) (.inl rfl)) ((hsx2_1.ext' hR).wide (Nat.zero_le _) (.inl rfl)) hn hpn).mono fun v w2 h => ⟨h.2, h.1⟩)
 exact Ask.plainD rfl rfl fun aq wq hNq hO hR hT => does_assign (V := Value.bool (keyCheck bu (headOf z) (i) one path)) (hT 11 rfl rfl) ⟨Ext.refl _, rfl⟩
 intro a2 wd2 hN_2 hD_2 hO hR hA hU
 obtain ⟨_, _, _, _, _, _, _, t4, _⟩ := hA
 have hE_2 := hE_1.trans hR
 have hbb2_2 := hbb2_1.ext' hR
 have hbb3_2 := hbb3_1.ext' hR
 have hsx1_2 := hsx1_1.ext' hR
 have hsx2_2 := hsx2_1.ext' hR
 have s4_2 : get a2 4 = Value.bool (keyCheck bu (headOf z) (i) one path) := t4
 clear hE_1 hN_1 hD_1 s2_1 s3_1 hbb2_1 hbb3_1 hsx1_1 hsx2_1
 refine tail_nil ?_
 refine wp_ret ?_
 refine res_one (V := Value.bool (keyCheck bu (headOf z) (i) one path)) rfl hD_2 s4_2 ?_
 exact ⟨rfl, hE_2⟩

end Go.Proofs.YtijfjpbahepegaaDoor
