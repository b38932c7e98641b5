/- The walks of functions of the program: printed. -/
import Derived.Test.YtijfjpbahepegaaDoorG25
import Derived.Test.YtijfjpbahepegaaDoorF0
set_option maxRecDepth 100000
namespace Go.Proofs.YtijfjpbahepegaaDoor
open Go Go.RowKit Sk Sd
theorem headOn_ (a b : Head) (l : List Dg) (x1 : Value) (w0 : World) (hL : Laid w0) (hx1 : SlT DG 0 0 l x1 w0) (hn : l.length ≤ 100000) :
    Gives Tryd.prog 25 #[Value.agg #[i64 (a.size), w32 (a.root).a, w32 (a.root).b, w32 (a.root).c, w32 (a.root).d], Value.agg #[i64 (b.size), w32 (b.root).a, w32 (b.root).b, w32 (b.root).c, w32 (b.root).d], x1] w0 (Pr.ex (Value.bool (checksOn a.root a.size b.root b.size l))) := by
 refine enter (N := 17) Tryd.func25 rfl rfl ?_
 intro a0 hN_0 hD_0 hA
 have s0_0 : get a0 0 = Value.agg #[i64 (a.size), w32 (a.root).a, w32 (a.root).b, w32 (a.root).c, w32 (a.root).d] := hA 0 _ rfl
 have s1_0 : get a0 1 = Value.agg #[i64 (b.size), w32 (b.root).a, w32 (b.root).b, w32 (b.root).c, w32 (b.root).d] := hA 1 _ rfl
 have s2_0 : get a0 2 = x1 := hA 2 _ rfl
 clear hA
 have hE_0 : Ext w0 w0 := Ext.refl w0
 have hsx1_0 := hx1.close
 refine wp_seq ?_
 refine region_lex [3, 4] [(3, Pr.box' w0.heap.size 29 [i64 (a.size), w32 (a.root).a, w32 (a.root).b, w32 (a.root).c, w32 (a.root).d]), (4, Pr.box' w0.heap.size 29 [i64 (b.size), w32 (b.root).a, w32 (b.root).b, w32 (b.root).c, w32 (b.root).d]), (6, Pr.ex (Value.bool (false)))] 3 hN_0 hD_0 (by kernel_rfl) (by kernel_rfl) ?_ ?_
 refine Asks.cons ?_ (Asks.cons ?_ (Asks.cons ?_ (Asks.zero _)))
 refine Ask.fresh rfl rfl ?_
 intro aq wq hNq hO hR hT
 exact does_box (V := Value.agg #[i64 (a.size), w32 (a.root).a, w32 (a.root).b, w32 (a.root).c, w32 (a.root).d]) ((hO 0 rfl).trans s0_0) (fun b w2 he hlo hb => ⟨he, ⟨b, rfl, Nat.le_trans hR.size' hlo, hb⟩, ⟨b, rfl, hlo, hb.lt⟩⟩)
 refine Ask.fresh rfl rfl ?_
 intro aq wq hNq hO hR hT
 exact does_box (V := Value.agg #[i64 (b.size), w32 (b.root).a, w32 (b.root).b, w32 (b.root).c, w32 (b.root).d]) ((hO 1 rfl).trans s1_0) (fun b w2 he hlo hb => ⟨he, ⟨b, rfl, Nat.le_trans hR.size' hlo, hb⟩, ⟨b, rfl, hlo, hb.lt⟩⟩)
 exact Ask.plain rfl rfl fun aq wq hNq hO hR hT => does_assign (V := Value.bool (false)) rfl ⟨Ext.refl _, rfl⟩
 intro a1 wd1 hN_1 hD_1 hO hR hA hU
 obtain ⟨t3, t4, _, _⟩ := hA
 have hE_1 := hE_0.trans hR
 have s2_1 := (hO 2 rfl).trans s2_0
 have hsx1_1 := hsx1_0.ext' hR
 obtain ⟨b3, s3_1, lo_b3, hbb3_1⟩ := t3
 have nb_x1_b3 := SlT.old hsx1_0 lo_b3
 have fr_b3 : w0.heap.size ≤ b3 := Nat.le_trans hE_0.size' lo_b3
 obtain ⟨b4, s4_1, lo_b4, hbb4_1⟩ := t4
 have nb_x1_b4 := SlT.old hsx1_0 lo_b4
 have fr_b4 : w0.heap.size ≤ b4 := Nat.le_trans hE_0.size' lo_b4
 obtain ⟨u0, ⟨u1, _⟩⟩ := hU
 have ne_b3_b4 : b3 ≠ b4 := fun e => u0 4 (by decide) (by rw [s3_1, s4_1, e])
 clear hE_0 hN_0 hD_0 s0_0 s1_0 s2_0 hsx1_0
 refine tail_nil ?_
 refine wp_seq ?_
 refine region_lex [] [(7, Pr.ex (Value.pointer (some ⟨b3, 1, none⟩))), (8, Pr.ex (Dg.val (a.root))), (9, Pr.ex (Value.pointer (some ⟨b3, 0, none⟩))), (10, Pr.ex (i64 (a.size))), (11, Pr.ex (Value.pointer (some ⟨b4, 1, none⟩))), (12, Pr.ex (Dg.val (b.root))), (13, Pr.ex (Value.pointer (some ⟨b4, 0, none⟩))), (14, Pr.ex (i64 (b.size))), (15, Pr.ex (x1)), (16, Pr.ex (Value.bool (checksOn a.root (a.size) b.root (b.size) l))), (6, Pr.ex (Value.bool (checksOn a.root (a.size) b.root (b.size) l)))] 11 hN_1 hD_1 (by kernel_rfl) (by kernel_rfl) ?_ ?_
 refine Asks.cons ?_ (Asks.cons ?_ (Asks.cons ?_ (Asks.cons ?_ (Asks.cons ?_ (Asks.cons ?_ (Asks.cons ?_ (Asks.cons ?_ (Asks.cons ?_ (Asks.cons ?_ (Asks.cons ?_ (Asks.zero _)))))))))))
 exact Ask.plain rfl rfl fun aq wq hNq hO hR hT => does_field (o' := 1) fld_29_1 ((hO 3 rfl).trans s3_1) rfl ⟨Ext.refl _, rfl⟩
 exact Ask.plain rfl rfl fun aq wq hNq hO hR hT => does_loadD (o := 1) (n := 4) (mid := [w32 (a.root).a, w32 (a.root).b, w32 (a.root).c, w32 (a.root).d]) (hT 7 rfl rfl) (hbb3_1.ext' hR) rfl rfl (Nat.le_of_ble_eq_true rfl) row_27 rfl ⟨Ext.refl _, rfl⟩
 exact Ask.plain rfl rfl fun aq wq hNq hO hR hT => does_field (o' := 0) fld_29_0 ((hO 3 rfl).trans s3_1) rfl ⟨Ext.refl _, rfl⟩
 exact Ask.plain rfl rfl fun aq wq hNq hO hR hT => does_loadD1 (o := 0) (V := i64 (a.size)) (hT 9 rfl rfl) (hbb3_1.ext' hR) rfl one_3 ⟨Ext.refl _, rfl⟩
 exact Ask.plain rfl rfl fun aq wq hNq hO hR hT => does_field (o' := 1) fld_29_1 ((hO 4 rfl).trans s4_1) rfl ⟨Ext.refl _, rfl⟩
 exact Ask.plain rfl rfl fun aq wq hNq hO hR hT => does_loadD (o := 1) (n := 4) (mid := [w32 (b.root).a, w32 (b.root).b, w32 (b.root).c, w32 (b.root).d]) (hT 11 rfl rfl) (hbb4_1.ext' hR) rfl rfl (Nat.le_of_ble_eq_true rfl) row_27 rfl ⟨Ext.refl _, rfl⟩
 exact Ask.plain rfl rfl fun aq wq hNq hO hR hT => does_field (o' := 0) fld_29_0 ((hO 4 rfl).trans s4_1) rfl ⟨Ext.refl _, rfl⟩
 exact Ask.plain rfl rfl fun aq wq hNq hO hR hT => does_loadD1 (o := 0) (V := i64 (b.size)) (hT 13 rfl rfl) (hbb4_1.ext' hR) rfl one_3 ⟨Ext.refl _, rfl⟩
 exact Ask.plain rfl rfl fun aq wq hNq hO hR hT => does_move (V := x1) ((hO 2 rfl).trans s2_1) ⟨Ext.refl _, rfl⟩
 exact Ask.plain rfl rfl fun aq wq hNq hO hR hT => does_ret (vs := #[Dg.val (a.root), i64 (a.size), Dg.val (b.root), i64 (b.size), x1]) call_52 (args5 (hT 8 rfl rfl) (hT 10 rfl rfl) (hT 12 rfl rfl) (hT 14 rfl rfl) (hT 15 rfl rfl)) rfl ((checkOn_ (a.root) (a.size) (b.root) (b.size) (l) (x1) wq (hL.ext (hE_1.trans hR)) ((hsx1_1.ext' hR).wide (Nat.zero_le _) (.inl rfl)) (by omega)).mono fun v w2 h => ⟨h.2, h.1⟩)
 exact Ask.plain rfl rfl fun aq wq hNq hO hR hT => does_assign (V := Value.bool (checksOn a.root (a.size) b.root (b.size) l)) (hT 16 rfl rfl) ⟨Ext.refl _, rfl⟩
 intro a2 wd2 hN_2 hD_2 hO hR hA hU
 obtain ⟨_, _, _, _, _, _, _, _, _, _, t6, _⟩ := hA
 have hE_2 := hE_1.trans hR
 have hbb3_2 := hbb3_1.ext' hR
 have hbb4_2 := hbb4_1.ext' hR
 have hsx1_2 := hsx1_1.ext' hR
 have s6_2 : get a2 6 = Value.bool (checksOn a.root (a.size) b.root (b.size) l) := t6
 clear hE_1 hN_1 hD_1 s2_1 s3_1 s4_1 hbb3_1 hbb4_1 hsx1_1
 refine tail_nil ?_
 refine wp_ret ?_
 refine res_one (V := Value.bool (checksOn a.root (a.size) b.root (b.size) l)) rfl hD_2 s6_2 ?_
 exact ⟨rfl, hE_2⟩

end Go.Proofs.YtijfjpbahepegaaDoor
