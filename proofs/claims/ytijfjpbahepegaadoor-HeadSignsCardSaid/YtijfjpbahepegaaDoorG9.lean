/- The walks of functions of the program: printed. -/
import Derived.Test.YtijfjpbahepegaaDoorG3
import Derived.Test.YtijfjpbahepegaaDoorG6
import Derived.Test.YtijfjpbahepegaaDoorG7
import Derived.Test.YtijfjpbahepegaaDoorG8
import Derived.Test.YtijfjpbahepegaaDoorF0
set_option maxRecDepth 100000
namespace Go.Proofs.YtijfjpbahepegaaDoor
open Go Go.RowKit Sk Sd
theorem lost_ (items : List (List UInt8)) (x1 : Value) (h : Head) (w0 : World) (hL : Laid w0) (hx1 : SlT Str 0 0 items x1 w0) (hs : ∀ x ∈ items, x.length ≤ 65536) (hn : items.length ≤ 100000) :
    Gives Tryd.prog 14 #[Value.agg #[x1], Value.agg #[i64 (h.size), w32 (h.root).a, w32 (h.root).b, w32 (h.root).c, w32 (h.root).d]] w0 (Pr.ex (i64 ((lost items h : Nat) : Int))) := by
 refine enter (N := 26) Tryd.func14 rfl rfl ?_
 intro a0 hN_0 hD_0 hA
 have s0_0 : get a0 0 = Value.agg #[x1] := hA 0 _ rfl
 have s1_0 : get a0 1 = Value.agg #[i64 (h.size), w32 (h.root).a, w32 (h.root).b, w32 (h.root).c, w32 (h.root).d] := hA 1 _ rfl
 clear hA
 have hE_0 : Ext w0 w0 := Ext.refl w0
 have hsx1_0 := hx1.close
 refine wp_seq ?_
 refine region_lex [2, 3] [(2, Pr.box' w0.heap.size 24 [x1]), (3, Pr.box' w0.heap.size 29 [i64 (h.size), w32 (h.root).a, w32 (h.root).b, w32 (h.root).c, w32 (h.root).d]), (4, Pr.ex (i64 ((0 : Nat) : Int)))] 3 hN_0 hD_0 (by kernel_rfl) (by kernel_rfl) ?_ ?_
 refine Asks.cons ?_ (Asks.cons ?_ (Asks.cons ?_ (Asks.zero _)))
 refine Ask.fresh rfl rfl ?_
 intro aq wq hNq hO hR hT
 exact does_box (V := Value.agg #[x1]) ((hO 0 rfl).trans s0_0) (fun b w2 he hlo hb => ⟨he, ⟨b, rfl, Nat.le_trans hR.size' hlo, hb⟩, ⟨b, rfl, hlo, hb.lt⟩⟩)
 refine Ask.fresh rfl rfl ?_
 intro aq wq hNq hO hR hT
 exact does_box (V := Value.agg #[i64 (h.size), w32 (h.root).a, w32 (h.root).b, w32 (h.root).c, w32 (h.root).d]) ((hO 1 rfl).trans s1_0) (fun b w2 he hlo hb => ⟨he, ⟨b, rfl, Nat.le_trans hR.size' hlo, hb⟩, ⟨b, rfl, hlo, hb.lt⟩⟩)
 exact Ask.plain rfl rfl fun aq wq hNq hO hR hT => does_assign (V := i64 ((0 : Nat) : Int)) rfl ⟨Ext.refl _, rfl⟩
 intro a1 wd1 hN_1 hD_1 hO hR hA hU
 obtain ⟨t2, t3, _, _⟩ := hA
 have hE_1 := hE_0.trans hR
 have hsx1_1 := hsx1_0.ext' hR
 obtain ⟨b2, s2_1, lo_b2, hbb2_1⟩ := t2
 have nb_x1_b2 := SlT.old hsx1_0 lo_b2
 have fr_b2 : w0.heap.size ≤ b2 := Nat.le_trans hE_0.size' lo_b2
 obtain ⟨b3, s3_1, lo_b3, hbb3_1⟩ := t3
 have nb_x1_b3 := SlT.old hsx1_0 lo_b3
 have fr_b3 : w0.heap.size ≤ b3 := Nat.le_trans hE_0.size' lo_b3
 obtain ⟨u0, ⟨u1, _⟩⟩ := hU
 have ne_b2_b3 : b2 ≠ b3 := fun e => u0 3 (by decide) (by rw [s2_1, s3_1, e])
 clear hE_0 hN_0 hD_0 s0_0 s1_0 hsx1_0
 refine tail_nil ?_
 refine wp_seq ?_
 refine wp_block ?_
 refine wp_seq ?_
 refine region_lex [] [(6, Pr.ex (Value.pointer (some ⟨b3, 0, none⟩))), (7, Pr.ex (i64 (h.size))), (8, Pr.ex (Value.bool (decide (h.size < ((0 : Nat) : Int))))), (5, Pr.ex (Value.bool (decide (h.size < ((0 : Nat) : Int)))))] 4 hN_1 hD_1 (by kernel_rfl) (by kernel_rfl) ?_ ?_
 refine Asks.cons ?_ (Asks.cons ?_ (Asks.cons ?_ (Asks.cons ?_ (Asks.zero _))))
 exact Ask.plain rfl rfl fun aq wq hNq hO hR hT => does_field (o' := 0) fld_29_0 ((hO 3 rfl).trans s3_1) rfl ⟨Ext.refl _, rfl⟩
 exact Ask.plain rfl rfl fun aq wq hNq hO hR hT => does_loadD1 (o := 0) (V := i64 (h.size)) (hT 6 rfl rfl) (hbb3_1.ext' hR) rfl one_3 ⟨Ext.refl _, rfl⟩
 exact Ask.plain rfl rfl fun aq wq hNq hO hR hT => does_lss (a := h.size) (b := ((0 : Nat) : Int)) (hT 7 rfl rfl) rfl ⟨Ext.refl _, rfl⟩
 exact Ask.plain rfl rfl fun aq wq hNq hO hR hT => does_assign (V := Value.bool (decide (h.size < ((0 : Nat) : Int)))) (hT 8 rfl rfl) ⟨Ext.refl _, rfl⟩
 intro a2 wd2 hN_2 hD_2 hO hR hA hU
 obtain ⟨_, _, _, t5, _⟩ := hA
 have hE_2 := hE_1.trans hR
 have s2_2 := (hO 2 rfl).trans s2_1
 have s3_2 := (hO 3 rfl).trans s3_1
 have hbb2_2 := hbb2_1.ext' hR
 have hbb3_2 := hbb3_1.ext' hR
 have hsx1_2 := hsx1_1.ext' hR
 have s5_2 : get a2 5 = Value.bool (decide (h.size < ((0 : Nat) : Int))) := t5
 clear hE_1 hN_1 hD_1 s2_1 s3_1 hbb2_1 hbb3_1 hsx1_1
 refine tail_nil ?_
 refine wp_if (B := decide (h.size < ((0 : Nat) : Int))) s5_2 (fun hc0 => ?_) (fun hc0 => ?_)
 have hc0 := of_decide_eq_true hc0
 refine wp_seq ?_
 refine region_lex [] [(4, Pr.ex (i64 ((1 : Nat) : Int)))] 1 hN_2 hD_2 (by kernel_rfl) (by kernel_rfl) ?_ ?_
 refine Asks.cons ?_ (Asks.zero _)
 exact Ask.plain rfl rfl fun aq wq hNq hO hR hT => does_assign (V := i64 ((1 : Nat) : Int)) rfl ⟨Ext.refl _, rfl⟩
 intro a3 wd3 hN_3 hD_3 hO hR hA hU
 obtain ⟨t4, _⟩ := hA
 have hE_3 := hE_2.trans hR
 have hbb2_3 := hbb2_2.ext' hR
 have hbb3_3 := hbb3_2.ext' hR
 have hsx1_3 := hsx1_2.ext' hR
 have s4_3 : get a3 4 = i64 ((1 : Nat) : Int) := t4
 clear hE_2 hN_2 hD_2 s2_2 s3_2 s5_2 hbb2_2 hbb3_2 hsx1_2
 refine tail_nil ?_
 refine wp_ret ?_
 refine res_one (V := i64 ((1 : Nat) : Int)) rfl hD_3 s4_3 ?_
 exact ⟨by show i64 _ = i64 _; rw [lost_neg hc0], hE_3⟩
 have hc0 := of_decide_eq_false hc0
 refine wp_seq ?_
 refine region_lex [] [(10, Pr.ex (Value.pointer (some ⟨b3, 0, none⟩))), (11, Pr.ex (i64 (h.size))), (12, Pr.ex (Value.pointer (some ⟨b2, 0, none⟩))), (13, Pr.ex (x1)), (14, Pr.ex (i64 ((items.length : Nat) : Int))), (15, Pr.ex (Value.bool (decide (((items.length : Nat) : Int) < h.size)))), (9, Pr.ex (Value.bool (decide (((items.length : Nat) : Int) < h.size))))] 7 hN_2 hD_2 (by kernel_rfl) (by kernel_rfl) ?_ ?_
 refine Asks.cons ?_ (Asks.cons ?_ (Asks.cons ?_ (Asks.cons ?_ (Asks.cons ?_ (Asks.cons ?_ (Asks.cons ?_ (Asks.zero _)))))))
 exact Ask.plain rfl rfl fun aq wq hNq hO hR hT => does_field (o' := 0) fld_29_0 ((hO 3 rfl).trans s3_2) rfl ⟨Ext.refl _, rfl⟩
 exact Ask.plain rfl rfl fun aq wq hNq hO hR hT => does_loadD1 (o := 0) (V := i64 (h.size)) (hT 10 rfl rfl) (hbb3_2.ext' hR) rfl one_3 ⟨Ext.refl _, rfl⟩
 exact Ask.plain rfl rfl fun aq wq hNq hO hR hT => does_field (o' := 0) fld_24_0 ((hO 2 rfl).trans s2_2) rfl ⟨Ext.refl _, rfl⟩
 exact Ask.plain rfl rfl fun aq wq hNq hO hR hT => does_loadD1 (o := 0) (V := x1) (hT 12 rfl rfl) (hbb2_2.ext' hR) rfl one_22 ⟨Ext.refl _, rfl⟩
 exact Ask.plain rfl rfl fun aq wq hNq hO hR hT => does_len (T := Str) (xs := items) sli_22 (SlT.at (hT 13 rfl rfl) (hsx1_2.ext' hR)) ⟨Ext.refl _, rfl⟩
 exact Ask.plain rfl rfl fun aq wq hNq hO hR hT => does_gtr (a := h.size) (b := ((items.length : Nat) : Int)) (hT 11 rfl rfl) (hT 14 rfl rfl) ⟨Ext.refl _, rfl⟩
 exact Ask.plain rfl rfl fun aq wq hNq hO hR hT => does_assign (V := Value.bool (decide (((items.length : Nat) : Int) < h.size))) (hT 15 rfl rfl) ⟨Ext.refl _, rfl⟩
 intro a4 wd4 hN_4 hD_4 hO hR hA hU
 obtain ⟨_, _, _, _, _, _, t9, _⟩ := hA
 have hE_4 := hE_2.trans hR
 have s2_4 := (hO 2 rfl).trans s2_2
 have s3_4 := (hO 3 rfl).trans s3_2
 have hbb2_4 := hbb2_2.ext' hR
 have hbb3_4 := hbb3_2.ext' hR
 have hsx1_4 := hsx1_2.ext' hR
 have s9_4 : get a4 9 = Value.bool (decide (((items.length : Nat) : Int) < h.size)) := t9
 clear hE_2 hN_2 hD_2 s2_2 s3_2 s5_2 hbb2_2 hbb3_2 hsx1_2
 refine tail_nil ?_
 refine wp_if (B := decide (((items.length : Nat) : Int) < h.size)) s9_4 (fun hc1 => ?_) (fun hc1 => ?_)
 have hc1 := of_decide_eq_true hc1
 refine wp_seq ?_
 refine region_lex [] [(4, Pr.ex (i64 ((6 : Nat) : Int)))] 1 hN_4 hD_4 (by kernel_rfl) (by kernel_rfl) ?_ ?_
 refine Asks.cons ?_ (Asks.zero _)
 exact Ask.plain rfl rfl fun aq wq hNq hO hR hT => does_assign (V := i64 ((6 : Nat) : Int)) rfl ⟨Ext.refl _, rfl⟩
 intro a5 wd5 hN_5 hD_5 hO hR hA hU
 obtain ⟨t4, _⟩ := hA
 have hE_5 := hE_4.trans hR
 have hbb2_5 := hbb2_4.ext' hR
 have hbb3_5 := hbb3_4.ext' hR
 have hsx1_5 := hsx1_4.ext' hR
 have s4_5 : get a5 4 = i64 ((6 : Nat) : Int) := t4
 clear hE_4 hN_4 hD_4 s2_4 s3_4 s9_4 hbb2_4 hbb3_4 hsx1_4
 refine tail_nil ?_
 refine wp_ret ?_
 refine res_one (V := i64 ((6 : Nat) : Int)) rfl hD_5 s4_5 ?_
 exact ⟨by show i64 _ = i64 _; rw [lost_none hc0 hc1], hE_5⟩
 have hc1 := of_decide_eq_false hc1
 refine wp_seq ?_
 refine region_any [] [(17, Pr.ex (Value.pointer (some ⟨b2, 0, none⟩))), (18, Pr.ex (x1)), (19, Pr.ex (Value.pointer (some ⟨b3, 0, none⟩))), (20, Pr.ex (i64 (h.size))), (21, Pr.sl' Str 0 (w0.heap.size + 1) (items.take (h.size).toNat)), (22, Pr.ag (fun x => Value.agg #[x]) (Pr.sl' Str 0 (w0.heap.size + 1) (items.take (h.size).toNat))), (23, Pr.ex (Value.agg #[i64 (((items.take (h.size).toNat).length : Nat) : Int), w32 (root ((items.take (h.size).toNat).map of)).a, w32 (root ((items.take (h.size).toNat).map of)).b, w32 (root ((items.take (h.size).toNat).map of)).c, w32 (root ((items.take (h.size).toNat).map of)).d])), (24, Pr.ex (Value.agg #[i64 (h.size), w32 (h.root).a, w32 (h.root).b, w32 (h.root).c, w32 (h.root).d])), (25, Pr.ex (Value.bool (!decide ((⟨(((items.take (h.size).toNat).length : Nat) : Int), root ((items.take (h.size).toNat).map of)⟩ : Head) = (⟨h.size, h.root⟩ : Head))))), (16, Pr.ex (Value.bool (!decide ((⟨(((items.take (h.size).toNat).length : Nat) : Int), root ((items.take (h.size).toNat).map of)⟩ : Head) = (⟨h.size, h.root⟩ : Head)))))] 10 mixed hN_4 hD_4 (by kernel_rfl) (by kernel_rfl) (by kernel_rfl) ?_ ?_
 refine Asks.cons ?_ (Asks.cons ?_ (Asks.cons ?_ (Asks.cons ?_ (Asks.cons ?_ (Asks.cons ?_ (Asks.cons ?_ (Asks.cons ?_ (Asks.cons ?_ (Asks.cons ?_ (Asks.zero _))))))))))
 exact Ask.plainD rfl rfl fun aq wq hNq hO hR hT => does_field (o' := 0) fld_24_0 ((hO 2 rfl).trans s2_4) rfl ⟨Ext.refl _, rfl⟩
 exact Ask.plainD rfl rfl fun aq wq hNq hO hR hT => does_loadD1 (o := 0) (V := x1) (hT 17 rfl rfl) (hbb2_4.ext' hR) rfl one_22 ⟨Ext.refl _, rfl⟩
 exact Ask.plainD rfl rfl fun aq wq hNq hO hR hT => does_field (o' := 0) fld_29_0 ((hO 3 rfl).trans s3_4) rfl ⟨Ext.refl _, rfl⟩
 exact Ask.plainD rfl rfl fun aq wq hNq hO hR hT => does_loadD1 (o := 0) (V := i64 (h.size)) (hT 19 rfl rfl) (hbb3_4.ext' hR) rfl one_3 ⟨Ext.refl _, rfl⟩
 exact Ask.plainD rfl rfl fun aq wq hNq hO hR hT => does_sliceHi (T := Str) (xs := items) (k := h.size) sli_22 rfl (SlT.at (hT 18 rfl rfl) (hsx1_4.ext' hR)) (hT 20 rfl rfl) (by omega) (by omega) (fun v h => ⟨Ext.refl _, h⟩)
 exact Ask.plainD rfl rfl fun aq wq hNq hO hR hT => does_build (vs := #[(0, get aq 21)]) (V := Value.agg #[get aq 21]) (parts1 rfl) (by obtain ⟨sa0, sc0, hv0, _⟩ := (hT 21 rfl rfl); rw [hv0]; kernel_rfl) ⟨Ext.refl _, ⟨get aq 21, rfl, (hT 21 rfl rfl)⟩⟩
 exact Ask.plainD rfl rfl fun aq wq hNq hO hR hT => by
  obtain ⟨z22_0, hz22, kz22_0⟩ := (hT 22 rfl rfl)
  exact does_ret (vs := #[Value.agg #[z22_0]]) call_18 (args1 hz22) rfl ((shead (items.take (h.size).toNat) (z22_0) wq (hL.ext (hE_4.trans hR)) (kz22_0.wide (Nat.zero_le _) (.inl rfl)) (fun x hx => hs x (List.mem_of_mem_take hx)) (by simp only [List.length_take]; omega)).mono fun v w2 h => ⟨h.2, h.1⟩)
 exact Ask.plainD rfl rfl fun aq wq hNq hO hR hT => does_loadD (o := 0) (n := 5) (mid := [i64 (h.size), w32 (h.root).a, w32 (h.root).b, w32 (h.root).c, w32 (h.root).d]) ((hO 3 rfl).trans s3_4) (hbb3_4.ext' hR) rfl rfl (Nat.le_of_ble_eq_true rfl) row_29 rfl ⟨Ext.refl _, rfl⟩
 exact Ask.plainD rfl rfl fun aq wq hNq hO hR hT => does_neT (a := (⟨(((items.take (h.size).toNat).length : Nat) : Int), root ((items.take (h.size).toNat).map of)⟩ : Head)) (b := (⟨h.size, h.root⟩ : Head)) eq_29 (hT 23 rfl rfl) (hT 24 rfl rfl) ⟨Ext.refl _, rfl⟩
 exact Ask.plainD rfl rfl fun aq wq hNq hO hR hT => does_assign (V := Value.bool (!decide ((⟨(((items.take (h.size).toNat).length : Nat) : Int), root ((items.take (h.size).toNat).map of)⟩ : Head) = (⟨h.size, h.root⟩ : Head)))) (hT 25 rfl rfl) ⟨Ext.refl _, rfl⟩
 intro a6 wd6 hN_6 hD_6 hO hR hA hU
 obtain ⟨_, _, _, _, _, _, _, _, _, t16, _⟩ := hA
 have hE_6 := hE_4.trans hR
 have hbb2_6 := hbb2_4.ext' hR
 have hbb3_6 := hbb3_4.ext' hR
 have hsx1_6 := hsx1_4.ext' hR
 have s16_6 : get a6 16 = Value.bool (!decide ((⟨(((items.take (h.size).toNat).length : Nat) : Int), root ((items.take (h.size).toNat).map of)⟩ : Head) = (⟨h.size, h.root⟩ : Head))) := t16
 clear hE_4 hN_4 hD_4 s2_4 s3_4 s9_4 hbb2_4 hbb3_4 hsx1_4
 refine tail_nil ?_
 refine wp_if (B := !decide ((⟨(((items.take (h.size).toNat).length : Nat) : Int), root ((items.take (h.size).toNat).map of)⟩ : Head) = (⟨h.size, h.root⟩ : Head))) s16_6 (fun hc2 => ?_) (fun hc2 => ?_)
 have hc2 := of_decide_eq_false (bn hc2)
 refine wp_seq ?_
 refine region_lex [] [(4, Pr.ex (i64 ((8 : Nat) : Int)))] 1 hN_6 hD_6 (by kernel_rfl) (by kernel_rfl) ?_ ?_
 refine Asks.cons ?_ (Asks.zero _)
 exact Ask.plain rfl rfl fun aq wq hNq hO hR hT => does_assign (V := i64 ((8 : Nat) : Int)) rfl ⟨Ext.refl _, rfl⟩
 intro a7 wd7 hN_7 hD_7 hO hR hA hU
 obtain ⟨t4, _⟩ := hA
 have hE_7 := hE_6.trans hR
 have hbb2_7 := hbb2_6.ext' hR
 have hbb3_7 := hbb3_6.ext' hR
 have hsx1_7 := hsx1_6.ext' hR
 have s4_7 : get a7 4 = i64 ((8 : Nat) : Int) := t4
 clear hE_6 hN_6 hD_6 s16_6 hbb2_6 hbb3_6 hsx1_6
 refine tail_nil ?_
 refine wp_ret ?_
 refine res_one (V := i64 ((8 : Nat) : Int)) rfl hD_7 s4_7 ?_
 exact ⟨by show i64 _ = i64 _; rw [lost_bad hc0 hc1 (mt (head_take hc0 hc1).2 hc2)], hE_7⟩
 have hc2 := of_decide_eq_true (bn' hc2)
 refine wp_skip ?_
 refine wp_seq ?_
 refine region_lex [] [(4, Pr.ex (i64 ((0 : Nat) : Int)))] 1 hN_6 hD_6 (by kernel_rfl) (by kernel_rfl) ?_ ?_
 refine Asks.cons ?_ (Asks.zero _)
 exact Ask.plain rfl rfl fun aq wq hNq hO hR hT => does_assign (V := i64 ((0 : Nat) : Int)) rfl ⟨Ext.refl _, rfl⟩
 intro a8 wd8 hN_8 hD_8 hO hR hA hU
 obtain ⟨t4, _⟩ := hA
 have hE_8 := hE_6.trans hR
 have hbb2_8 := hbb2_6.ext' hR
 have hbb3_8 := hbb3_6.ext' hR
 have hsx1_8 := hsx1_6.ext' hR
 have s4_8 : get a8 4 = i64 ((0 : Nat) : Int) := t4
 clear hE_6 hN_6 hD_6 s16_6 hbb2_6 hbb3_6 hsx1_6
 refine tail_nil ?_
 refine wp_ret ?_
 refine res_one (V := i64 ((0 : Nat) : Int)) rfl hD_8 s4_8 ?_
 exact ⟨by show i64 _ = i64 _; rw [lost_ok hc0 hc1 ((head_take hc0 hc1).1 hc2)], hE_8⟩

theorem alive43  (w0 : World) (hL : Laid w0) :
    Gives Tryd.prog 12 #[] w0 (Pr.ex (Value.bool true)) := by
 refine enter (N := 30) Tryd.func12 rfl rfl ?_
 intro a0 hN_0 hD_0 hA
 clear hA
 have hE_0 : Ext w0 w0 := Ext.refl w0
 refine wp_seq ?_
 refine region_lex [] [(0, Pr.ex (Value.bool (false)))] 1 hN_0 hD_0 (by kernel_rfl) (by kernel_rfl) ?_ ?_
 refine Asks.cons ?_ (Asks.zero _)
 exact Ask.plain rfl rfl fun aq wq hNq hO hR hT => does_assign (V := Value.bool (false)) rfl ⟨Ext.refl _, rfl⟩
 intro a1 wd1 hN_1 hD_1 hO hR hA hU
 obtain ⟨_, _⟩ := hA
 have hE_1 := hE_0.trans hR
 clear hE_0 hN_0 hD_0
 refine tail_nil ?_
 refine wp_seq ?_
 refine region_lex [] [(3, Pr.own' Str wd1.heap.size 9 ([([97, 98] : List UInt8)])), (4, Pr.ag (fun x => Value.agg #[x]) (Pr.own' Str wd1.heap.size 9 ([([97, 98] : List UInt8)])))] 2 hN_1 hD_1 (by kernel_rfl) (by kernel_rfl) ?_ ?_
 refine Asks.cons ?_ (Asks.cons ?_ (Asks.zero _))
 exact Ask.plain rfl rfl fun aq wq hNq hO hR hT => does_slice1 (T := Str) (X := ([97, 98] : List UInt8)) (V := str (([97, 98] : List UInt8))) app_22 rfl (by decide) rfl rfl (fun v w2 he _ ho => ⟨he, OwnT.base ho hR.size'⟩)
 exact Ask.plain rfl rfl fun aq wq hNq hO hR hT => does_build (vs := #[(0, get aq 3)]) (V := Value.agg #[get aq 3]) (parts1 rfl) (by obtain ⟨sa0, sc0, hv0, _⟩ := (OwnT.sl (hT 3 rfl rfl)); rw [hv0]; kernel_rfl) ⟨Ext.refl _, ⟨get aq 3, rfl, (hT 3 rfl rfl)⟩⟩
 intro a2 wd2 hN_2 hD_2 hO hR hA hU
 obtain ⟨_, t4, _⟩ := hA
 have hE_2 := hE_1.trans hR
 obtain ⟨x4_0_2, s4_2, ky4_0_2⟩ := t4
 replace ky4_0_2 : OwnT Str wd1.heap.size 9 ([([97, 98] : List UInt8)]) x4_0_2 wd2 := ky4_0_2
 have hsx4_0_2_2 := ky4_0_2.sl.wide (Nat.zero_le _) (.inl rfl)
 have hox4_0_2_2 := OwnT.base ky4_0_2 hE_1.size'
 clear hE_1 hN_1 hD_1
 refine tail_put rfl rfl hN_2 hD_2 (by decide) (does_alloc zero_24 (fun b1 wd3 he lo_b1 hbb1_3 => fun a3 hN_3 hD_3 hv hO => ?_))
 have s1_3 := hv
 have hE_3 := hE_2.trans he
 have hsx4_0_2_3 := hsx4_0_2_2.ext' he
 have hox4_0_2_3 := hox4_0_2_2.ext' he
 have fr_b1 : w0.heap.size ≤ b1 := Nat.le_trans hE_2.size' lo_b1
 have nb_x4_0_2_b1 := SlT.old hsx4_0_2_2 lo_b1
 have nbo_x4_0_2_b1 : x4_0_2.ownBlock ≠ some b1 := fun e => Nat.lt_irrefl _ (Nat.lt_of_lt_of_le (OwnT.block_lt hox4_0_2_2 e).2 lo_b1)
 have s4_3 := (hO 4 rfl).trans s4_2
 clear hO hv hN_2 hD_2 hE_2 hsx4_0_2_2 hox4_0_2_2 s4_2
 refine tail_none rfl rfl (does_storeD (o := 0) (n := 1) (cs' := [x4_0_2]) (V := Value.agg #[x4_0_2]) s1_3 s4_3 hbb1_3 (Nat.le_of_ble_eq_true rfl) rfl siz_24 (one_cons (SlT.one hsx4_0_2_3) one_nil) rfl (fun wd4 hX hz hbb1_4 => ?_))
 have hE_4 := hE_3.since hX (fun k e => e ▸ fr_b1)
 have hsx4_0_2_4 := SlT.over hsx4_0_2_3 hX nb_x4_0_2_b1
 have hox4_0_2_4 := OwnT.ext hox4_0_2_3 hX (fun k hk e => nbo_x4_0_2_b1 (e ▸ hk))
 clear hX hz hE_3 hbb1_3 hsx4_0_2_3 hox4_0_2_3
 refine tail_nil ?_
 refine wp_seq ?_
 refine region_lex [2] [(5, Pr.ex (Value.agg #[x4_0_2])), (6, Pr.ex (Value.agg #[i64 ((([([97, 98] : List UInt8)]).length : Nat) : Int), w32 (root (([([97, 98] : List UInt8)]).map of)).a, w32 (root (([([97, 98] : List UInt8)]).map of)).b, w32 (root (([([97, 98] : List UInt8)]).map of)).c, w32 (root (([([97, 98] : List UInt8)]).map of)).d])), (2, Pr.box' wd4.heap.size 29 [i64 ((0 : Nat) : Int), w32 (Dg.zero).a, w32 (Dg.zero).b, w32 (Dg.zero).c, w32 (Dg.zero).d])] 3 hN_3 hD_3 (by kernel_rfl) (by kernel_rfl) ?_ ?_
 refine Asks.cons ?_ (Asks.cons ?_ (Asks.cons ?_ (Asks.zero _)))
 exact Ask.plain rfl rfl fun aq wq hNq hO hR hT => does_loadD (o := 0) (n := 1) (mid := [x4_0_2]) ((hO 1 rfl).trans s1_3) (hbb1_4.ext' hR) rfl rfl (Nat.le_of_ble_eq_true rfl) row_24 rfl ⟨Ext.refl _, rfl⟩
 exact Ask.plain rfl rfl fun aq wq hNq hO hR hT => does_ret (vs := #[Value.agg #[x4_0_2]]) call_18 (args1 (hT 5 rfl rfl)) rfl ((shead ([([97, 98] : List UInt8)]) (x4_0_2) wq (hL.ext (hE_4.trans hR)) ((hsx4_0_2_4.ext' hR).wide (Nat.zero_le _) (.inl rfl)) (by decide) (by decide)).mono fun v w2 h => ⟨h.2, h.1⟩)
 refine Ask.fresh rfl rfl ?_
 intro aq wq hNq hO hR hT
 exact does_alloc zero_29 (fun b w2 he hlo hb => ⟨he, ⟨b, rfl, Nat.le_trans hR.size' hlo, hb⟩, ⟨b, rfl, hlo, hb.lt⟩⟩)
 intro a5 wd5 hN_5 hD_5 hO hR hA hU
 obtain ⟨_, t6, t2, _⟩ := hA
 have hE_5 := hE_4.trans hR
 have s1_5 := (hO 1 rfl).trans s1_3
 have hbb1_5 := hbb1_4.ext' hR
 have hsx4_0_2_5 := hsx4_0_2_4.ext' hR
 have hox4_0_2_5 := hox4_0_2_4.ext' hR
 have s6_5 : get a5 6 = Value.agg #[i64 ((([([97, 98] : List UInt8)]).length : Nat) : Int), w32 (root (([([97, 98] : List UInt8)]).map of)).a, w32 (root (([([97, 98] : List UInt8)]).map of)).b, w32 (root (([([97, 98] : List UInt8)]).map of)).c, w32 (root (([([97, 98] : List UInt8)]).map of)).d] := t6
 obtain ⟨b2, s2_5, lo_b2, hbb2_5⟩ := t2
 have ne_b1_b2 : b1 ≠ b2 := fun e => Nat.lt_irrefl _ (Nat.lt_of_lt_of_le hbb1_4.lt (e ▸ lo_b2))
 have nb_x4_0_2_b2 := SlT.old hsx4_0_2_4 lo_b2
 have nbo_x4_0_2_b2 : x4_0_2.ownBlock ≠ some b2 := fun e => Nat.lt_irrefl _ (Nat.lt_of_lt_of_le (OwnT.block_lt hox4_0_2_4 e).2 lo_b2)
 have fr_b2 : w0.heap.size ≤ b2 := Nat.le_trans hE_4.size' lo_b2
 clear hE_4 hN_3 hD_3 s1_3 s4_3 hbb1_4 hsx4_0_2_4 hox4_0_2_4
 refine tail_none rfl rfl (does_storeD (o := 0) (n := 5) (cs' := [i64 ((([([97, 98] : List UInt8)]).length : Nat) : Int), w32 (root (([([97, 98] : List UInt8)]).map of)).a, w32 (root (([([97, 98] : List UInt8)]).map of)).b, w32 (root (([([97, 98] : List UInt8)]).map of)).c, w32 (root (([([97, 98] : List UInt8)]).map of)).d]) (V := Value.agg #[i64 ((([([97, 98] : List UInt8)]).length : Nat) : Int), w32 (root (([([97, 98] : List UInt8)]).map of)).a, w32 (root (([([97, 98] : List UInt8)]).map of)).b, w32 (root (([([97, 98] : List UInt8)]).map of)).c, w32 (root (([([97, 98] : List UInt8)]).map of)).d]) s2_5 s6_5 hbb2_5 (Nat.le_of_ble_eq_true rfl) rfl siz_29 rfl rfl (fun wd6 hX hz hbb2_6 => ?_))
 have hE_6 := hE_5.since hX (fun k e => e ▸ fr_b2)
 have hbb1_6 := hbb1_5.ext hX ne_b1_b2
 have hsx4_0_2_6 := SlT.over hsx4_0_2_5 hX nb_x4_0_2_b2
 have hox4_0_2_6 := OwnT.ext hox4_0_2_5 hX (fun k hk e => nbo_x4_0_2_b2 (e ▸ hk))
 clear hX hz hE_5 hbb1_5 hbb2_5 hsx4_0_2_5 hox4_0_2_5
 refine tail_nil ?_
 refine wp_seq ?_
 refine region_any [] [(7, Pr.ex (Value.agg #[i64 ((([([97, 98] : List UInt8)]).length : Nat) : Int), w32 (root (([([97, 98] : List UInt8)]).map of)).a, w32 (root (([([97, 98] : List UInt8)]).map of)).b, w32 (root (([([97, 98] : List UInt8)]).map of)).c, w32 (root (([([97, 98] : List UInt8)]).map of)).d])), (8, Pr.ex (Dg.val (of (([97, 98] : List UInt8))))), (9, Pr.ex (Value.agg #[i64 ((1 : Nat) : Int), w32 (of (([97, 98] : List UInt8))).a, w32 (of (([97, 98] : List UInt8))).b, w32 (of (([97, 98] : List UInt8))).c, w32 (of (([97, 98] : List UInt8))).d])), (10, Pr.ex (Value.bool (decide ((⟨((([([97, 98] : List UInt8)]).length : Nat) : Int), root (([([97, 98] : List UInt8)]).map of)⟩ : Head) = (⟨((1 : Nat) : Int), of (([97, 98] : List UInt8))⟩ : Head))))), (11, Pr.ex (Value.bool (decide ((⟨((([([97, 98] : List UInt8)]).length : Nat) : Int), root (([([97, 98] : List UInt8)]).map of)⟩ : Head) = (⟨((1 : Nat) : Int), of (([97, 98] : List UInt8))⟩ : Head))))), (12, Pr.ifb (decide ((⟨((([([97, 98] : List UInt8)]).length : Nat) : Int), root (([([97, 98] : List UInt8)]).map of)⟩ : Head) = (⟨((1 : Nat) : Int), of (([97, 98] : List UInt8))⟩ : Head))) (Pr.ex (Value.agg #[x4_0_2]))), (13, Pr.ifb (decide ((⟨((([([97, 98] : List UInt8)]).length : Nat) : Int), root (([([97, 98] : List UInt8)]).map of)⟩ : Head) = (⟨((1 : Nat) : Int), of (([97, 98] : List UInt8))⟩ : Head))) (Pr.ex (Value.agg #[i64 ((([([97, 98] : List UInt8)]).length : Nat) : Int), w32 (root (([([97, 98] : List UInt8)]).map of)).a, w32 (root (([([97, 98] : List UInt8)]).map of)).b, w32 (root (([([97, 98] : List UInt8)]).map of)).c, w32 (root (([([97, 98] : List UInt8)]).map of)).d]))), (14, Pr.ifb (decide ((⟨((([([97, 98] : List UInt8)]).length : Nat) : Int), root (([([97, 98] : List UInt8)]).map of)⟩ : Head) = (⟨((1 : Nat) : Int), of (([97, 98] : List UInt8))⟩ : Head))) (Pr.ex (i64 ((lost ([([97, 98] : List UInt8)]) (⟨((([([97, 98] : List UInt8)]).length : Nat) : Int), root (([([97, 98] : List UInt8)]).map of)⟩ : Head) : Nat) : Int)))), (15, Pr.ifb (decide ((⟨((([([97, 98] : List UInt8)]).length : Nat) : Int), root (([([97, 98] : List UInt8)]).map of)⟩ : Head) = (⟨((1 : Nat) : Int), of (([97, 98] : List UInt8))⟩ : Head))) (Pr.ex (Value.bool (decide (((lost ([([97, 98] : List UInt8)]) (⟨((([([97, 98] : List UInt8)]).length : Nat) : Int), root (([([97, 98] : List UInt8)]).map of)⟩ : Head) : Nat) : Int) = ((0 : Nat) : Int)))))), (16, Pr.ex (Value.bool ((decide ((⟨((([([97, 98] : List UInt8)]).length : Nat) : Int), root (([([97, 98] : List UInt8)]).map of)⟩ : Head) = (⟨((1 : Nat) : Int), of (([97, 98] : List UInt8))⟩ : Head))) && (decide (((lost ([([97, 98] : List UInt8)]) (⟨((([([97, 98] : List UInt8)]).length : Nat) : Int), root (([([97, 98] : List UInt8)]).map of)⟩ : Head) : Nat) : Int) = ((0 : Nat) : Int)))))), (17, Pr.ex (Value.bool ((decide ((⟨((([([97, 98] : List UInt8)]).length : Nat) : Int), root (([([97, 98] : List UInt8)]).map of)⟩ : Head) = (⟨((1 : Nat) : Int), of (([97, 98] : List UInt8))⟩ : Head))) && (decide (((lost ([([97, 98] : List UInt8)]) (⟨((([([97, 98] : List UInt8)]).length : Nat) : Int), root (([([97, 98] : List UInt8)]).map of)⟩ : Head) : Nat) : Int) = ((0 : Nat) : Int)))))), (18, Pr.ifb ((decide ((⟨((([([97, 98] : List UInt8)]).length : Nat) : Int), root (([([97, 98] : List UInt8)]).map of)⟩ : Head) = (⟨((1 : Nat) : Int), of (([97, 98] : List UInt8))⟩ : Head))) && (decide (((lost ([([97, 98] : List UInt8)]) (⟨((([([97, 98] : List UInt8)]).length : Nat) : Int), root (([([97, 98] : List UInt8)]).map of)⟩ : Head) : Nat) : Int) = ((0 : Nat) : Int)))) (Pr.ex (Value.agg #[Value.slice none 0 0]))), (19, Pr.ifb ((decide ((⟨((([([97, 98] : List UInt8)]).length : Nat) : Int), root (([([97, 98] : List UInt8)]).map of)⟩ : Head) = (⟨((1 : Nat) : Int), of (([97, 98] : List UInt8))⟩ : Head))) && (decide (((lost ([([97, 98] : List UInt8)]) (⟨((([([97, 98] : List UInt8)]).length : Nat) : Int), root (([([97, 98] : List UInt8)]).map of)⟩ : Head) : Nat) : Int) = ((0 : Nat) : Int)))) (Pr.ex (Value.agg #[i64 ((([([97, 98] : List UInt8)]).length : Nat) : Int), w32 (root (([([97, 98] : List UInt8)]).map of)).a, w32 (root (([([97, 98] : List UInt8)]).map of)).b, w32 (root (([([97, 98] : List UInt8)]).map of)).c, w32 (root (([([97, 98] : List UInt8)]).map of)).d]))), (20, Pr.ifb ((decide ((⟨((([([97, 98] : List UInt8)]).length : Nat) : Int), root (([([97, 98] : List UInt8)]).map of)⟩ : Head) = (⟨((1 : Nat) : Int), of (([97, 98] : List UInt8))⟩ : Head))) && (decide (((lost ([([97, 98] : List UInt8)]) (⟨((([([97, 98] : List UInt8)]).length : Nat) : Int), root (([([97, 98] : List UInt8)]).map of)⟩ : Head) : Nat) : Int) = ((0 : Nat) : Int)))) (Pr.ex (i64 ((lost [] (⟨((([([97, 98] : List UInt8)]).length : Nat) : Int), root (([([97, 98] : List UInt8)]).map of)⟩ : Head) : Nat) : Int)))), (21, Pr.ifb ((decide ((⟨((([([97, 98] : List UInt8)]).length : Nat) : Int), root (([([97, 98] : List UInt8)]).map of)⟩ : Head) = (⟨((1 : Nat) : Int), of (([97, 98] : List UInt8))⟩ : Head))) && (decide (((lost ([([97, 98] : List UInt8)]) (⟨((([([97, 98] : List UInt8)]).length : Nat) : Int), root (([([97, 98] : List UInt8)]).map of)⟩ : Head) : Nat) : Int) = ((0 : Nat) : Int)))) (Pr.ex (Value.bool (decide (((lost [] (⟨((([([97, 98] : List UInt8)]).length : Nat) : Int), root (([([97, 98] : List UInt8)]).map of)⟩ : Head) : Nat) : Int) = ((6 : Nat) : Int)))))), (22, Pr.ex (Value.bool (((decide ((⟨((([([97, 98] : List UInt8)]).length : Nat) : Int), root (([([97, 98] : List UInt8)]).map of)⟩ : Head) = (⟨((1 : Nat) : Int), of (([97, 98] : List UInt8))⟩ : Head))) && (decide (((lost ([([97, 98] : List UInt8)]) (⟨((([([97, 98] : List UInt8)]).length : Nat) : Int), root (([([97, 98] : List UInt8)]).map of)⟩ : Head) : Nat) : Int) = ((0 : Nat) : Int)))) && (decide (((lost [] (⟨((([([97, 98] : List UInt8)]).length : Nat) : Int), root (([([97, 98] : List UInt8)]).map of)⟩ : Head) : Nat) : Int) = ((6 : Nat) : Int)))))), (23, Pr.ex (Value.bool (((decide ((⟨((([([97, 98] : List UInt8)]).length : Nat) : Int), root (([([97, 98] : List UInt8)]).map of)⟩ : Head) = (⟨((1 : Nat) : Int), of (([97, 98] : List UInt8))⟩ : Head))) && (decide (((lost ([([97, 98] : List UInt8)]) (⟨((([([97, 98] : List UInt8)]).length : Nat) : Int), root (([([97, 98] : List UInt8)]).map of)⟩ : Head) : Nat) : Int) = ((0 : Nat) : Int)))) && (decide (((lost [] (⟨((([([97, 98] : List UInt8)]).length : Nat) : Int), root (([([97, 98] : List UInt8)]).map of)⟩ : Head) : Nat) : Int) = ((6 : Nat) : Int)))))), (24, Pr.ifb (((decide ((⟨((([([97, 98] : List UInt8)]).length : Nat) : Int), root (([([97, 98] : List UInt8)]).map of)⟩ : Head) = (⟨((1 : Nat) : Int), of (([97, 98] : List UInt8))⟩ : Head))) && (decide (((lost ([([97, 98] : List UInt8)]) (⟨((([([97, 98] : List UInt8)]).length : Nat) : Int), root (([([97, 98] : List UInt8)]).map of)⟩ : Head) : Nat) : Int) = ((0 : Nat) : Int)))) && (decide (((lost [] (⟨((([([97, 98] : List UInt8)]).length : Nat) : Int), root (([([97, 98] : List UInt8)]).map of)⟩ : Head) : Nat) : Int) = ((6 : Nat) : Int)))) (Pr.ex (Value.agg #[Value.slice none 0 0]))), (25, Pr.ifb (((decide ((⟨((([([97, 98] : List UInt8)]).length : Nat) : Int), root (([([97, 98] : List UInt8)]).map of)⟩ : Head) = (⟨((1 : Nat) : Int), of (([97, 98] : List UInt8))⟩ : Head))) && (decide (((lost ([([97, 98] : List UInt8)]) (⟨((([([97, 98] : List UInt8)]).length : Nat) : Int), root (([([97, 98] : List UInt8)]).map of)⟩ : Head) : Nat) : Int) = ((0 : Nat) : Int)))) && (decide (((lost [] (⟨((([([97, 98] : List UInt8)]).length : Nat) : Int), root (([([97, 98] : List UInt8)]).map of)⟩ : Head) : Nat) : Int) = ((6 : Nat) : Int)))) (Pr.ex (Dg.val (of (([] : List UInt8)))))), (26, Pr.ifb (((decide ((⟨((([([97, 98] : List UInt8)]).length : Nat) : Int), root (([([97, 98] : List UInt8)]).map of)⟩ : Head) = (⟨((1 : Nat) : Int), of (([97, 98] : List UInt8))⟩ : Head))) && (decide (((lost ([([97, 98] : List UInt8)]) (⟨((([([97, 98] : List UInt8)]).length : Nat) : Int), root (([([97, 98] : List UInt8)]).map of)⟩ : Head) : Nat) : Int) = ((0 : Nat) : Int)))) && (decide (((lost [] (⟨((([([97, 98] : List UInt8)]).length : Nat) : Int), root (([([97, 98] : List UInt8)]).map of)⟩ : Head) : Nat) : Int) = ((6 : Nat) : Int)))) (Pr.ex (Value.agg #[i64 ((0 : Nat) : Int), w32 (of (([] : List UInt8))).a, w32 (of (([] : List UInt8))).b, w32 (of (([] : List UInt8))).c, w32 (of (([] : List UInt8))).d]))), (27, Pr.ifb (((decide ((⟨((([([97, 98] : List UInt8)]).length : Nat) : Int), root (([([97, 98] : List UInt8)]).map of)⟩ : Head) = (⟨((1 : Nat) : Int), of (([97, 98] : List UInt8))⟩ : Head))) && (decide (((lost ([([97, 98] : List UInt8)]) (⟨((([([97, 98] : List UInt8)]).length : Nat) : Int), root (([([97, 98] : List UInt8)]).map of)⟩ : Head) : Nat) : Int) = ((0 : Nat) : Int)))) && (decide (((lost [] (⟨((([([97, 98] : List UInt8)]).length : Nat) : Int), root (([([97, 98] : List UInt8)]).map of)⟩ : Head) : Nat) : Int) = ((6 : Nat) : Int)))) (Pr.ex (i64 ((lost [] (⟨((0 : Nat) : Int), of (([] : List UInt8))⟩ : Head) : Nat) : Int)))), (28, Pr.ifb (((decide ((⟨((([([97, 98] : List UInt8)]).length : Nat) : Int), root (([([97, 98] : List UInt8)]).map of)⟩ : Head) = (⟨((1 : Nat) : Int), of (([97, 98] : List UInt8))⟩ : Head))) && (decide (((lost ([([97, 98] : List UInt8)]) (⟨((([([97, 98] : List UInt8)]).length : Nat) : Int), root (([([97, 98] : List UInt8)]).map of)⟩ : Head) : Nat) : Int) = ((0 : Nat) : Int)))) && (decide (((lost [] (⟨((([([97, 98] : List UInt8)]).length : Nat) : Int), root (([([97, 98] : List UInt8)]).map of)⟩ : Head) : Nat) : Int) = ((6 : Nat) : Int)))) (Pr.ex (Value.bool (decide (((lost [] (⟨((0 : Nat) : Int), of (([] : List UInt8))⟩ : Head) : Nat) : Int) = ((0 : Nat) : Int)))))), (29, Pr.ex (Value.bool ((((decide ((⟨((([([97, 98] : List UInt8)]).length : Nat) : Int), root (([([97, 98] : List UInt8)]).map of)⟩ : Head) = (⟨((1 : Nat) : Int), of (([97, 98] : List UInt8))⟩ : Head))) && (decide (((lost ([([97, 98] : List UInt8)]) (⟨((([([97, 98] : List UInt8)]).length : Nat) : Int), root (([([97, 98] : List UInt8)]).map of)⟩ : Head) : Nat) : Int) = ((0 : Nat) : Int)))) && (decide (((lost [] (⟨((([([97, 98] : List UInt8)]).length : Nat) : Int), root (([([97, 98] : List UInt8)]).map of)⟩ : Head) : Nat) : Int) = ((6 : Nat) : Int)))) && (decide (((lost [] (⟨((0 : Nat) : Int), of (([] : List UInt8))⟩ : Head) : Nat) : Int) = ((0 : Nat) : Int)))))), (0, Pr.ex (Value.bool ((((decide ((⟨((([([97, 98] : List UInt8)]).length : Nat) : Int), root (([([97, 98] : List UInt8)]).map of)⟩ : Head) = (⟨((1 : Nat) : Int), of (([97, 98] : List UInt8))⟩ : Head))) && (decide (((lost ([([97, 98] : List UInt8)]) (⟨((([([97, 98] : List UInt8)]).length : Nat) : Int), root (([([97, 98] : List UInt8)]).map of)⟩ : Head) : Nat) : Int) = ((0 : Nat) : Int)))) && (decide (((lost [] (⟨((([([97, 98] : List UInt8)]).length : Nat) : Int), root (([([97, 98] : List UInt8)]).map of)⟩ : Head) : Nat) : Int) = ((6 : Nat) : Int)))) && (decide (((lost [] (⟨((0 : Nat) : Int), of (([] : List UInt8))⟩ : Head) : Nat) : Int) = ((0 : Nat) : Int))))))] 24 mixed hN_5 hD_5 (by kernel_rfl) (by kernel_rfl) (by kernel_rfl) ?_ ?_
 refine Asks.cons ?_ (Asks.cons ?_ (Asks.cons ?_ (Asks.cons ?_ (Asks.cons ?_ (Asks.cons ?_ (Asks.cons ?_ (Asks.cons ?_ (Asks.cons ?_ (Asks.cons ?_ (Asks.cons ?_ (Asks.cons ?_ (Asks.cons ?_ (Asks.cons ?_ (Asks.cons ?_ (Asks.cons ?_ (Asks.cons ?_ (Asks.cons ?_ (Asks.cons ?_ (Asks.cons ?_ (Asks.cons ?_ (Asks.cons ?_ (Asks.cons ?_ (Asks.cons ?_ (Asks.zero _))))))))))))))))))))))))
 exact Ask.plainD rfl rfl fun aq wq hNq hO hR hT => does_loadD (o := 0) (n := 5) (mid := [i64 ((([([97, 98] : List UInt8)]).length : Nat) : Int), w32 (root (([([97, 98] : List UInt8)]).map of)).a, w32 (root (([([97, 98] : List UInt8)]).map of)).b, w32 (root (([([97, 98] : List UInt8)]).map of)).c, w32 (root (([([97, 98] : List UInt8)]).map of)).d]) ((hO 2 rfl).trans s2_5) (hbb2_6.ext' hR) rfl rfl (Nat.le_of_ble_eq_true rfl) row_29 rfl ⟨Ext.refl _, rfl⟩
 exact Ask.plainD rfl rfl fun aq wq hNq hO hR hT => does_ret (vs := #[str (([97, 98] : List UInt8))]) call_38 (args1 rfl) rfl ((ofR (([97, 98] : List UInt8)) wq (by first | assumption | decide | omega)).mono fun v w2 h => ⟨h.2, h.1⟩)
 exact Ask.plainD rfl rfl fun aq wq hNq hO hR hT => does_build (vs := #[(0, i64 ((1 : Nat) : Int)), (1, Dg.val (of (([97, 98] : List UInt8))))]) (V := Value.agg #[i64 ((1 : Nat) : Int), w32 (of (([97, 98] : List UInt8))).a, w32 (of (([97, 98] : List UInt8))).b, w32 (of (([97, 98] : List UInt8))).c, w32 (of (([97, 98] : List UInt8))).d]) (parts2 rfl (hT 8 rfl rfl)) (by kernel_rfl) ⟨Ext.refl _, rfl⟩
 exact Ask.plainD rfl rfl fun aq wq hNq hO hR hT => does_eqT (a := (⟨((([([97, 98] : List UInt8)]).length : Nat) : Int), root (([([97, 98] : List UInt8)]).map of)⟩ : Head)) (b := (⟨((1 : Nat) : Int), of (([97, 98] : List UInt8))⟩ : Head)) eq_29 (hT 7 rfl rfl) (hT 9 rfl rfl) ⟨Ext.refl _, rfl⟩
 exact Ask.plainD rfl rfl fun aq wq hNq hO hR hT => does_move (V := Value.bool (decide ((⟨((([([97, 98] : List UInt8)]).length : Nat) : Int), root (([([97, 98] : List UInt8)]).map of)⟩ : Head) = (⟨((1 : Nat) : Int), of (([97, 98] : List UInt8))⟩ : Head)))) (hT 10 rfl rfl) ⟨Ext.refl _, rfl⟩
 refine Ask.guarded (B := decide ((⟨((([([97, 98] : List UInt8)]).length : Nat) : Int), root (([([97, 98] : List UInt8)]).map of)⟩ : Head) = (⟨((1 : Nat) : Int), of (([97, 98] : List UInt8))⟩ : Head))) (want := true) (t := 11) rfl rfl rfl rfl (by decide) (fun aq wq hO hR hT => hT 11 rfl rfl) (fun hG aq wq hNq hO hR hT => ?_) (fun hno _ => fun hc => absurd hc hno)
 replace hR := (Ext.drew _).trans hR
 exact does_loadD (o := 0) (n := 1) (mid := [x4_0_2]) ((hO 1 rfl).trans s1_5) (hbb1_6.ext' hR) rfl rfl (Nat.le_of_ble_eq_true rfl) row_24 rfl ⟨Ext.refl _, fun _ => rfl⟩
 refine Ask.guarded (B := decide ((⟨((([([97, 98] : List UInt8)]).length : Nat) : Int), root (([([97, 98] : List UInt8)]).map of)⟩ : Head) = (⟨((1 : Nat) : Int), of (([97, 98] : List UInt8))⟩ : Head))) (want := true) (t := 11) rfl rfl rfl rfl (by decide) (fun aq wq hO hR hT => hT 11 rfl rfl) (fun hG aq wq hNq hO hR hT => ?_) (fun hno _ => fun hc => absurd hc hno)
 replace hR := (Ext.drew _).trans hR
 exact does_loadD (o := 0) (n := 5) (mid := [i64 ((([([97, 98] : List UInt8)]).length : Nat) : Int), w32 (root (([([97, 98] : List UInt8)]).map of)).a, w32 (root (([([97, 98] : List UInt8)]).map of)).b, w32 (root (([([97, 98] : List UInt8)]).map of)).c, w32 (root (([([97, 98] : List UInt8)]).map of)).d]) ((hO 2 rfl).trans s2_5) (hbb2_6.ext' hR) rfl rfl (Nat.le_of_ble_eq_true rfl) row_29 rfl ⟨Ext.refl _, fun _ => rfl⟩
 refine Ask.guarded (B := decide ((⟨((([([97, 98] : List UInt8)]).length : Nat) : Int), root (([([97, 98] : List UInt8)]).map of)⟩ : Head) = (⟨((1 : Nat) : Int), of (([97, 98] : List UInt8))⟩ : Head))) (want := true) (t := 11) rfl rfl rfl rfl (by decide) (fun aq wq hO hR hT => hT 11 rfl rfl) (fun hG aq wq hNq hO hR hT => ?_) (fun hno _ => fun hc => absurd hc hno)
 replace hR := (Ext.drew _).trans hR
 exact does_ret (vs := #[Value.agg #[x4_0_2], Value.agg #[i64 ((([([97, 98] : List UInt8)]).length : Nat) : Int), w32 (root (([([97, 98] : List UInt8)]).map of)).a, w32 (root (([([97, 98] : List UInt8)]).map of)).b, w32 (root (([([97, 98] : List UInt8)]).map of)).c, w32 (root (([([97, 98] : List UInt8)]).map of)).d]]) call_14 (args2 (hT 12 rfl rfl hG) (hT 13 rfl rfl hG)) rfl ((lost_ ([([97, 98] : List UInt8)]) (x4_0_2) (⟨((([([97, 98] : List UInt8)]).length : Nat) : Int), root (([([97, 98] : List UInt8)]).map of)⟩ : Head) wq (hL.ext (hE_6.trans hR)) ((hsx4_0_2_6.ext' hR).wide (Nat.zero_le _) (.inl rfl)) (by decide) (by decide)).mono fun v w2 h => ⟨h.2, fun _ => h.1⟩)
 refine Ask.guarded (B := decide ((⟨((([([97, 98] : List UInt8)]).length : Nat) : Int), root (([([97, 98] : List UInt8)]).map of)⟩ : Head) = (⟨((1 : Nat) : Int), of (([97, 98] : List UInt8))⟩ : Head))) (want := true) (t := 11) rfl rfl rfl rfl (by decide) (fun aq wq hO hR hT => hT 11 rfl rfl) (fun hG aq wq hNq hO hR hT => ?_) (fun hno _ => fun hc => absurd hc hno)
 replace hR := (Ext.drew _).trans hR
 exact does_eql (a := ((lost ([([97, 98] : List UInt8)]) (⟨((([([97, 98] : List UInt8)]).length : Nat) : Int), root (([([97, 98] : List UInt8)]).map of)⟩ : Head) : Nat) : Int)) (b := ((0 : Nat) : Int)) (hT 14 rfl rfl hG) rfl ⟨Ext.refl _, fun _ => rfl⟩
 exact Ask.plainD rfl rfl fun aq wq hNq hO hR hT => does_and (B := decide ((⟨((([([97, 98] : List UInt8)]).length : Nat) : Int), root (([([97, 98] : List UInt8)]).map of)⟩ : Head) = (⟨((1 : Nat) : Int), of (([97, 98] : List UInt8))⟩ : Head))) (X := decide (((lost ([([97, 98] : List UInt8)]) (⟨((([([97, 98] : List UInt8)]).length : Nat) : Int), root (([([97, 98] : List UInt8)]).map of)⟩ : Head) : Nat) : Int) = ((0 : Nat) : Int))) (hT 11 rfl rfl) (fun hB => (hT 15 rfl rfl hB)) rfl ⟨Ext.refl _, rfl⟩
 exact Ask.plainD rfl rfl fun aq wq hNq hO hR hT => does_move (V := Value.bool ((decide ((⟨((([([97, 98] : List UInt8)]).length : Nat) : Int), root (([([97, 98] : List UInt8)]).map of)⟩ : Head) = (⟨((1 : Nat) : Int), of (([97, 98] : List UInt8))⟩ : Head))) && (decide (((lost ([([97, 98] : List UInt8)]) (⟨((([([97, 98] : List UInt8)]).length : Nat) : Int), root (([([97, 98] : List UInt8)]).map of)⟩ : Head) : Nat) : Int) = ((0 : Nat) : Int))))) (hT 16 rfl rfl) ⟨Ext.refl _, rfl⟩
 refine Ask.guarded (B := (decide ((⟨((([([97, 98] : List UInt8)]).length : Nat) : Int), root (([([97, 98] : List UInt8)]).map of)⟩ : Head) = (⟨((1 : Nat) : Int), of (([97, 98] : List UInt8))⟩ : Head))) && (decide (((lost ([([97, 98] : List UInt8)]) (⟨((([([97, 98] : List UInt8)]).length : Nat) : Int), root (([([97, 98] : List UInt8)]).map of)⟩ : Head) : Nat) : Int) = ((0 : Nat) : Int)))) (want := true) (t := 17) rfl rfl rfl rfl (by decide) (fun aq wq hO hR hT => hT 17 rfl rfl) (fun hG aq wq hNq hO hR hT => ?_) (fun hno _ => fun hc => absurd hc hno)
 replace hR := (Ext.drew _).trans hR
 exact does_build (vs := #[]) (V := Value.agg #[Value.slice none 0 0]) parts0 (by kernel_rfl) ⟨Ext.refl _, fun _ => rfl⟩
 refine Ask.guarded (B := (decide ((⟨((([([97, 98] : List UInt8)]).length : Nat) : Int), root (([([97, 98] : List UInt8)]).map of)⟩ : Head) = (⟨((1 : Nat) : Int), of (([97, 98] : List UInt8))⟩ : Head))) && (decide (((lost ([([97, 98] : List UInt8)]) (⟨((([([97, 98] : List UInt8)]).length : Nat) : Int), root (([([97, 98] : List UInt8)]).map of)⟩ : Head) : Nat) : Int) = ((0 : Nat) : Int)))) (want := true) (t := 17) rfl rfl rfl rfl (by decide) (fun aq wq hO hR hT => hT 17 rfl rfl) (fun hG aq wq hNq hO hR hT => ?_) (fun hno _ => fun hc => absurd hc hno)
 replace hR := (Ext.drew _).trans hR
 exact does_loadD (o := 0) (n := 5) (mid := [i64 ((([([97, 98] : List UInt8)]).length : Nat) : Int), w32 (root (([([97, 98] : List UInt8)]).map of)).a, w32 (root (([([97, 98] : List UInt8)]).map of)).b, w32 (root (([([97, 98] : List UInt8)]).map of)).c, w32 (root (([([97, 98] : List UInt8)]).map of)).d]) ((hO 2 rfl).trans s2_5) (hbb2_6.ext' hR) rfl rfl (Nat.le_of_ble_eq_true rfl) row_29 rfl ⟨Ext.refl _, fun _ => rfl⟩
 refine Ask.guarded (B := (decide ((⟨((([([97, 98] : List UInt8)]).length : Nat) : Int), root (([([97, 98] : List UInt8)]).map of)⟩ : Head) = (⟨((1 : Nat) : Int), of (([97, 98] : List UInt8))⟩ : Head))) && (decide (((lost ([([97, 98] : List UInt8)]) (⟨((([([97, 98] : List UInt8)]).length : Nat) : Int), root (([([97, 98] : List UInt8)]).map of)⟩ : Head) : Nat) : Int) = ((0 : Nat) : Int)))) (want := true) (t := 17) rfl rfl rfl rfl (by decide) (fun aq wq hO hR hT => hT 17 rfl rfl) (fun hG aq wq hNq hO hR hT => ?_) (fun hno _ => fun hc => absurd hc hno)
 replace hR := (Ext.drew _).trans hR
 exact does_ret (vs := #[Value.agg #[Value.slice none 0 0], Value.agg #[i64 ((([([97, 98] : List UInt8)]).length : Nat) : Int), w32 (root (([([97, 98] : List UInt8)]).map of)).a, w32 (root (([([97, 98] : List UInt8)]).map of)).b, w32 (root (([([97, 98] : List UInt8)]).map of)).c, w32 (root (([([97, 98] : List UInt8)]).map of)).d]]) call_14 (args2 (hT 18 rfl rfl hG) (hT 19 rfl rfl hG)) rfl ((lost_ ([]) (Value.slice none 0 0) (⟨((([([97, 98] : List UInt8)]).length : Nat) : Int), root (([([97, 98] : List UInt8)]).map of)⟩ : Head) wq (hL.ext (hE_6.trans hR)) (SlT.nil Str 0 0 _) (by decide) (by decide)).mono fun v w2 h => ⟨h.2, fun _ => h.1⟩)
 refine Ask.guarded (B := (decide ((⟨((([([97, 98] : List UInt8)]).length : Nat) : Int), root (([([97, 98] : List UInt8)]).map of)⟩ : Head) = (⟨((1 : Nat) : Int), of (([97, 98] : List UInt8))⟩ : Head))) && (decide (((lost ([([97, 98] : List UInt8)]) (⟨((([([97, 98] : List UInt8)]).length : Nat) : Int), root (([([97, 98] : List UInt8)]).map of)⟩ : Head) : Nat) : Int) = ((0 : Nat) : Int)))) (want := true) (t := 17) rfl rfl rfl rfl (by decide) (fun aq wq hO hR hT => hT 17 rfl rfl) (fun hG aq wq hNq hO hR hT => ?_) (fun hno _ => fun hc => absurd hc hno)
 replace hR := (Ext.drew _).trans hR
 exact does_eql (a := ((lost [] (⟨((([([97, 98] : List UInt8)]).length : Nat) : Int), root (([([97, 98] : List UInt8)]).map of)⟩ : Head) : Nat) : Int)) (b := ((6 : Nat) : Int)) (hT 20 rfl rfl hG) rfl ⟨Ext.refl _, fun _ => rfl⟩
 exact Ask.plainD rfl rfl fun aq wq hNq hO hR hT => does_and (B := (decide ((⟨((([([97, 98] : List UInt8)]).length : Nat) : Int), root (([([97, 98] : List UInt8)]).map of)⟩ : Head) = (⟨((1 : Nat) : Int), of (([97, 98] : List UInt8))⟩ : Head))) && (decide (((lost ([([97, 98] : List UInt8)]) (⟨((([([97, 98] : List UInt8)]).length : Nat) : Int), root (([([97, 98] : List UInt8)]).map of)⟩ : Head) : Nat) : Int) = ((0 : Nat) : Int)))) (X := decide (((lost [] (⟨((([([97, 98] : List UInt8)]).length : Nat) : Int), root (([([97, 98] : List UInt8)]).map of)⟩ : Head) : Nat) : Int) = ((6 : Nat) : Int))) (hT 17 rfl rfl) (fun hB => (hT 21 rfl rfl hB)) rfl ⟨Ext.refl _, rfl⟩
 exact Ask.plainD rfl rfl fun aq wq hNq hO hR hT => does_move (V := Value.bool (((decide ((⟨((([([97, 98] : List UInt8)]).length : Nat) : Int), root (([([97, 98] : List UInt8)]).map of)⟩ : Head) = (⟨((1 : Nat) : Int), of (([97, 98] : List UInt8))⟩ : Head))) && (decide (((lost ([([97, 98] : List UInt8)]) (⟨((([([97, 98] : List UInt8)]).length : Nat) : Int), root (([([97, 98] : List UInt8)]).map of)⟩ : Head) : Nat) : Int) = ((0 : Nat) : Int)))) && (decide (((lost [] (⟨((([([97, 98] : List UInt8)]).length : Nat) : Int), root (([([97, 98] : List UInt8)]).map of)⟩ : Head) : Nat) : Int) = ((6 : Nat) : Int))))) (hT 22 rfl rfl) ⟨Ext.refl _, rfl⟩
 refine Ask.guarded (B := ((decide ((⟨((([([97, 98] : List UInt8)]).length : Nat) : Int), root (([([97, 98] : List UInt8)]).map of)⟩ : Head) = (⟨((1 : Nat) : Int), of (([97, 98] : List UInt8))⟩ : Head))) && (decide (((lost ([([97, 98] : List UInt8)]) (⟨((([([97, 98] : List UInt8)]).length : Nat) : Int), root (([([97, 98] : List UInt8)]).map of)⟩ : Head) : Nat) : Int) = ((0 : Nat) : Int)))) && (decide (((lost [] (⟨((([([97, 98] : List UInt8)]).length : Nat) : Int), root (([([97, 98] : List UInt8)]).map of)⟩ : Head) : Nat) : Int) = ((6 : Nat) : Int)))) (want := true) (t := 23) rfl rfl rfl rfl (by decide) (fun aq wq hO hR hT => hT 23 rfl rfl) (fun hG aq wq hNq hO hR hT => ?_) (fun hno _ => fun hc => absurd hc hno)
 replace hR := (Ext.drew _).trans hR
 exact does_build (vs := #[]) (V := Value.agg #[Value.slice none 0 0]) parts0 (by kernel_rfl) ⟨Ext.refl _, fun _ => rfl⟩
 refine Ask.guarded (B := ((decide ((⟨((([([97, 98] : List UInt8)]).length : Nat) : Int), root (([([97, 98] : List UInt8)]).map of)⟩ : Head) = (⟨((1 : Nat) : Int), of (([97, 98] : List UInt8))⟩ : Head))) && (decide (((lost ([([97, 98] : List UInt8)]) (⟨((([([97, 98] : List UInt8)]).length : Nat) : Int), root (([([97, 98] : List UInt8)]).map of)⟩ : Head) : Nat) : Int) = ((0 : Nat) : Int)))) && (decide (((lost [] (⟨((([([97, 98] : List UInt8)]).length : Nat) : Int), root (([([97, 98] : List UInt8)]).map of)⟩ : Head) : Nat) : Int) = ((6 : Nat) : Int)))) (want := true) (t := 23) rfl rfl rfl rfl (by decide) (fun aq wq hO hR hT => hT 23 rfl rfl) (fun hG aq wq hNq hO hR hT => ?_) (fun hno _ => fun hc => absurd hc hno)
 replace hR := (Ext.drew _).trans hR
 exact does_ret (vs := #[str (([] : List UInt8))]) call_38 (args1 rfl) rfl ((ofR (([] : List UInt8)) wq (by first | assumption | decide | omega)).mono fun v w2 h => ⟨h.2, fun _ => h.1⟩)
 refine Ask.guarded (B := ((decide ((⟨((([([97, 98] : List UInt8)]).length : Nat) : Int), root (([([97, 98] : List UInt8)]).map of)⟩ : Head) = (⟨((1 : Nat) : Int), of (([97, 98] : List UInt8))⟩ : Head))) && (decide (((lost ([([97, 98] : List UInt8)]) (⟨((([([97, 98] : List UInt8)]).length : Nat) : Int), root (([([97, 98] : List UInt8)]).map of)⟩ : Head) : Nat) : Int) = ((0 : Nat) : Int)))) && (decide (((lost [] (⟨((([([97, 98] : List UInt8)]).length : Nat) : Int), root (([([97, 98] : List UInt8)]).map of)⟩ : Head) : Nat) : Int) = ((6 : Nat) : Int)))) (want := true) (t := 23) rfl rfl rfl rfl (by decide) (fun aq wq hO hR hT => hT 23 rfl rfl) (fun hG aq wq hNq hO hR hT => ?_) (fun hno _ => fun hc => absurd hc hno)
 replace hR := (Ext.drew _).trans hR
 exact does_build (vs := #[(1, Dg.val (of (([] : List UInt8))))]) (V := Value.agg #[i64 ((0 : Nat) : Int), w32 (of (([] : List UInt8))).a, w32 (of (([] : List UInt8))).b, w32 (of (([] : List UInt8))).c, w32 (of (([] : List UInt8))).d]) (parts1 (hT 25 rfl rfl hG)) (by kernel_rfl) ⟨Ext.refl _, fun _ => rfl⟩
 refine Ask.guarded (B := ((decide ((⟨((([([97, 98] : List UInt8)]).length : Nat) : Int), root (([([97, 98] : List UInt8)]).map of)⟩ : Head) = (⟨((1 : Nat) : Int), of (([97, 98] : List UInt8))⟩ : Head))) && (decide (((lost ([([97, 98] : List UInt8)]) (⟨((([([97, 98] : List UInt8)]).length : Nat) : Int), root (([([97, 98] : List UInt8)]).map of)⟩ : Head) : Nat) : Int) = ((0 : Nat) : Int)))) && (decide (((lost [] (⟨((([([97, 98] : List UInt8)]).length : Nat) : Int), root (([([97, 98] : List UInt8)]).map of)⟩ : Head) : Nat) : Int) = ((6 : Nat) : Int)))) (want := true) (t := 23) rfl rfl rfl rfl (by decide) (fun aq wq hO hR hT => hT 23 rfl rfl) (fun hG aq wq hNq hO hR hT => ?_) (fun hno _ => fun hc => absurd hc hno)
 replace hR := (Ext.drew _).trans hR
 exact does_ret (vs := #[Value.agg #[Value.slice none 0 0], Value.agg #[i64 ((0 : Nat) : Int), w32 (of (([] : List UInt8))).a, w32 (of (([] : List UInt8))).b, w32 (of (([] : List UInt8))).c, w32 (of (([] : List UInt8))).d]]) call_14 (args2 (hT 24 rfl rfl hG) (hT 26 rfl rfl hG)) rfl ((lost_ ([]) (Value.slice none 0 0) (⟨((0 : Nat) : Int), of (([] : List UInt8))⟩ : Head) wq (hL.ext (hE_6.trans hR)) (SlT.nil Str 0 0 _) (by decide) (by decide)).mono fun v w2 h => ⟨h.2, fun _ => h.1⟩)
 refine Ask.guarded (B := ((decide ((⟨((([([97, 98] : List UInt8)]).length : Nat) : Int), root (([([97, 98] : List UInt8)]).map of)⟩ : Head) = (⟨((1 : Nat) : Int), of (([97, 98] : List UInt8))⟩ : Head))) && (decide (((lost ([([97, 98] : List UInt8)]) (⟨((([([97, 98] : List UInt8)]).length : Nat) : Int), root (([([97, 98] : List UInt8)]).map of)⟩ : Head) : Nat) : Int) = ((0 : Nat) : Int)))) && (decide (((lost [] (⟨((([([97, 98] : List UInt8)]).length : Nat) : Int), root (([([97, 98] : List UInt8)]).map of)⟩ : Head) : Nat) : Int) = ((6 : Nat) : Int)))) (want := true) (t := 23) rfl rfl rfl rfl (by decide) (fun aq wq hO hR hT => hT 23 rfl rfl) (fun hG aq wq hNq hO hR hT => ?_) (fun hno _ => fun hc => absurd hc hno)
 replace hR := (Ext.drew _).trans hR
 exact does_eql (a := ((lost [] (⟨((0 : Nat) : Int), of (([] : List UInt8))⟩ : Head) : Nat) : Int)) (b := ((0 : Nat) : Int)) (hT 27 rfl rfl hG) rfl ⟨Ext.refl _, fun _ => rfl⟩
 exact Ask.plainD rfl rfl fun aq wq hNq hO hR hT => does_and (B := ((decide ((⟨((([([97, 98] : List UInt8)]).length : Nat) : Int), root (([([97, 98] : List UInt8)]).map of)⟩ : Head) = (⟨((1 : Nat) : Int), of (([97, 98] : List UInt8))⟩ : Head))) && (decide (((lost ([([97, 98] : List UInt8)]) (⟨((([([97, 98] : List UInt8)]).length : Nat) : Int), root (([([97, 98] : List UInt8)]).map of)⟩ : Head) : Nat) : Int) = ((0 : Nat) : Int)))) && (decide (((lost [] (⟨((([([97, 98] : List UInt8)]).length : Nat) : Int), root (([([97, 98] : List UInt8)]).map of)⟩ : Head) : Nat) : Int) = ((6 : Nat) : Int)))) (X := decide (((lost [] (⟨((0 : Nat) : Int), of (([] : List UInt8))⟩ : Head) : Nat) : Int) = ((0 : Nat) : Int))) (hT 23 rfl rfl) (fun hB => (hT 28 rfl rfl hB)) rfl ⟨Ext.refl _, rfl⟩
 exact Ask.plainD rfl rfl fun aq wq hNq hO hR hT => does_assign (V := Value.bool ((((decide ((⟨((([([97, 98] : List UInt8)]).length : Nat) : Int), root (([([97, 98] : List UInt8)]).map of)⟩ : Head) = (⟨((1 : Nat) : Int), of (([97, 98] : List UInt8))⟩ : Head))) && (decide (((lost ([([97, 98] : List UInt8)]) (⟨((([([97, 98] : List UInt8)]).length : Nat) : Int), root (([([97, 98] : List UInt8)]).map of)⟩ : Head) : Nat) : Int) = ((0 : Nat) : Int)))) && (decide (((lost [] (⟨((([([97, 98] : List UInt8)]).length : Nat) : Int), root (([([97, 98] : List UInt8)]).map of)⟩ : Head) : Nat) : Int) = ((6 : Nat) : Int)))) && (decide (((lost [] (⟨((0 : Nat) : Int), of (([] : List UInt8))⟩ : Head) : Nat) : Int) = ((0 : Nat) : Int))))) (hT 29 rfl rfl) ⟨Ext.refl _, rfl⟩
 intro a7 wd7 hN_7 hD_7 hO hR hA hU
 obtain ⟨_, _, _, _, _, _, _, _, _, _, _, _, _, _, _, _, _, _, _, _, _, _, _, t0, _⟩ := hA
 have hE_7 := hE_6.trans hR
 have hbb1_7 := hbb1_6.ext' hR
 have hbb2_7 := hbb2_6.ext' hR
 have hsx4_0_2_7 := hsx4_0_2_6.ext' hR
 have hox4_0_2_7 := hox4_0_2_6.ext' hR
 have s0_7 : get a7 0 = Value.bool ((((decide ((⟨((([([97, 98] : List UInt8)]).length : Nat) : Int), root (([([97, 98] : List UInt8)]).map of)⟩ : Head) = (⟨((1 : Nat) : Int), of (([97, 98] : List UInt8))⟩ : Head))) && (decide (((lost ([([97, 98] : List UInt8)]) (⟨((([([97, 98] : List UInt8)]).length : Nat) : Int), root (([([97, 98] : List UInt8)]).map of)⟩ : Head) : Nat) : Int) = ((0 : Nat) : Int)))) && (decide (((lost [] (⟨((([([97, 98] : List UInt8)]).length : Nat) : Int), root (([([97, 98] : List UInt8)]).map of)⟩ : Head) : Nat) : Int) = ((6 : Nat) : Int)))) && (decide (((lost [] (⟨((0 : Nat) : Int), of (([] : List UInt8))⟩ : Head) : Nat) : Int) = ((0 : Nat) : Int)))) := t0
 clear hE_6 hN_5 hD_5 s1_5 s2_5 s6_5 hbb1_6 hbb2_6 hsx4_0_2_6 hox4_0_2_6
 refine tail_nil ?_
 refine wp_ret ?_
 refine res_one (V := Value.bool ((((decide ((⟨((([([97, 98] : List UInt8)]).length : Nat) : Int), root (([([97, 98] : List UInt8)]).map of)⟩ : Head) = (⟨((1 : Nat) : Int), of (([97, 98] : List UInt8))⟩ : Head))) && (decide (((lost ([([97, 98] : List UInt8)]) (⟨((([([97, 98] : List UInt8)]).length : Nat) : Int), root (([([97, 98] : List UInt8)]).map of)⟩ : Head) : Nat) : Int) = ((0 : Nat) : Int)))) && (decide (((lost [] (⟨((([([97, 98] : List UInt8)]).length : Nat) : Int), root (([([97, 98] : List UInt8)]).map of)⟩ : Head) : Nat) : Int) = ((6 : Nat) : Int)))) && (decide (((lost [] (⟨((0 : Nat) : Int), of (([] : List UInt8))⟩ : Head) : Nat) : Int) = ((0 : Nat) : Int))))) rfl hD_7 s0_7 ?_
 exact ⟨by show Value.bool _ = Value.bool true; simp [lost, root_one, root_nil], hE_7⟩

end Go.Proofs.YtijfjpbahepegaaDoor
