/- The walks of functions of the program: printed. -/
import Derived.Test.YtijfjpbahepegaaDoorKB
import Derived.Test.YtijfjpbahepegaaDoorG6
import Derived.Test.YtijfjpbahepegaaDoorG30
import Derived.Test.YtijfjpbahepegaaDoorF0
set_option maxRecDepth 100000
namespace Go.Proofs.YtijfjpbahepegaaDoor
open Go Go.RowKit Sk Sd
theorem addW (items : List (List UInt8)) (s : List UInt8) (x1 : Value) (w0 : World) (hL : Laid w0) (hx1 : SlT Str 0 0 items x1 w0) (hs : ∀ x ∈ items, x.length ≤ 65536) (hn : items.length ≤ 100000) (hss : s.length ≤ 65536) :
    Gives Tryd.prog 19 #[Value.agg #[x1], str (s)] w0 (Pr.t3 (Pr.ag (fun x => Value.agg #[x]) (Pr.addR w0.heap.size 9 items (addS items s).1 x1)) (Pr.ex (i64 (addS items s).2.1)) (Pr.ex (i64 (((addS items s).2.2 : Nat) : Int)))) := by
 refine enter (N := 35) Tryd.func19 rfl rfl ?_
 intro a0 hN_0 hD_0 hA
 have s0_0 : get a0 0 = Value.agg #[x1] := hA 0 _ rfl
 have s1_0 : get a0 1 = str (s) := hA 1 _ rfl
 clear hA
 have hE_0 : Ext w0 w0 := Ext.refl w0
 have hsx1_0 := hx1.close
 refine wp_seq ?_
 refine region_lex [2, 4] [(2, Pr.box' w0.heap.size 24 [x1]), (4, Pr.box' w0.heap.size 24 [Value.slice none 0 0]), (5, Pr.ex (i64 ((0 : Nat) : Int))), (6, Pr.ex (i64 ((0 : Nat) : Int)))] 4 hN_0 hD_0 (by kernel_rfl) (by kernel_rfl) ?_ ?_
 refine Asks.cons ?_ (Asks.cons ?_ (Asks.cons ?_ (Asks.cons ?_ (Asks.zero _))))
 refine Ask.fresh rfl rfl ?_
 intro aq wq hNq hO hR hT
 exact does_box (V := Value.agg #[x1]) ((hO 0 rfl).trans s0_0) (fun b w2 he hlo hb => ⟨he, ⟨b, rfl, Nat.le_trans hR.size' hlo, hb⟩, ⟨b, rfl, hlo, hb.lt⟩⟩)
 refine Ask.fresh rfl rfl ?_
 intro aq wq hNq hO hR hT
 exact does_alloc zero_24 (fun b w2 he hlo hb => ⟨he, ⟨b, rfl, Nat.le_trans hR.size' hlo, hb⟩, ⟨b, rfl, hlo, hb.lt⟩⟩)
 exact Ask.plain rfl rfl fun aq wq hNq hO hR hT => does_assign (V := i64 ((0 : Nat) : Int)) rfl ⟨Ext.refl _, rfl⟩
 exact Ask.plain rfl rfl fun aq wq hNq hO hR hT => does_assign (V := i64 ((0 : Nat) : Int)) rfl ⟨Ext.refl _, rfl⟩
 intro a1 wd1 hN_1 hD_1 hO hR hA hU
 obtain ⟨t2, t4, _, _, _⟩ := hA
 have hE_1 := hE_0.trans hR
 have s1_1 := (hO 1 rfl).trans s1_0
 have hsx1_1 := hsx1_0.ext' hR
 obtain ⟨b2, s2_1, lo_b2, hbb2_1⟩ := t2
 have nb_x1_b2 := SlT.old hsx1_0 lo_b2
 have fr_b2 : w0.heap.size ≤ b2 := Nat.le_trans hE_0.size' lo_b2
 obtain ⟨b4, s4_1, lo_b4, hbb4_1⟩ := t4
 have nb_x1_b4 := SlT.old hsx1_0 lo_b4
 have fr_b4 : w0.heap.size ≤ b4 := Nat.le_trans hE_0.size' lo_b4
 obtain ⟨u0, ⟨u1, _⟩⟩ := hU
 have ne_b2_b4 : b2 ≠ b4 := fun e => u0 4 (by decide) (by rw [s2_1, s4_1, e])
 clear hE_0 hN_0 hD_0 s0_0 s1_0 hsx1_0
 refine tail_nil ?_
 refine wp_seq ?_
 refine wp_seq ?_
 refine region_any [] [(8, Pr.ex (Value.agg #[x1])), (9, Pr.ex (str (s))), (10, Pr.ex (Dg.val (of s))), (11, Pr.ex (i64 (findI items (of s)))), (7, Pr.ex (i64 (findI items (of s))))] 5 mixed hN_1 hD_1 (by kernel_rfl) (by kernel_rfl) (by kernel_rfl) ?_ ?_
 refine Asks.cons ?_ (Asks.cons ?_ (Asks.cons ?_ (Asks.cons ?_ (Asks.cons ?_ (Asks.zero _)))))
 exact Ask.plainD rfl rfl fun aq wq hNq hO hR hT => does_loadD (o := 0) (n := 1) (mid := [x1]) ((hO 2 rfl).trans s2_1) (hbb2_1.ext' hR) rfl rfl (Nat.le_of_ble_eq_true rfl) row_24 rfl ⟨Ext.refl _, rfl⟩
 exact Ask.plainD rfl rfl fun aq wq hNq hO hR hT => does_move (V := str (s)) ((hO 1 rfl).trans s1_1) ⟨Ext.refl _, rfl⟩
 exact Ask.plainD rfl rfl fun aq wq hNq hO hR hT => does_ret (vs := #[str (s)]) call_42 (args1 (hT 9 rfl rfl)) rfl ((of_ (s) wq (hL.ext (hE_1.trans hR)) hss).mono fun v w2 h => ⟨h.2, h.1⟩)
 exact Ask.plainD rfl rfl fun aq wq hNq hO hR hT => does_ret (vs := #[Value.agg #[x1], Dg.val (of s)]) call_46 (args2 (hT 8 rfl rfl) (hT 10 rfl rfl)) rfl ((find_ (items) (of s) (x1) wq (hL.ext (hE_1.trans hR)) ((hsx1_1.ext' hR).wide (Nat.zero_le _) (.inl rfl)) hs hn).mono fun v w2 h => ⟨h.2, h.1⟩)
 exact Ask.plainD rfl rfl fun aq wq hNq hO hR hT => does_assign (V := i64 (findI items (of s))) (hT 11 rfl rfl) ⟨Ext.refl _, rfl⟩
 intro a2 wd2 hN_2 hD_2 hO hR hA hU
 obtain ⟨_, _, _, _, t7, _⟩ := hA
 have hE_2 := hE_1.trans hR
 have s1_2 := (hO 1 rfl).trans s1_1
 have s2_2 := (hO 2 rfl).trans s2_1
 have s4_2 := (hO 4 rfl).trans s4_1
 have hbb2_2 := hbb2_1.ext' hR
 have hbb4_2 := hbb4_1.ext' hR
 have hsx1_2 := hsx1_1.ext' hR
 have s7_2 : get a2 7 = i64 (findI items (of s)) := t7
 clear hE_1 hN_1 hD_1 s1_1 s2_1 s4_1 hbb2_1 hbb4_1 hsx1_1
 refine tail_nil ?_
 refine wp_seq ?_
 refine region_lex [] [(12, Pr.ex (i64 (findI items (of s)))), (13, Pr.ex (Value.bool (decide (((0 : Nat) : Int) ≤ findI items (of s)))))] 2 hN_2 hD_2 (by kernel_rfl) (by kernel_rfl) ?_ ?_
 refine Asks.cons ?_ (Asks.cons ?_ (Asks.zero _))
 exact Ask.plain rfl rfl fun aq wq hNq hO hR hT => does_move (V := i64 (findI items (of s))) ((hO 7 rfl).trans s7_2) ⟨Ext.refl _, rfl⟩
 exact Ask.plain rfl rfl fun aq wq hNq hO hR hT => does_geq (a := findI items (of s)) (b := ((0 : Nat) : Int)) (hT 12 rfl rfl) rfl ⟨Ext.refl _, rfl⟩
 intro a3 wd3 hN_3 hD_3 hO hR hA hU
 obtain ⟨_, t13, _⟩ := hA
 have hE_3 := hE_2.trans hR
 have s1_3 := (hO 1 rfl).trans s1_2
 have s2_3 := (hO 2 rfl).trans s2_2
 have s4_3 := (hO 4 rfl).trans s4_2
 have s7_3 := (hO 7 rfl).trans s7_2
 have hbb2_3 := hbb2_2.ext' hR
 have hbb4_3 := hbb4_2.ext' hR
 have hsx1_3 := hsx1_2.ext' hR
 have s13_3 : get a3 13 = Value.bool (decide (((0 : Nat) : Int) ≤ findI items (of s))) := t13
 clear hE_2 hN_2 hD_2 s1_2 s2_2 s4_2 s7_2 hbb2_2 hbb4_2 hsx1_2
 refine tail_nil ?_
 refine wp_if (B := decide (((0 : Nat) : Int) ≤ findI items (of s))) s13_3 (fun hc0 => ?_) (fun hc0 => ?_)
 have hc0 := of_decide_eq_true hc0
 have hlt := find_lt items (of s)
 obtain ⟨x, hx⟩ := get_of_lt (l := items) (k := (findI items (of s)).toNat) (by omega)
 refine wp_seq ?_
 refine wp_seq ?_
 refine region_lex [] [(14, Pr.ex (Value.pointer (some ⟨b2, 0, none⟩))), (15, Pr.ex (x1)), (16, Pr.ex (i64 (findI items (of s)))), (17, Pr.pt' 0 (w0.heap.size + 1) [str (x)]), (18, Pr.ex (str (x))), (19, Pr.ex (str (s))), (20, Pr.ex (Value.bool (!decide (x = s))))] 7 hN_3 hD_3 (by kernel_rfl) (by kernel_rfl) ?_ ?_
 refine Asks.cons ?_ (Asks.cons ?_ (Asks.cons ?_ (Asks.cons ?_ (Asks.cons ?_ (Asks.cons ?_ (Asks.cons ?_ (Asks.zero _)))))))
 exact Ask.plain rfl rfl fun aq wq hNq hO hR hT => does_field (o' := 0) fld_24_0 ((hO 2 rfl).trans s2_3) rfl ⟨Ext.refl _, rfl⟩
 exact Ask.plain rfl rfl fun aq wq hNq hO hR hT => does_loadD1 (o := 0) (V := x1) (hT 14 rfl rfl) (hbb2_3.ext' hR) rfl one_22 ⟨Ext.refl _, rfl⟩
 exact Ask.plain rfl rfl fun aq wq hNq hO hR hT => does_move (V := i64 (findI items (of s))) ((hO 7 rfl).trans s7_3) ⟨Ext.refl _, rfl⟩
 exact Ask.plain rfl rfl fun aq wq hNq hO hR hT => does_indexSl (T := Str) (xs := items) (i := findI items (of s)) (X := x) sli_22 rfl (SlT.at (hT 15 rfl rfl) (hsx1_3.ext' hR)) (hT 16 rfl rfl) (by omega) hx (fun v h => ⟨Ext.refl _, h⟩)
 exact Ask.plain rfl rfl fun aq wq hNq hO hR hT => does_loadP1 (V := str (x)) (hT 17 rfl rfl) one_9 ⟨Ext.refl _, rfl⟩
 exact Ask.plain rfl rfl fun aq wq hNq hO hR hT => does_move (V := str (s)) ((hO 1 rfl).trans s1_3) ⟨Ext.refl _, rfl⟩
 exact Ask.plain rfl rfl fun aq wq hNq hO hR hT => does_neS (a := x) (b := s) Tryd.underlying9 (hT 18 rfl rfl) (hT 19 rfl rfl) ⟨Ext.refl _, rfl⟩
 intro a4 wd4 hN_4 hD_4 hO hR hA hU
 obtain ⟨_, _, _, _, _, _, t20, _⟩ := hA
 have hE_4 := hE_3.trans hR
 have s2_4 := (hO 2 rfl).trans s2_3
 have s4_4 := (hO 4 rfl).trans s4_3
 have s7_4 := (hO 7 rfl).trans s7_3
 have hbb2_4 := hbb2_3.ext' hR
 have hbb4_4 := hbb4_3.ext' hR
 have hsx1_4 := hsx1_3.ext' hR
 have s20_4 : get a4 20 = Value.bool (!decide (x = s)) := t20
 clear hE_3 hN_3 hD_3 s1_3 s2_3 s4_3 s7_3 s13_3 hbb2_3 hbb4_3 hsx1_3
 refine tail_nil ?_
 refine wp_if (B := !decide (x = s)) s20_4 (fun hc1 => ?_) (fun hc1 => ?_)
 have hc1 := of_decide_eq_false (bn hc1)
 refine wp_seq ?_
 refine region_lex [] [(21, Pr.ex (Value.agg #[Value.slice none 0 0]))] 1 hN_4 hD_4 (by kernel_rfl) (by kernel_rfl) ?_ ?_
 refine Asks.cons ?_ (Asks.zero _)
 exact Ask.plain rfl rfl fun aq wq hNq hO hR hT => does_build (vs := #[]) (V := Value.agg #[Value.slice none 0 0]) parts0 (by kernel_rfl) ⟨Ext.refl _, rfl⟩
 intro a5 wd5 hN_5 hD_5 hO hR hA hU
 obtain ⟨t21, _⟩ := hA
 have hE_5 := hE_4.trans hR
 have s4_5 := (hO 4 rfl).trans s4_4
 have hbb2_5 := hbb2_4.ext' hR
 have hbb4_5 := hbb4_4.ext' hR
 have hsx1_5 := hsx1_4.ext' hR
 have s21_5 : get a5 21 = Value.agg #[Value.slice none 0 0] := t21
 clear hE_4 hN_4 hD_4 s2_4 s4_4 s7_4 s20_4 hbb2_4 hbb4_4 hsx1_4
 refine tail_none rfl rfl (does_storeD (o := 0) (n := 1) (cs' := [Value.slice none 0 0]) (V := Value.agg #[Value.slice none 0 0]) s4_5 s21_5 hbb4_5 (Nat.le_of_ble_eq_true rfl) rfl siz_24 rfl rfl (fun wd6 hX hz hbb4_6 => ?_))
 have hE_6 := hE_5.since hX (fun k e => e ▸ fr_b4)
 have hbb2_6 := hbb2_5.ext hX ne_b2_b4
 have hsx1_6 := SlT.over hsx1_5 hX nb_x1_b4
 clear hX hz hE_5 hbb2_5 hbb4_5 hsx1_5
 refine tail_put rfl rfl hN_5 hD_5 (by decide) (does_assign (V := i64 ((0 : Nat) : Int)) rfl (fun a7 hN_7 hD_7 hv hO => ?_))
 have s5_7 := hv
 have s4_7 := (hO 4 rfl).trans s4_5
 clear hO hv hN_5 hD_5 s4_5 s21_5
 refine tail_put rfl rfl hN_7 hD_7 (by decide) (does_assign (V := i64 ((8 : Nat) : Int)) rfl (fun a8 hN_8 hD_8 hv hO => ?_))
 have s6_8 := hv
 have s4_8 := (hO 4 rfl).trans s4_7
 have s5_8 := (hO 5 rfl).trans s5_7
 clear hO hv hN_7 hD_7 s4_7 s5_7
 refine tail_nil ?_
 refine wp_ret ?_
 refine res_three (V1 := Value.agg #[Value.slice none 0 0]) (V2 := i64 ((0 : Nat) : Int)) (V3 := i64 ((8 : Nat) : Int)) rfl hD_8 (ResIs.cell s4_8 hbb4_6 row_24 rfl rfl) s5_8 s6_8 ?_
 obtain ⟨e1, e2, e3⟩ := prods (add_bad hc0 hx hc1)
 rw [e1, e2, e3]
 exact ⟨⟨_, _, _, rfl, ⟨_, rfl, SlT.nil Str 0 0 _, .inl ⟨rfl, rfl⟩⟩, rfl, rfl⟩, hE_6⟩
 have hc1 := of_decide_eq_true (bn' hc1)
 refine wp_skip ?_
 refine wp_seq ?_
 refine region_lex [] [(22, Pr.ex (Value.agg #[x1])), (23, Pr.ex (i64 (findI items (of s))))] 2 hN_4 hD_4 (by kernel_rfl) (by kernel_rfl) ?_ ?_
 refine Asks.cons ?_ (Asks.cons ?_ (Asks.zero _))
 exact Ask.plain rfl rfl fun aq wq hNq hO hR hT => does_loadD (o := 0) (n := 1) (mid := [x1]) ((hO 2 rfl).trans s2_4) (hbb2_4.ext' hR) rfl rfl (Nat.le_of_ble_eq_true rfl) row_24 rfl ⟨Ext.refl _, rfl⟩
 exact Ask.plain rfl rfl fun aq wq hNq hO hR hT => does_move (V := i64 (findI items (of s))) ((hO 7 rfl).trans s7_4) ⟨Ext.refl _, rfl⟩
 intro a9 wd9 hN_9 hD_9 hO hR hA hU
 obtain ⟨t22, t23, _⟩ := hA
 have hE_9 := hE_4.trans hR
 have s4_9 := (hO 4 rfl).trans s4_4
 have hbb2_9 := hbb2_4.ext' hR
 have hbb4_9 := hbb4_4.ext' hR
 have hsx1_9 := hsx1_4.ext' hR
 have s22_9 : get a9 22 = Value.agg #[x1] := t22
 have s23_9 : get a9 23 = i64 (findI items (of s)) := t23
 clear hE_4 hN_4 hD_4 s2_4 s4_4 s7_4 s20_4 hbb2_4 hbb4_4 hsx1_4
 refine tail_none rfl rfl (does_storeD (o := 0) (n := 1) (cs' := [x1]) (V := Value.agg #[x1]) s4_9 s22_9 hbb4_9 (Nat.le_of_ble_eq_true rfl) rfl siz_24 (one_cons (SlT.one hsx1_9) one_nil) rfl (fun wd10 hX hz hbb4_10 => ?_))
 have hE_10 := hE_9.since hX (fun k e => e ▸ fr_b4)
 have hbb2_10 := hbb2_9.ext hX ne_b2_b4
 have hsx1_10 := SlT.over hsx1_9 hX nb_x1_b4
 clear hX hz hE_9 hbb2_9 hbb4_9 hsx1_9
 refine tail_put rfl rfl hN_9 hD_9 (by decide) (does_assign (V := i64 (findI items (of s))) s23_9 (fun a11 hN_11 hD_11 hv hO => ?_))
 have s5_11 := hv
 have s4_11 := (hO 4 rfl).trans s4_9
 clear hO hv hN_9 hD_9 s4_9 s22_9 s23_9
 refine tail_put rfl rfl hN_11 hD_11 (by decide) (does_assign (V := i64 ((0 : Nat) : Int)) rfl (fun a12 hN_12 hD_12 hv hO => ?_))
 have s6_12 := hv
 have s4_12 := (hO 4 rfl).trans s4_11
 have s5_12 := (hO 5 rfl).trans s5_11
 clear hO hv hN_11 hD_11 s4_11 s5_11
 refine tail_nil ?_
 refine wp_ret ?_
 refine res_three (V1 := Value.agg #[x1]) (V2 := i64 (findI items (of s))) (V3 := i64 ((0 : Nat) : Int)) rfl hD_12 (ResIs.cell s4_12 hbb4_10 row_24 rfl rfl) s5_12 s6_12 ?_
 obtain ⟨e1, e2, e3⟩ := prods (add_same hc0 hx hc1)
 rw [e1, e2, e3]
 exact ⟨⟨_, _, _, rfl, ⟨_, rfl, hsx1_10.wide (Nat.zero_le _) (.inl rfl), .inr (.inl ⟨rfl, rfl⟩)⟩, rfl, rfl⟩, hE_10⟩
 have hc0 := of_decide_eq_false hc0
 refine wp_skip ?_
 refine wp_seq ?_
 refine wp_seq ?_
 refine region_lex [] [(24, Pr.ex (Value.pointer (some ⟨b2, 0, none⟩))), (25, Pr.ex (x1)), (26, Pr.ex (i64 ((items.length : Nat) : Int))), (27, Pr.ex (Value.bool (decide (((1000 : Nat) : Int) ≤ ((items.length : Nat) : Int)))))] 4 hN_3 hD_3 (by kernel_rfl) (by kernel_rfl) ?_ ?_
 refine Asks.cons ?_ (Asks.cons ?_ (Asks.cons ?_ (Asks.cons ?_ (Asks.zero _))))
 exact Ask.plain rfl rfl fun aq wq hNq hO hR hT => does_field (o' := 0) fld_24_0 ((hO 2 rfl).trans s2_3) rfl ⟨Ext.refl _, rfl⟩
 exact Ask.plain rfl rfl fun aq wq hNq hO hR hT => does_loadD1 (o := 0) (V := x1) (hT 24 rfl rfl) (hbb2_3.ext' hR) rfl one_22 ⟨Ext.refl _, rfl⟩
 exact Ask.plain rfl rfl fun aq wq hNq hO hR hT => does_len (T := Str) (xs := items) sli_22 (SlT.at (hT 25 rfl rfl) (hsx1_3.ext' hR)) ⟨Ext.refl _, rfl⟩
 exact Ask.plain rfl rfl fun aq wq hNq hO hR hT => does_geq (a := ((items.length : Nat) : Int)) (b := ((1000 : Nat) : Int)) (hT 26 rfl rfl) rfl ⟨Ext.refl _, rfl⟩
 intro a13 wd13 hN_13 hD_13 hO hR hA hU
 obtain ⟨_, _, _, t27, _⟩ := hA
 have hE_13 := hE_3.trans hR
 have s1_13 := (hO 1 rfl).trans s1_3
 have s2_13 := (hO 2 rfl).trans s2_3
 have s4_13 := (hO 4 rfl).trans s4_3
 have hbb2_13 := hbb2_3.ext' hR
 have hbb4_13 := hbb4_3.ext' hR
 have hsx1_13 := hsx1_3.ext' hR
 have s27_13 : get a13 27 = Value.bool (decide (((1000 : Nat) : Int) ≤ ((items.length : Nat) : Int))) := t27
 clear hE_3 hN_3 hD_3 s1_3 s2_3 s4_3 s7_3 s13_3 hbb2_3 hbb4_3 hsx1_3
 refine tail_nil ?_
 refine wp_if (B := decide (((1000 : Nat) : Int) ≤ ((items.length : Nat) : Int))) s27_13 (fun hc2 => ?_) (fun hc2 => ?_)
 have hc2 := of_decide_eq_true hc2
 replace hc0 : ¬ 0 ≤ findI items (of s) := by omega
 replace hc2 : 1000 ≤ items.length := by omega
 refine wp_seq ?_
 refine region_lex [] [(28, Pr.ex (Value.agg #[Value.slice none 0 0]))] 1 hN_13 hD_13 (by kernel_rfl) (by kernel_rfl) ?_ ?_
 refine Asks.cons ?_ (Asks.zero _)
 exact Ask.plain rfl rfl fun aq wq hNq hO hR hT => does_build (vs := #[]) (V := Value.agg #[Value.slice none 0 0]) parts0 (by kernel_rfl) ⟨Ext.refl _, rfl⟩
 intro a14 wd14 hN_14 hD_14 hO hR hA hU
 obtain ⟨t28, _⟩ := hA
 have hE_14 := hE_13.trans hR
 have s4_14 := (hO 4 rfl).trans s4_13
 have hbb2_14 := hbb2_13.ext' hR
 have hbb4_14 := hbb4_13.ext' hR
 have hsx1_14 := hsx1_13.ext' hR
 have s28_14 : get a14 28 = Value.agg #[Value.slice none 0 0] := t28
 clear hE_13 hN_13 hD_13 s1_13 s2_13 s4_13 s27_13 hbb2_13 hbb4_13 hsx1_13
 refine tail_none rfl rfl (does_storeD (o := 0) (n := 1) (cs' := [Value.slice none 0 0]) (V := Value.agg #[Value.slice none 0 0]) s4_14 s28_14 hbb4_14 (Nat.le_of_ble_eq_true rfl) rfl siz_24 rfl rfl (fun wd15 hX hz hbb4_15 => ?_))
 have hE_15 := hE_14.since hX (fun k e => e ▸ fr_b4)
 have hbb2_15 := hbb2_14.ext hX ne_b2_b4
 have hsx1_15 := SlT.over hsx1_14 hX nb_x1_b4
 clear hX hz hE_14 hbb2_14 hbb4_14 hsx1_14
 refine tail_put rfl rfl hN_14 hD_14 (by decide) (does_assign (V := i64 ((0 : Nat) : Int)) rfl (fun a16 hN_16 hD_16 hv hO => ?_))
 have s5_16 := hv
 have s4_16 := (hO 4 rfl).trans s4_14
 clear hO hv hN_14 hD_14 s4_14 s28_14
 refine tail_put rfl rfl hN_16 hD_16 (by decide) (does_assign (V := i64 ((2 : Nat) : Int)) rfl (fun a17 hN_17 hD_17 hv hO => ?_))
 have s6_17 := hv
 have s4_17 := (hO 4 rfl).trans s4_16
 have s5_17 := (hO 5 rfl).trans s5_16
 clear hO hv hN_16 hD_16 s4_16 s5_16
 refine tail_nil ?_
 refine wp_ret ?_
 refine res_three (V1 := Value.agg #[Value.slice none 0 0]) (V2 := i64 ((0 : Nat) : Int)) (V3 := i64 ((2 : Nat) : Int)) rfl hD_17 (ResIs.cell s4_17 hbb4_15 row_24 rfl rfl) s5_17 s6_17 ?_
 obtain ⟨e1, e2, e3⟩ := prods (add_full hc0 hc2)
 rw [e1, e2, e3]
 exact ⟨⟨_, _, _, rfl, ⟨_, rfl, SlT.nil Str 0 0 _, .inl ⟨rfl, rfl⟩⟩, rfl, rfl⟩, hE_15⟩
 have hc2 := of_decide_eq_false hc2
 replace hc0 : ¬ 0 ≤ findI items (of s) := by omega
 replace hc2 : ¬ 1000 ≤ items.length := by omega
 refine wp_skip ?_
 refine wp_seq ?_
 refine region_late [] [(29, Pr.ex (Value.agg #[x1])), (30, Pr.ex (str (s))), (31, Pr.ag (fun x => Value.agg #[x]) (Pr.own' Str wd13.heap.size 9 (items ++ [s]))), (32, Pr.ex (Value.pointer (some ⟨b2, 0, none⟩))), (33, Pr.ex (x1)), (34, Pr.ex (i64 ((items.length : Nat) : Int)))] 6 [3, 4, 5] (fun k => k = b4) mixed hN_13 hD_13 (by kernel_rfl) (by kernel_rfl) (by kernel_rfl) (by kernel_rfl) (fun d v c a w h => by cases d <;> exact h) ?_ ?_ ?_
 refine Asks.cons ?_ (Asks.cons ?_ (Asks.cons ?_ (Asks.cons ?_ (Asks.cons ?_ (Asks.cons ?_ (Asks.zero _))))))
 exact Ask.plainD rfl rfl fun aq wq hNq hO hR hT => does_loadD (o := 0) (n := 1) (mid := [x1]) ((hO 2 rfl).trans s2_13) (hbb2_13.ext' hR) rfl rfl (Nat.le_of_ble_eq_true rfl) row_24 rfl ⟨Ext.refl _, rfl⟩
 exact Ask.plainD rfl rfl fun aq wq hNq hO hR hT => does_move (V := str (s)) ((hO 1 rfl).trans s1_13) ⟨Ext.refl _, rfl⟩
 exact Ask.plainD rfl rfl fun aq wq hNq hO hR hT => does_ret (vs := #[Value.agg #[x1], str (s)]) call_47 (args2 (hT 29 rfl rfl) (hT 30 rfl rfl)) rfl ((with_ (items) (s) (x1) wq ((hsx1_13.ext' hR).wide (Nat.zero_le _) (.inl rfl)) (by omega)).mono fun v w2 h => ⟨h.2, (by obtain ⟨x, hx, ho⟩ := h.1; exact ⟨x, hx, OwnT.base ho hR.size'⟩)⟩)
 exact Ask.plainD rfl rfl fun aq wq hNq hO hR hT => does_field (o' := 0) fld_24_0 ((hO 2 rfl).trans s2_13) rfl ⟨Ext.refl _, rfl⟩
 exact Ask.plainD rfl rfl fun aq wq hNq hO hR hT => does_loadD1 (o := 0) (V := x1) (hT 32 rfl rfl) (hbb2_13.ext' hR) rfl one_22 ⟨Ext.refl _, rfl⟩
 exact Ask.plainD rfl rfl fun aq wq hNq hO hR hT => does_len (T := Str) (xs := items) sli_22 (SlT.at (hT 33 rfl rfl) (hsx1_13.ext' hR)) ⟨Ext.refl _, rfl⟩
 refine LateAsks.cons rfl rfl rfl ?_ (LateAsks.cons rfl rfl rfl ?_ (LateAsks.cons rfl rfl rfl ?_ LateAsks.nil))
 intro aq wq hO hR hT
 have hR0 := hR
 replace hR := (Ext.drew _).trans hR
 exact ⟨_, yl_field (o' := 0) fld_24_0 ((hO 2 rfl).trans s2_13) rfl, rfl⟩
 intro aq wq hO hR hT
 have hR0 := hR
 replace hR := (Ext.drew _).trans hR
 exact ⟨_, yl_loadD1 (o := 0) (V := x1) (hT 32 rfl rfl) hbb2_13 (fun e => ne_b2_b4 e) rfl one_22, rfl⟩
 intro aq wq hO hR hT
 have hR0 := hR
 replace hR := (Ext.drew _).trans hR
 exact ⟨_, yl_len (T := Str) (xs := items) sli_22 (SlT.at (hT 33 rfl rfl) (hsx1_13.ext' hR)), rfl⟩
 intro wl hwl hwh a18 wd18 hN_18 hD_18 hO hR hA hU
 have hS_18 : ExtE (fun k => k = b4) wl wd18 := hR.toE
 replace hR := hwl.trans hR
 obtain ⟨_, _, t31, _, _, t34, _⟩ := hA
 have hE_18 := hE_13.trans hR
 have s4_18 := (hO 4 rfl).trans s4_13
 have hbb2_18 := hbb2_13.ext' hR
 have hbb4_18 := hbb4_13.ext' hR
 have hsx1_18 := hsx1_13.ext' hR
 obtain ⟨x31_0_18, s31_18, ky31_0_18⟩ := t31
 replace ky31_0_18 : OwnT Str wd13.heap.size 9 (items ++ [s]) x31_0_18 wd18 := ky31_0_18
 have nbo_x31_0_18_b2 : x31_0_18.ownBlock ≠ some b2 := fun e => Nat.lt_irrefl _ (Nat.lt_of_lt_of_le hbb2_13.lt (OwnT.block_lt ky31_0_18 e).1)
 have nbo_x31_0_18_b4 : x31_0_18.ownBlock ≠ some b4 := fun e => Nat.lt_irrefl _ (Nat.lt_of_lt_of_le hbb4_13.lt (OwnT.block_lt ky31_0_18 e).1)
 have hsx31_0_18_18 := ky31_0_18.sl.wide (Nat.zero_le _) (.inl rfl)
 have hox31_0_18_18 := OwnT.base ky31_0_18 hE_13.size'
 have s34_18 : get a18 34 = i64 ((items.length : Nat) : Int) := t34
 clear hE_13 hN_13 hD_13 s1_13 s2_13 s4_13 s27_13 hbb2_13 hbb4_13 hsx1_13
 refine tailS_none rfl rfl (does_storeD (o := 0) (n := 1) (cs' := [x31_0_18]) (V := Value.agg #[x31_0_18]) s4_18 s31_18 hbb4_18 (Nat.le_of_ble_eq_true rfl) rfl siz_24 (one_cons (SlT.one hsx31_0_18_18) one_nil) rfl (fun wd19 hX hz hbb4_19 => ⟨hS_18.trans (hX.mono fun k _ e => e), ?_⟩))
 have hS_19 := hS_18.trans (hX.mono (E' := (fun k => k = b4)) fun k _ e => e)
 have hE_19 := hE_18.since hX (fun k e => e ▸ fr_b4)
 have hbb2_19 := hbb2_18.ext hX ne_b2_b4
 have hsx1_19 := SlT.over hsx1_18 hX nb_x1_b4
 have hsx31_0_18_19 := SlT.over hsx31_0_18_18 hX (fun _ => nbo_x31_0_18_b4)
 have hox31_0_18_19 := OwnT.ext hox31_0_18_18 hX (fun k hk e => nbo_x31_0_18_b4 (e ▸ hk))
 clear hX hz hE_18 hbb2_18 hbb4_18 hsx1_18 hsx31_0_18_18 hox31_0_18_18
 refine tailS_put rfl rfl hN_18 hD_18 (by decide) (does_assign (V := i64 ((items.length : Nat) : Int)) s34_18 (⟨hS_19, fun a20 hN_20 hD_20 hv hO => ?_⟩))
 have s5_20 := hv
 have s4_20 := (hO 4 rfl).trans s4_18
 clear hO hv hN_18 hD_18 s4_18 s31_18 s34_18
 refine tailS_put rfl rfl hN_20 hD_20 (by decide) (does_assign (V := i64 ((0 : Nat) : Int)) rfl (⟨hS_19, fun a21 hN_21 hD_21 hv hO => ?_⟩))
 have s6_21 := hv
 have s4_21 := (hO 4 rfl).trans s4_20
 have s5_21 := (hO 5 rfl).trans s5_20
 clear hO hv hN_20 hD_20 s4_20 s5_20
 refine tailS_nil ?_
 refine wp_ret ?_
 refine res_three (V1 := Value.agg #[x31_0_18]) (V2 := i64 ((items.length : Nat) : Int)) (V3 := i64 ((0 : Nat) : Int)) rfl hD_21 (ResIs.cell s4_21 hbb4_19 row_24 rfl rfl) s5_21 s6_21 ?_
 obtain ⟨e1, e2, e3⟩ := prods (add_new hc0 hc2)
 rw [e1, e2, e3]
 exact ⟨⟨_, _, _, rfl, ⟨_, rfl, hsx31_0_18_19.wide (Nat.zero_le _) (.inl rfl), .inr (.inr hox31_0_18_19)⟩, rfl, rfl⟩, hE_19⟩

/-- What is the call's own stays so. -/
theorem addO (items : List (List UInt8)) (s : List UInt8) (x1 : Value) (w0 : World) (base : Nat) (hL : Laid w0) (hx1 : SlT Str 0 0 items x1 w0) (hs : ∀ x ∈ items, x.length ≤ 65536) (hn : items.length ≤ 100000) (hss : s.length ≤ 65536) (ho : OwnT Str base 9 items x1 w0) (hbase : base ≤ w0.heap.size) : Gives Tryd.prog 19 #[Value.agg #[x1], str (s)] w0 (Pr.t3 (Pr.ag (fun x => Value.agg #[x]) (Pr.own' Str base 9 (addS items s).1)) (Pr.ex (i64 (addS items s).2.1)) (Pr.ex (i64 (((addS items s).2.2 : Nat) : Int)))) :=
  Ret.mono (addW items s x1 w0 hL hx1 hs hn hss) fun v w h => by
    obtain ⟨⟨a, b, c, hv, ⟨x, hx, hq1, hq⟩, hb, hc⟩, hE⟩ := h
    refine ⟨⟨a, b, c, hv, ⟨x, hx, ?_⟩, hb, hc⟩, hE⟩
    show OwnT Str base 9 (addS items s).1 x w
    rcases hq with ⟨h1, h2⟩ | ⟨h1, h2⟩ | h1
    · rw [h1, h2]; exact OwnT.nil Str base 9 w
    · rw [h1, h2]; exact OwnT.ext' ho hE
    · exact OwnT.base h1 hbase

end Go.Proofs.YtijfjpbahepegaaDoor
