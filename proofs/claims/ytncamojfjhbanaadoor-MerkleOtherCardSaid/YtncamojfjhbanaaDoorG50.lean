/- The walks of functions of the program: printed. -/
import Derived.Test.YtncamojfjhbanaaDoorK
import Derived.Test.YtncamojfjhbanaaDoorG3
import Derived.Test.YtncamojfjhbanaaDoorG7
import Derived.Test.YtncamojfjhbanaaDoorF0
set_option maxRecDepth 100000
namespace Go.Proofs.YtncamojfjhbanaaDoor
open Go Go.RowKit Sk Sd
theorem upR_r : ∀ (N : Nat) (n i : Nat) (leaf : Dg) (l : List Dg) (x1 : Value) (w0 : World) (hx1 : SlT DG 0 0 l x1 w0) (h1 : 1 ≤ n) (hi : i < n) (hnn : n ≤ 100000) (hn : l.length ≤ 100000) (hN : n = N),
    Gives Tryd.prog 40 #[i64 ((n : Nat) : Int), i64 ((i : Nat) : Int), Dg.val (leaf), x1] w0 (Pr.ex (Value.tuple #[Dg.val (up n i leaf l.reverse).1, Value.bool (up n i leaf l.reverse).2])) := by
  intro N
  induction N using Nat.strongRecOn with
  | _ N ih =>
    intro n i leaf l x1 w0 hx1 h1 hi hnn hn hN
    refine enter (N := 71) Tryd.func40 rfl rfl ?_
    intro a0 hN_0 hD_0 hA
    have s0_0 : get a0 0 = i64 ((n : Nat) : Int) := hA 0 _ rfl
    have s1_0 : get a0 1 = i64 ((i : Nat) : Int) := hA 1 _ rfl
    have s2_0 : get a0 2 = Dg.val (leaf) := hA 2 _ rfl
    have s3_0 : get a0 3 = x1 := hA 3 _ rfl
    clear hA
    have hE_0 : Ext w0 w0 := Ext.refl w0
    have hsx1_0 := hx1.close
    refine wp_seq ?_
    refine region_lex [6, 8] [(6, Pr.box' w0.heap.size 24 [w32 (leaf).a, w32 (leaf).b, w32 (leaf).c, w32 (leaf).d]), (8, Pr.box' w0.heap.size 24 [w32 (Dg.zero).a, w32 (Dg.zero).b, w32 (Dg.zero).c, w32 (Dg.zero).d]), (9, Pr.ex (Value.bool (false)))] 3 hN_0 hD_0 (by kernel_rfl) (by kernel_rfl) ?_ ?_
    · refine Asks.cons ?_ (Asks.cons ?_ (Asks.cons ?_ (Asks.zero _)))
      · refine Ask.fresh rfl rfl ?_
        intro aq wq hNq hO hR hT
        exact does_box (V := Dg.val (leaf)) ((hO 2 rfl).trans s2_0) (fun b w2 he hlo hb => ⟨he, ⟨b, rfl, Nat.le_trans hR.size' hlo, hb⟩, ⟨b, rfl, hlo, hb.lt⟩⟩)
      · refine Ask.fresh rfl rfl ?_
        intro aq wq hNq hO hR hT
        exact does_alloc zero_24 (fun b w2 he hlo hb => ⟨he, ⟨b, rfl, Nat.le_trans hR.size' hlo, hb⟩, ⟨b, rfl, hlo, hb.lt⟩⟩)
      · refine Ask.plain rfl rfl ?_
        intro aq wq hNq hO hR hT
        exact does_assign (V := Value.bool (false)) rfl ⟨Ext.refl _, rfl⟩
    intro a1 wd1 hN_1 hD_1 hO hR hA hU
    obtain ⟨t6, t8, _, _⟩ := hA
    have hE_1 := hE_0.trans hR
    have s0_1 := (hO 0 rfl).trans s0_0
    have s1_1 := (hO 1 rfl).trans s1_0
    have s3_1 := (hO 3 rfl).trans s3_0
    have hsx1_1 := hsx1_0.ext' hR
    obtain ⟨b6, s6_1, lo_b6, hbb6_1⟩ := t6
    have nb_x1_b6 := SlT.old hsx1_0 lo_b6
    have fr_b6 : w0.heap.size ≤ b6 := Nat.le_trans hE_0.size' lo_b6
    obtain ⟨b8, s8_1, lo_b8, hbb8_1⟩ := t8
    have nb_x1_b8 := SlT.old hsx1_0 lo_b8
    have fr_b8 : w0.heap.size ≤ b8 := Nat.le_trans hE_0.size' lo_b8
    obtain ⟨u0, ⟨u1, _⟩⟩ := hU
    have ne_b6_b8 : b6 ≠ b8 := fun e => u0 8 (by decide) (by rw [s6_1, s8_1, e])
    clear hE_0 hN_0 hD_0 s0_0 s1_0 s2_0 s3_0 hsx1_0
    refine tail_nil ?_
    refine wp_seq ?_
    refine wp_seq ?_
    refine region_lex [] [(17, Pr.ex (i64 ((n : Nat) : Int))), (18, Pr.ex (Value.bool (decide (((n : Nat) : Int) = ((1 : Nat) : Int)))))] 2 hN_1 hD_1 (by kernel_rfl) (by kernel_rfl) ?_ ?_
    · refine Asks.cons ?_ (Asks.cons ?_ (Asks.zero _))
      · refine Ask.plain rfl rfl ?_
        intro aq wq hNq hO hR hT
        exact does_move (V := i64 ((n : Nat) : Int)) ((hO 0 rfl).trans s0_1) ⟨Ext.refl _, rfl⟩
      · refine Ask.plain rfl rfl ?_
        intro aq wq hNq hO hR hT
        exact does_eql (a := ((n : Nat) : Int)) (b := ((1 : Nat) : Int)) (hT 17 rfl rfl) rfl ⟨Ext.refl _, rfl⟩
    intro a2 wd2 hN_2 hD_2 hO hR hA hU
    obtain ⟨_, t18, _⟩ := hA
    have hE_2 := hE_1.trans hR
    have s0_2 := (hO 0 rfl).trans s0_1
    have s1_2 := (hO 1 rfl).trans s1_1
    have s3_2 := (hO 3 rfl).trans s3_1
    have s6_2 := (hO 6 rfl).trans s6_1
    have s8_2 := (hO 8 rfl).trans s8_1
    have hbb6_2 := hbb6_1.ext' hR
    have hbb8_2 := hbb8_1.ext' hR
    have hsx1_2 := hsx1_1.ext' hR
    have s18_2 : get a2 18 = Value.bool (decide (((n : Nat) : Int) = ((1 : Nat) : Int))) := t18
    clear hE_1 hN_1 hD_1 s0_1 s1_1 s3_1 s6_1 s8_1 hbb6_1 hbb8_1 hsx1_1
    refine tail_nil ?_
    refine wp_if (B := decide (((n : Nat) : Int) = ((1 : Nat) : Int))) s18_2 (fun hc0 => ?_) (fun hc0 => ?_)
    · -- T 0
      have hc0 := of_decide_eq_true hc0
      refine wp_seq ?_
      refine region_lex [] [(19, Pr.ex (Dg.val (leaf))), (20, Pr.ex (x1)), (21, Pr.ex (i64 ((l.length : Nat) : Int))), (22, Pr.ex (Value.bool (decide (((l.length : Nat) : Int) = ((0 : Nat) : Int)))))] 4 hN_2 hD_2 (by kernel_rfl) (by kernel_rfl) ?_ ?_
      · refine Asks.cons ?_ (Asks.cons ?_ (Asks.cons ?_ (Asks.cons ?_ (Asks.zero _))))
        · refine Ask.plain rfl rfl ?_
          intro aq wq hNq hO hR hT
          exact does_loadD (o := 0) (n := 4) (mid := [w32 (leaf).a, w32 (leaf).b, w32 (leaf).c, w32 (leaf).d]) ((hO 6 rfl).trans s6_2) (hbb6_2.ext' hR) rfl rfl (Nat.le_of_ble_eq_true rfl) row_24 rfl ⟨Ext.refl _, rfl⟩
        · refine Ask.plain rfl rfl ?_
          intro aq wq hNq hO hR hT
          exact does_move (V := x1) ((hO 3 rfl).trans s3_2) ⟨Ext.refl _, rfl⟩
        · refine Ask.plain rfl rfl ?_
          intro aq wq hNq hO hR hT
          exact does_len (T := DG) (xs := l) sli_27 (SlT.at (hT 20 rfl rfl) (hsx1_2.ext' hR)) ⟨Ext.refl _, rfl⟩
        · refine Ask.plain rfl rfl ?_
          intro aq wq hNq hO hR hT
          exact does_eql (a := ((l.length : Nat) : Int)) (b := ((0 : Nat) : Int)) (hT 21 rfl rfl) rfl ⟨Ext.refl _, rfl⟩
      intro a3 wd3 hN_3 hD_3 hO hR hA hU
      obtain ⟨t19, _, _, t22, _⟩ := hA
      have hE_3 := hE_2.trans hR
      have s8_3 := (hO 8 rfl).trans s8_2
      have hbb6_3 := hbb6_2.ext' hR
      have hbb8_3 := hbb8_2.ext' hR
      have hsx1_3 := hsx1_2.ext' hR
      have s19_3 : get a3 19 = Dg.val (leaf) := t19
      have s22_3 : get a3 22 = Value.bool (decide (((l.length : Nat) : Int) = ((0 : Nat) : Int))) := t22
      clear hE_2 hN_2 hD_2 s0_2 s1_2 s3_2 s6_2 s8_2 s18_2 hbb6_2 hbb8_2 hsx1_2
      refine tail_none rfl rfl (does_storeD (o := 0) (n := 4) (cs' := [w32 (leaf).a, w32 (leaf).b, w32 (leaf).c, w32 (leaf).d]) (V := Dg.val (leaf)) s8_3 s19_3 hbb8_3 (Nat.le_of_ble_eq_true rfl) rfl siz_24 rfl rfl (fun wd4 hX hz hbb8_4 => ?_))
      have hE_4 := hE_3.since hX (fun k e => e ▸ fr_b8)
      have hbb6_4 := hbb6_3.ext hX ne_b6_b8
      have hsx1_4 := SlT.over hsx1_3 hX nb_x1_b8
      clear hX hz hE_3 hbb6_3 hbb8_3 hsx1_3
      refine tail_put rfl rfl hN_3 hD_3 (by decide) (does_assign (V := Value.bool (decide (((l.length : Nat) : Int) = ((0 : Nat) : Int)))) s22_3 (fun a5 hN_5 hD_5 hv hO => ?_))
      have s9_5 := hv
      have s8_5 := (hO 8 rfl).trans s8_3
      clear hO hv hN_3 hD_3 s8_3 s19_3 s22_3
      refine tail_nil ?_
      refine wp_ret ?_
      refine res_two (V1 := Dg.val (leaf)) (V2 := Value.bool (decide (((l.length : Nat) : Int) = ((0 : Nat) : Int)))) rfl hD_5 (ResIs.cell s8_5 hbb8_4 row_24 rfl rfl) s9_5 ?_
      exact ⟨by show Value.tuple _ = Value.tuple _; rw [up_end1 (by omega), up_end2 (by omega), emptyI], hE_4⟩
    have hc0 := of_decide_eq_false hc0
    have h2 : 2 ≤ n := by omega
    have hh := half_lt h2
    have hp := half_pos n
    refine wp_skip ?_
    refine wp_seq ?_
    refine wp_seq ?_
    refine region_lex [] [(23, Pr.ex (x1)), (24, Pr.ex (i64 ((l.length : Nat) : Int))), (25, Pr.ex (Value.bool (decide (((l.length : Nat) : Int) = ((0 : Nat) : Int)))))] 3 hN_2 hD_2 (by kernel_rfl) (by kernel_rfl) ?_ ?_
    · refine Asks.cons ?_ (Asks.cons ?_ (Asks.cons ?_ (Asks.zero _)))
      · refine Ask.plain rfl rfl ?_
        intro aq wq hNq hO hR hT
        exact does_move (V := x1) ((hO 3 rfl).trans s3_2) ⟨Ext.refl _, rfl⟩
      · refine Ask.plain rfl rfl ?_
        intro aq wq hNq hO hR hT
        exact does_len (T := DG) (xs := l) sli_27 (SlT.at (hT 23 rfl rfl) (hsx1_2.ext' hR)) ⟨Ext.refl _, rfl⟩
      · refine Ask.plain rfl rfl ?_
        intro aq wq hNq hO hR hT
        exact does_eql (a := ((l.length : Nat) : Int)) (b := ((0 : Nat) : Int)) (hT 24 rfl rfl) rfl ⟨Ext.refl _, rfl⟩
    intro a6 wd6 hN_6 hD_6 hO hR hA hU
    obtain ⟨_, _, t25, _⟩ := hA
    have hE_6 := hE_2.trans hR
    have s0_6 := (hO 0 rfl).trans s0_2
    have s1_6 := (hO 1 rfl).trans s1_2
    have s3_6 := (hO 3 rfl).trans s3_2
    have s6_6 := (hO 6 rfl).trans s6_2
    have s8_6 := (hO 8 rfl).trans s8_2
    have hbb6_6 := hbb6_2.ext' hR
    have hbb8_6 := hbb8_2.ext' hR
    have hsx1_6 := hsx1_2.ext' hR
    have s25_6 : get a6 25 = Value.bool (decide (((l.length : Nat) : Int) = ((0 : Nat) : Int))) := t25
    clear hE_2 hN_2 hD_2 s0_2 s1_2 s3_2 s6_2 s8_2 s18_2 hbb6_2 hbb8_2 hsx1_2
    refine tail_nil ?_
    refine wp_if (B := decide (((l.length : Nat) : Int) = ((0 : Nat) : Int))) s25_6 (fun hc1 => ?_) (fun hc1 => ?_)
    · -- T 1
      have hc1 := of_decide_eq_true hc1
      refine wp_seq ?_
      refine region_lex [] [(26, Pr.ex (Dg.val (leaf)))] 1 hN_6 hD_6 (by kernel_rfl) (by kernel_rfl) ?_ ?_
      · refine Asks.cons ?_ (Asks.zero _)
        · refine Ask.plain rfl rfl ?_
          intro aq wq hNq hO hR hT
          exact does_loadD (o := 0) (n := 4) (mid := [w32 (leaf).a, w32 (leaf).b, w32 (leaf).c, w32 (leaf).d]) ((hO 6 rfl).trans s6_6) (hbb6_6.ext' hR) rfl rfl (Nat.le_of_ble_eq_true rfl) row_24 rfl ⟨Ext.refl _, rfl⟩
      intro a7 wd7 hN_7 hD_7 hO hR hA hU
      obtain ⟨t26, _⟩ := hA
      have hE_7 := hE_6.trans hR
      have s8_7 := (hO 8 rfl).trans s8_6
      have hbb6_7 := hbb6_6.ext' hR
      have hbb8_7 := hbb8_6.ext' hR
      have hsx1_7 := hsx1_6.ext' hR
      have s26_7 : get a7 26 = Dg.val (leaf) := t26
      clear hE_6 hN_6 hD_6 s0_6 s1_6 s3_6 s6_6 s8_6 s25_6 hbb6_6 hbb8_6 hsx1_6
      refine tail_none rfl rfl (does_storeD (o := 0) (n := 4) (cs' := [w32 (leaf).a, w32 (leaf).b, w32 (leaf).c, w32 (leaf).d]) (V := Dg.val (leaf)) s8_7 s26_7 hbb8_7 (Nat.le_of_ble_eq_true rfl) rfl siz_24 rfl rfl (fun wd8 hX hz hbb8_8 => ?_))
      have hE_8 := hE_7.since hX (fun k e => e ▸ fr_b8)
      have hbb6_8 := hbb6_7.ext hX ne_b6_b8
      have hsx1_8 := SlT.over hsx1_7 hX nb_x1_b8
      clear hX hz hE_7 hbb6_7 hbb8_7 hsx1_7
      refine tail_put rfl rfl hN_7 hD_7 (by decide) (does_assign (V := Value.bool (false)) rfl (fun a9 hN_9 hD_9 hv hO => ?_))
      have s9_9 := hv
      have s8_9 := (hO 8 rfl).trans s8_7
      clear hO hv hN_7 hD_7 s8_7 s26_7
      refine tail_nil ?_
      refine wp_ret ?_
      refine res_two (V1 := Dg.val (leaf)) (V2 := Value.bool (false)) rfl hD_9 (ResIs.cell s8_9 hbb8_8 row_24 rfl rfl) s9_9 ?_
      exact ⟨by show Value.tuple _ = Value.tuple _; rw [rev_nil (by omega), up_nil1 h2, up_nil2 h2], hE_8⟩
    have hc1 := of_decide_eq_false hc1
    obtain ⟨z, hz⟩ := get_of_lt (l := l) (k := l.length - 1) (by omega)
    refine wp_skip ?_
    refine wp_seq ?_
    refine region_lex [10] [(27, Pr.ex (x1)), (28, Pr.ex (x1)), (29, Pr.ex (i64 ((l.length : Nat) : Int))), (30, Pr.ex (i64 ((l.length - 1 : Nat) : Int))), (31, Pr.pt' 0 (w0.heap.size + 1) [w32 (z).a, w32 (z).b, w32 (z).c, w32 (z).d]), (32, Pr.ex (Dg.val (z))), (10, Pr.box' wd6.heap.size 24 [w32 (Dg.zero).a, w32 (Dg.zero).b, w32 (Dg.zero).c, w32 (Dg.zero).d])] 7 hN_6 hD_6 (by kernel_rfl) (by kernel_rfl) ?_ ?_
    · refine Asks.cons ?_ (Asks.cons ?_ (Asks.cons ?_ (Asks.cons ?_ (Asks.cons ?_ (Asks.cons ?_ (Asks.cons ?_ (Asks.zero _)))))))
      · refine Ask.plain rfl rfl ?_
        intro aq wq hNq hO hR hT
        exact does_move (V := x1) ((hO 3 rfl).trans s3_6) ⟨Ext.refl _, rfl⟩
      · refine Ask.plain rfl rfl ?_
        intro aq wq hNq hO hR hT
        exact does_move (V := x1) ((hO 3 rfl).trans s3_6) ⟨Ext.refl _, rfl⟩
      · refine Ask.plain rfl rfl ?_
        intro aq wq hNq hO hR hT
        exact does_len (T := DG) (xs := l) sli_27 (SlT.at (hT 28 rfl rfl) (hsx1_6.ext' hR)) ⟨Ext.refl _, rfl⟩
      · refine Ask.plain rfl rfl ?_
        intro aq wq hNq hO hR hT
        exact does_sub (a := ((l.length : Nat) : Int)) (b := ((1 : Nat) : Int)) (r := ((l.length - 1 : Nat) : Int)) (hT 29 rfl rfl) rfl (by omega) (by omega) (by omega) ⟨Ext.refl _, rfl⟩
      · refine Ask.plain rfl rfl ?_
        intro aq wq hNq hO hR hT
        exact does_indexSl (T := DG) (xs := l) (i := ((l.length - 1 : Nat) : Int)) (X := z) sli_27 rfl (SlT.at (hT 27 rfl rfl) (hsx1_6.ext' hR)) (hT 30 rfl rfl) (by omega) (by simpa using hz) (fun v h => ⟨Ext.refl _, h⟩)
      · refine Ask.plain rfl rfl ?_
        intro aq wq hNq hO hR hT
        exact does_loadP (cs := [w32 (z).a, w32 (z).b, w32 (z).c, w32 (z).d]) (hT 31 rfl rfl) row_24 rfl ⟨Ext.refl _, rfl⟩
      · refine Ask.fresh rfl rfl ?_
        intro aq wq hNq hO hR hT
        exact does_alloc zero_24 (fun b w2 he hlo hb => ⟨he, ⟨b, rfl, Nat.le_trans hR.size' hlo, hb⟩, ⟨b, rfl, hlo, hb.lt⟩⟩)
    intro a10 wd10 hN_10 hD_10 hO hR hA hU
    obtain ⟨_, _, _, _, _, t32, t10, _⟩ := hA
    have hE_10 := hE_6.trans hR
    have s0_10 := (hO 0 rfl).trans s0_6
    have s1_10 := (hO 1 rfl).trans s1_6
    have s3_10 := (hO 3 rfl).trans s3_6
    have s6_10 := (hO 6 rfl).trans s6_6
    have s8_10 := (hO 8 rfl).trans s8_6
    have hbb6_10 := hbb6_6.ext' hR
    have hbb8_10 := hbb8_6.ext' hR
    have hsx1_10 := hsx1_6.ext' hR
    have s32_10 : get a10 32 = Dg.val (z) := t32
    obtain ⟨b10, s10_10, lo_b10, hbb10_10⟩ := t10
    have ne_b6_b10 : b6 ≠ b10 := fun e => Nat.lt_irrefl _ (Nat.lt_of_lt_of_le hbb6_6.lt (e ▸ lo_b10))
    have ne_b8_b10 : b8 ≠ b10 := fun e => Nat.lt_irrefl _ (Nat.lt_of_lt_of_le hbb8_6.lt (e ▸ lo_b10))
    have nb_x1_b10 := SlT.old hsx1_6 lo_b10
    have fr_b10 : w0.heap.size ≤ b10 := Nat.le_trans hE_6.size' lo_b10
    clear hE_6 hN_6 hD_6 s0_6 s1_6 s3_6 s6_6 s8_6 s25_6 hbb6_6 hbb8_6 hsx1_6
    refine tail_none rfl rfl (does_storeD (o := 0) (n := 4) (cs' := [w32 (z).a, w32 (z).b, w32 (z).c, w32 (z).d]) (V := Dg.val (z)) s10_10 s32_10 hbb10_10 (Nat.le_of_ble_eq_true rfl) rfl siz_24 rfl rfl (fun wd11 hX hz hbb10_11 => ?_))
    have hE_11 := hE_10.since hX (fun k e => e ▸ fr_b10)
    have hbb6_11 := hbb6_10.ext hX ne_b6_b10
    have hbb8_11 := hbb8_10.ext hX ne_b8_b10
    have hsx1_11 := SlT.over hsx1_10 hX nb_x1_b10
    clear hX hz hE_10 hbb6_10 hbb8_10 hbb10_10 hsx1_10
    refine tail_nil ?_
    refine wp_seq ?_
    refine region_lex [] [(33, Pr.ex (x1)), (34, Pr.ex (x1)), (35, Pr.ex (i64 ((l.length : Nat) : Int))), (36, Pr.ex (i64 ((l.length - 1 : Nat) : Int))), (37, Pr.sl' DG 0 (w0.heap.size + 1) (l.take (l.length - 1))), (11, Pr.sl' DG 0 (w0.heap.size + 1) (l.take (l.length - 1)))] 6 hN_10 hD_10 (by kernel_rfl) (by kernel_rfl) ?_ ?_
    · refine Asks.cons ?_ (Asks.cons ?_ (Asks.cons ?_ (Asks.cons ?_ (Asks.cons ?_ (Asks.cons ?_ (Asks.zero _))))))
      · refine Ask.plain rfl rfl ?_
        intro aq wq hNq hO hR hT
        exact does_move (V := x1) ((hO 3 rfl).trans s3_10) ⟨Ext.refl _, rfl⟩
      · refine Ask.plain rfl rfl ?_
        intro aq wq hNq hO hR hT
        exact does_move (V := x1) ((hO 3 rfl).trans s3_10) ⟨Ext.refl _, rfl⟩
      · refine Ask.plain rfl rfl ?_
        intro aq wq hNq hO hR hT
        exact does_len (T := DG) (xs := l) sli_27 (SlT.at (hT 34 rfl rfl) (hsx1_11.ext' hR)) ⟨Ext.refl _, rfl⟩
      · refine Ask.plain rfl rfl ?_
        intro aq wq hNq hO hR hT
        exact does_sub (a := ((l.length : Nat) : Int)) (b := ((1 : Nat) : Int)) (r := ((l.length - 1 : Nat) : Int)) (hT 35 rfl rfl) rfl (by omega) (by omega) (by omega) ⟨Ext.refl _, rfl⟩
      · refine Ask.plain rfl rfl ?_
        intro aq wq hNq hO hR hT
        exact does_sliceHi (T := DG) (xs := l) (k := ((l.length - 1 : Nat) : Int)) sli_27 rfl (SlT.at (hT 33 rfl rfl) (hsx1_11.ext' hR)) (hT 36 rfl rfl) (by omega) (by omega) (fun v h => ⟨Ext.refl _, h⟩)
      · refine Ask.plain rfl rfl ?_
        intro aq wq hNq hO hR hT
        exact does_assign rfl ⟨Ext.refl _, (hT 37 rfl rfl)⟩
    intro a12 wd12 hN_12 hD_12 hO hR hA hU
    obtain ⟨_, _, _, _, _, t11, _⟩ := hA
    have hE_12 := hE_11.trans hR
    have s0_12 := (hO 0 rfl).trans s0_10
    have s1_12 := (hO 1 rfl).trans s1_10
    have s6_12 := (hO 6 rfl).trans s6_10
    have s8_12 := (hO 8 rfl).trans s8_10
    have s10_12 := (hO 10 rfl).trans s10_10
    have hbb6_12 := hbb6_11.ext' hR
    have hbb8_12 := hbb8_11.ext' hR
    have hbb10_12 := hbb10_11.ext' hR
    have hsx1_12 := hsx1_11.ext' hR
    obtain ⟨x11, s11_12⟩ : ∃ x, get a12 11 = x := ⟨_, rfl⟩
    replace t11 : SlT DG 0 (w0.heap.size + 1) (l.take (l.length - 1)) x11 wd12 := by rw [← s11_12]; exact t11
    have hsx11_12 := t11
    clear hE_11 hN_10 hD_10 s0_10 s1_10 s3_10 s6_10 s8_10 s10_10 s32_10 hbb6_11 hbb8_11 hbb10_11 hsx1_11
    refine tail_nil ?_
    refine wp_seq ?_
    refine region_lex [] [(38, Pr.ex (i64 ((n : Nat) : Int))), (39, Pr.ex (i64 ((half n : Nat) : Int))), (12, Pr.ex (i64 ((half n : Nat) : Int)))] 3 hN_12 hD_12 (by kernel_rfl) (by kernel_rfl) ?_ ?_
    · refine Asks.cons ?_ (Asks.cons ?_ (Asks.cons ?_ (Asks.zero _)))
      · refine Ask.plain rfl rfl ?_
        intro aq wq hNq hO hR hT
        exact does_move (V := i64 ((n : Nat) : Int)) ((hO 0 rfl).trans s0_12) ⟨Ext.refl _, rfl⟩
      · refine Ask.plain rfl rfl ?_
        intro aq wq hNq hO hR hT
        exact does_ret (vs := #[i64 ((n : Nat) : Int)]) call_32 (args1 (hT 38 rfl rfl)) rfl ((halfR (n) wq (by omega) (by omega)).mono fun v w2 h => ⟨h.2, h.1⟩)
      · refine Ask.plain rfl rfl ?_
        intro aq wq hNq hO hR hT
        exact does_assign (V := i64 ((half n : Nat) : Int)) (hT 39 rfl rfl) ⟨Ext.refl _, rfl⟩
    intro a13 wd13 hN_13 hD_13 hO hR hA hU
    obtain ⟨_, _, t12, _⟩ := hA
    have hE_13 := hE_12.trans hR
    have s0_13 := (hO 0 rfl).trans s0_12
    have s1_13 := (hO 1 rfl).trans s1_12
    have s6_13 := (hO 6 rfl).trans s6_12
    have s8_13 := (hO 8 rfl).trans s8_12
    have s10_13 := (hO 10 rfl).trans s10_12
    have s11_13 := (hO 11 rfl).trans s11_12
    have hbb6_13 := hbb6_12.ext' hR
    have hbb8_13 := hbb8_12.ext' hR
    have hbb10_13 := hbb10_12.ext' hR
    have hsx1_13 := hsx1_12.ext' hR
    have hsx11_13 := hsx11_12.ext' hR
    have s12_13 : get a13 12 = i64 ((half n : Nat) : Int) := t12
    clear hE_12 hN_12 hD_12 s0_12 s1_12 s6_12 s8_12 s10_12 s11_12 hbb6_12 hbb8_12 hbb10_12 hsx1_12 hsx11_12
    refine tail_nil ?_
    refine wp_seq ?_
    refine wp_seq ?_
    refine region_lex [] [(40, Pr.ex (i64 ((i : Nat) : Int))), (41, Pr.ex (i64 ((half n : Nat) : Int))), (42, Pr.ex (Value.bool (decide (((i : Nat) : Int) < ((half n : Nat) : Int)))))] 3 hN_13 hD_13 (by kernel_rfl) (by kernel_rfl) ?_ ?_
    · refine Asks.cons ?_ (Asks.cons ?_ (Asks.cons ?_ (Asks.zero _)))
      · refine Ask.plain rfl rfl ?_
        intro aq wq hNq hO hR hT
        exact does_move (V := i64 ((i : Nat) : Int)) ((hO 1 rfl).trans s1_13) ⟨Ext.refl _, rfl⟩
      · refine Ask.plain rfl rfl ?_
        intro aq wq hNq hO hR hT
        exact does_move (V := i64 ((half n : Nat) : Int)) ((hO 12 rfl).trans s12_13) ⟨Ext.refl _, rfl⟩
      · refine Ask.plain rfl rfl ?_
        intro aq wq hNq hO hR hT
        exact does_lss (a := ((i : Nat) : Int)) (b := ((half n : Nat) : Int)) (hT 40 rfl rfl) (hT 41 rfl rfl) ⟨Ext.refl _, rfl⟩
    intro a14 wd14 hN_14 hD_14 hO hR hA hU
    obtain ⟨_, _, t42, _⟩ := hA
    have hE_14 := hE_13.trans hR
    have s0_14 := (hO 0 rfl).trans s0_13
    have s1_14 := (hO 1 rfl).trans s1_13
    have s6_14 := (hO 6 rfl).trans s6_13
    have s8_14 := (hO 8 rfl).trans s8_13
    have s10_14 := (hO 10 rfl).trans s10_13
    have s11_14 := (hO 11 rfl).trans s11_13
    have s12_14 := (hO 12 rfl).trans s12_13
    have hbb6_14 := hbb6_13.ext' hR
    have hbb8_14 := hbb8_13.ext' hR
    have hbb10_14 := hbb10_13.ext' hR
    have hsx1_14 := hsx1_13.ext' hR
    have hsx11_14 := hsx11_13.ext' hR
    have s42_14 : get a14 42 = Value.bool (decide (((i : Nat) : Int) < ((half n : Nat) : Int))) := t42
    clear hE_13 hN_13 hD_13 s0_13 s1_13 s6_13 s8_13 s10_13 s11_13 s12_13 hbb6_13 hbb8_13 hbb10_13 hsx1_13 hsx11_13
    refine tail_nil ?_
    refine wp_if (B := decide (((i : Nat) : Int) < ((half n : Nat) : Int))) s42_14 (fun hc2 => ?_) (fun hc2 => ?_)
    · -- T 2
      have hc2 := of_decide_eq_true hc2
      have hlt : i < half n := by omega
      refine wp_seq ?_
      refine region_lex [13] [(44, Pr.ex (i64 ((half n : Nat) : Int))), (45, Pr.ex (i64 ((i : Nat) : Int))), (46, Pr.ex (Dg.val (leaf))), (47, Pr.ex (x11)), (48, Pr.ex (Value.tuple #[Dg.val ((up (half n) i leaf (l.take (l.length - 1)).reverse).1), Value.bool ((up (half n) i leaf (l.take (l.length - 1)).reverse).2)])), (43, Pr.ex (Value.tuple #[Dg.val ((up (half n) i leaf (l.take (l.length - 1)).reverse).1), Value.bool ((up (half n) i leaf (l.take (l.length - 1)).reverse).2)])), (49, Pr.ex (Dg.val ((up (half n) i leaf (l.take (l.length - 1)).reverse).1))), (50, Pr.ex (Value.bool ((up (half n) i leaf (l.take (l.length - 1)).reverse).2))), (13, Pr.box' wd14.heap.size 24 [w32 (Dg.zero).a, w32 (Dg.zero).b, w32 (Dg.zero).c, w32 (Dg.zero).d])] 9 hN_14 hD_14 (by kernel_rfl) (by kernel_rfl) ?_ ?_
      · refine Asks.cons ?_ (Asks.cons ?_ (Asks.cons ?_ (Asks.cons ?_ (Asks.cons ?_ (Asks.cons ?_ (Asks.cons ?_ (Asks.cons ?_ (Asks.cons ?_ (Asks.zero _)))))))))
        · refine Ask.plain rfl rfl ?_
          intro aq wq hNq hO hR hT
          exact does_move (V := i64 ((half n : Nat) : Int)) ((hO 12 rfl).trans s12_14) ⟨Ext.refl _, rfl⟩
        · refine Ask.plain rfl rfl ?_
          intro aq wq hNq hO hR hT
          exact does_move (V := i64 ((i : Nat) : Int)) ((hO 1 rfl).trans s1_14) ⟨Ext.refl _, rfl⟩
        · refine Ask.plain rfl rfl ?_
          intro aq wq hNq hO hR hT
          exact does_loadD (o := 0) (n := 4) (mid := [w32 (leaf).a, w32 (leaf).b, w32 (leaf).c, w32 (leaf).d]) ((hO 6 rfl).trans s6_14) (hbb6_14.ext' hR) rfl rfl (Nat.le_of_ble_eq_true rfl) row_24 rfl ⟨Ext.refl _, rfl⟩
        · refine Ask.plain rfl rfl ?_
          intro aq wq hNq hO hR hT
          exact does_move (V := x11) ((hO 11 rfl).trans s11_14) ⟨Ext.refl _, rfl⟩
        · refine Ask.plain rfl rfl ?_
          intro aq wq hNq hO hR hT
          exact does_ret (vs := #[i64 ((half n : Nat) : Int), i64 ((i : Nat) : Int), Dg.val (leaf), x11]) call_40 (args4 (hT 44 rfl rfl) (hT 45 rfl rfl) (hT 46 rfl rfl) (hT 47 rfl rfl)) rfl ((ih _ (by omega) (half n) i leaf (l.take (l.length - 1)) (x11) wq ((hsx11_14.ext' hR).wide (Nat.zero_le _) (.inl rfl)) (by omega) (by omega) (by omega) (by simp only [List.length_take]; omega) rfl).mono fun v w2 h => ⟨h.2, h.1⟩)
        · refine Ask.plain rfl rfl ?_
          intro aq wq hNq hO hR hT
          exact does_move (V := Value.tuple #[Dg.val ((up (half n) i leaf (l.take (l.length - 1)).reverse).1), Value.bool ((up (half n) i leaf (l.take (l.length - 1)).reverse).2)]) (hT 48 rfl rfl) ⟨Ext.refl _, rfl⟩
        · refine Ask.plain rfl rfl ?_
          intro aq wq hNq hO hR hT
          exact does_extract (V := Dg.val ((up (half n) i leaf (l.take (l.length - 1)).reverse).1)) (hT 43 rfl rfl) rfl ⟨Ext.refl _, rfl⟩
        · refine Ask.plain rfl rfl ?_
          intro aq wq hNq hO hR hT
          exact does_extract (V := Value.bool ((up (half n) i leaf (l.take (l.length - 1)).reverse).2)) (hT 43 rfl rfl) rfl ⟨Ext.refl _, rfl⟩
        · refine Ask.fresh rfl rfl ?_
          intro aq wq hNq hO hR hT
          exact does_alloc zero_24 (fun b w2 he hlo hb => ⟨he, ⟨b, rfl, Nat.le_trans hR.size' hlo, hb⟩, ⟨b, rfl, hlo, hb.lt⟩⟩)
      intro a15 wd15 hN_15 hD_15 hO hR hA hU
      obtain ⟨_, _, _, _, _, _, t49, t50, t13, _⟩ := hA
      have hE_15 := hE_14.trans hR
      have s8_15 := (hO 8 rfl).trans s8_14
      have s10_15 := (hO 10 rfl).trans s10_14
      have hbb6_15 := hbb6_14.ext' hR
      have hbb8_15 := hbb8_14.ext' hR
      have hbb10_15 := hbb10_14.ext' hR
      have hsx1_15 := hsx1_14.ext' hR
      have hsx11_15 := hsx11_14.ext' hR
      have s49_15 : get a15 49 = Dg.val ((up (half n) i leaf (l.take (l.length - 1)).reverse).1) := t49
      have s50_15 : get a15 50 = Value.bool ((up (half n) i leaf (l.take (l.length - 1)).reverse).2) := t50
      obtain ⟨b13, s13_15, lo_b13, hbb13_15⟩ := t13
      have ne_b6_b13 : b6 ≠ b13 := fun e => Nat.lt_irrefl _ (Nat.lt_of_lt_of_le hbb6_14.lt (e ▸ lo_b13))
      have ne_b8_b13 : b8 ≠ b13 := fun e => Nat.lt_irrefl _ (Nat.lt_of_lt_of_le hbb8_14.lt (e ▸ lo_b13))
      have ne_b10_b13 : b10 ≠ b13 := fun e => Nat.lt_irrefl _ (Nat.lt_of_lt_of_le hbb10_14.lt (e ▸ lo_b13))
      have nb_x1_b13 := SlT.old hsx1_14 lo_b13
      have nb_x11_b13 := SlT.old hsx11_14 lo_b13
      have fr_b13 : w0.heap.size ≤ b13 := Nat.le_trans hE_14.size' lo_b13
      clear hE_14 hN_14 hD_14 s0_14 s1_14 s6_14 s8_14 s10_14 s11_14 s12_14 s42_14 hbb6_14 hbb8_14 hbb10_14 hsx1_14 hsx11_14
      refine tail_none rfl rfl (does_storeD (o := 0) (n := 4) (cs' := [w32 ((up (half n) i leaf (l.take (l.length - 1)).reverse).1).a, w32 ((up (half n) i leaf (l.take (l.length - 1)).reverse).1).b, w32 ((up (half n) i leaf (l.take (l.length - 1)).reverse).1).c, w32 ((up (half n) i leaf (l.take (l.length - 1)).reverse).1).d]) (V := Dg.val ((up (half n) i leaf (l.take (l.length - 1)).reverse).1)) s13_15 s49_15 hbb13_15 (Nat.le_of_ble_eq_true rfl) rfl siz_24 rfl rfl (fun wd16 hX hz hbb13_16 => ?_))
      have hE_16 := hE_15.since hX (fun k e => e ▸ fr_b13)
      have hbb6_16 := hbb6_15.ext hX ne_b6_b13
      have hbb8_16 := hbb8_15.ext hX ne_b8_b13
      have hbb10_16 := hbb10_15.ext hX ne_b10_b13
      have hsx1_16 := SlT.over hsx1_15 hX nb_x1_b13
      have hsx11_16 := SlT.over hsx11_15 hX nb_x11_b13
      clear hX hz hE_15 hbb6_15 hbb8_15 hbb10_15 hbb13_15 hsx1_15 hsx11_15
      refine tail_put rfl rfl hN_15 hD_15 (by decide) (does_assign (V := Value.bool ((up (half n) i leaf (l.take (l.length - 1)).reverse).2)) s50_15 (fun a17 hN_17 hD_17 hv hO => ?_))
      have s14_17 := hv
      have s8_17 := (hO 8 rfl).trans s8_15
      have s10_17 := (hO 10 rfl).trans s10_15
      have s13_17 := (hO 13 rfl).trans s13_15
      clear hO hv hN_15 hD_15 s8_15 s10_15 s13_15 s49_15 s50_15
      refine tail_nil ?_
      refine wp_seq ?_
      refine region_lex [] [(51, Pr.ex (Dg.val ((up (half n) i leaf (l.take (l.length - 1)).reverse).1))), (52, Pr.ex (Dg.val (z))), (53, Pr.ex (Dg.val (pair ((up (half n) i leaf (l.take (l.length - 1)).reverse).1) z))), (54, Pr.ex (Value.bool ((up (half n) i leaf (l.take (l.length - 1)).reverse).2)))] 4 hN_17 hD_17 (by kernel_rfl) (by kernel_rfl) ?_ ?_
      · refine Asks.cons ?_ (Asks.cons ?_ (Asks.cons ?_ (Asks.cons ?_ (Asks.zero _))))
        · refine Ask.plain rfl rfl ?_
          intro aq wq hNq hO hR hT
          exact does_loadD (o := 0) (n := 4) (mid := [w32 ((up (half n) i leaf (l.take (l.length - 1)).reverse).1).a, w32 ((up (half n) i leaf (l.take (l.length - 1)).reverse).1).b, w32 ((up (half n) i leaf (l.take (l.length - 1)).reverse).1).c, w32 ((up (half n) i leaf (l.take (l.length - 1)).reverse).1).d]) ((hO 13 rfl).trans s13_17) (hbb13_16.ext' hR) rfl rfl (Nat.le_of_ble_eq_true rfl) row_24 rfl ⟨Ext.refl _, rfl⟩
        · refine Ask.plain rfl rfl ?_
          intro aq wq hNq hO hR hT
          exact does_loadD (o := 0) (n := 4) (mid := [w32 (z).a, w32 (z).b, w32 (z).c, w32 (z).d]) ((hO 10 rfl).trans s10_17) (hbb10_16.ext' hR) rfl rfl (Nat.le_of_ble_eq_true rfl) row_24 rfl ⟨Ext.refl _, rfl⟩
        · refine Ask.plain rfl rfl ?_
          intro aq wq hNq hO hR hT
          exact does_ret (vs := #[Dg.val ((up (half n) i leaf (l.take (l.length - 1)).reverse).1), Dg.val (z)]) call_17 (args2 (hT 51 rfl rfl) (hT 52 rfl rfl)) rfl ((pairR ((up (half n) i leaf (l.take (l.length - 1)).reverse).1) (z) wq).mono fun v w2 h => ⟨h.2, h.1⟩)
        · refine Ask.plain rfl rfl ?_
          intro aq wq hNq hO hR hT
          exact does_move (V := Value.bool ((up (half n) i leaf (l.take (l.length - 1)).reverse).2)) ((hO 14 rfl).trans s14_17) ⟨Ext.refl _, rfl⟩
      intro a18 wd18 hN_18 hD_18 hO hR hA hU
      obtain ⟨_, _, t53, t54, _⟩ := hA
      have hE_18 := hE_16.trans hR
      have s8_18 := (hO 8 rfl).trans s8_17
      have hbb6_18 := hbb6_16.ext' hR
      have hbb8_18 := hbb8_16.ext' hR
      have hbb10_18 := hbb10_16.ext' hR
      have hbb13_18 := hbb13_16.ext' hR
      have hsx1_18 := hsx1_16.ext' hR
      have hsx11_18 := hsx11_16.ext' hR
      have s53_18 : get a18 53 = Dg.val (pair ((up (half n) i leaf (l.take (l.length - 1)).reverse).1) z) := t53
      have s54_18 : get a18 54 = Value.bool ((up (half n) i leaf (l.take (l.length - 1)).reverse).2) := t54
      clear hE_16 hN_17 hD_17 s8_17 s10_17 s13_17 s14_17 hbb6_16 hbb8_16 hbb10_16 hbb13_16 hsx1_16 hsx11_16
      refine tail_none rfl rfl (does_storeD (o := 0) (n := 4) (cs' := [w32 (pair ((up (half n) i leaf (l.take (l.length - 1)).reverse).1) z).a, w32 (pair ((up (half n) i leaf (l.take (l.length - 1)).reverse).1) z).b, w32 (pair ((up (half n) i leaf (l.take (l.length - 1)).reverse).1) z).c, w32 (pair ((up (half n) i leaf (l.take (l.length - 1)).reverse).1) z).d]) (V := Dg.val (pair ((up (half n) i leaf (l.take (l.length - 1)).reverse).1) z)) s8_18 s53_18 hbb8_18 (Nat.le_of_ble_eq_true rfl) rfl siz_24 rfl rfl (fun wd19 hX hz hbb8_19 => ?_))
      have hE_19 := hE_18.since hX (fun k e => e ▸ fr_b8)
      have hbb6_19 := hbb6_18.ext hX ne_b6_b8
      have hbb10_19 := hbb10_18.ext hX ne_b8_b10.symm
      have hbb13_19 := hbb13_18.ext hX ne_b8_b13.symm
      have hsx1_19 := SlT.over hsx1_18 hX nb_x1_b8
      have hsx11_19 := SlT.over hsx11_18 hX (SlT.low hsx11_18 fr_b8)
      clear hX hz hE_18 hbb6_18 hbb8_18 hbb10_18 hbb13_18 hsx1_18 hsx11_18
      refine tail_put rfl rfl hN_18 hD_18 (by decide) (does_assign (V := Value.bool ((up (half n) i leaf (l.take (l.length - 1)).reverse).2)) s54_18 (fun a20 hN_20 hD_20 hv hO => ?_))
      have s9_20 := hv
      have s8_20 := (hO 8 rfl).trans s8_18
      clear hO hv hN_18 hD_18 s8_18 s53_18 s54_18
      refine tail_nil ?_
      refine wp_ret ?_
      refine res_two (V1 := Dg.val (pair ((up (half n) i leaf (l.take (l.length - 1)).reverse).1) z)) (V2 := Value.bool ((up (half n) i leaf (l.take (l.length - 1)).reverse).2)) rfl hD_20 (ResIs.cell s8_20 hbb8_19 row_24 rfl rfl) s9_20 ?_
      have hr := rev_of hz (by omega)
      exact ⟨by show Value.tuple _ = Value.tuple _; rw [hr, up_lo1 h2 hlt, up_lo2 h2 hlt], hE_19⟩
    have hc2 := of_decide_eq_false hc2
    have hge : ¬ i < half n := by omega
    refine wp_skip ?_
    refine wp_seq ?_
    refine region_lex [15] [(56, Pr.ex (i64 ((n : Nat) : Int))), (57, Pr.ex (i64 ((half n : Nat) : Int))), (58, Pr.ex (i64 ((n - (half n) : Nat) : Int))), (59, Pr.ex (i64 ((i : Nat) : Int))), (60, Pr.ex (i64 ((half n : Nat) : Int))), (61, Pr.ex (i64 ((i - (half n) : Nat) : Int))), (62, Pr.ex (Dg.val (leaf))), (63, Pr.ex (x11)), (64, Pr.ex (Value.tuple #[Dg.val ((up (n - (half n)) (i - (half n)) leaf (l.take (l.length - 1)).reverse).1), Value.bool ((up (n - (half n)) (i - (half n)) leaf (l.take (l.length - 1)).reverse).2)])), (55, Pr.ex (Value.tuple #[Dg.val ((up (n - (half n)) (i - (half n)) leaf (l.take (l.length - 1)).reverse).1), Value.bool ((up (n - (half n)) (i - (half n)) leaf (l.take (l.length - 1)).reverse).2)])), (65, Pr.ex (Dg.val ((up (n - (half n)) (i - (half n)) leaf (l.take (l.length - 1)).reverse).1))), (66, Pr.ex (Value.bool ((up (n - (half n)) (i - (half n)) leaf (l.take (l.length - 1)).reverse).2))), (15, Pr.box' wd14.heap.size 24 [w32 (Dg.zero).a, w32 (Dg.zero).b, w32 (Dg.zero).c, w32 (Dg.zero).d])] 13 hN_14 hD_14 (by kernel_rfl) (by kernel_rfl) ?_ ?_
    · refine Asks.cons ?_ (Asks.cons ?_ (Asks.cons ?_ (Asks.cons ?_ (Asks.cons ?_ (Asks.cons ?_ (Asks.cons ?_ (Asks.cons ?_ (Asks.cons ?_ (Asks.cons ?_ (Asks.cons ?_ (Asks.cons ?_ (Asks.cons ?_ (Asks.zero _)))))))))))))
      · refine Ask.plain rfl rfl ?_
        intro aq wq hNq hO hR hT
        exact does_move (V := i64 ((n : Nat) : Int)) ((hO 0 rfl).trans s0_14) ⟨Ext.refl _, rfl⟩
      · refine Ask.plain rfl rfl ?_
        intro aq wq hNq hO hR hT
        exact does_move (V := i64 ((half n : Nat) : Int)) ((hO 12 rfl).trans s12_14) ⟨Ext.refl _, rfl⟩
      · refine Ask.plain rfl rfl ?_
        intro aq wq hNq hO hR hT
        exact does_sub (a := ((n : Nat) : Int)) (b := ((half n : Nat) : Int)) (r := ((n - (half n) : Nat) : Int)) (hT 56 rfl rfl) (hT 57 rfl rfl) (by omega) (by omega) (by omega) ⟨Ext.refl _, rfl⟩
      · refine Ask.plain rfl rfl ?_
        intro aq wq hNq hO hR hT
        exact does_move (V := i64 ((i : Nat) : Int)) ((hO 1 rfl).trans s1_14) ⟨Ext.refl _, rfl⟩
      · refine Ask.plain rfl rfl ?_
        intro aq wq hNq hO hR hT
        exact does_move (V := i64 ((half n : Nat) : Int)) ((hO 12 rfl).trans s12_14) ⟨Ext.refl _, rfl⟩
      · refine Ask.plain rfl rfl ?_
        intro aq wq hNq hO hR hT
        exact does_sub (a := ((i : Nat) : Int)) (b := ((half n : Nat) : Int)) (r := ((i - (half n) : Nat) : Int)) (hT 59 rfl rfl) (hT 60 rfl rfl) (by omega) (by omega) (by omega) ⟨Ext.refl _, rfl⟩
      · refine Ask.plain rfl rfl ?_
        intro aq wq hNq hO hR hT
        exact does_loadD (o := 0) (n := 4) (mid := [w32 (leaf).a, w32 (leaf).b, w32 (leaf).c, w32 (leaf).d]) ((hO 6 rfl).trans s6_14) (hbb6_14.ext' hR) rfl rfl (Nat.le_of_ble_eq_true rfl) row_24 rfl ⟨Ext.refl _, rfl⟩
      · refine Ask.plain rfl rfl ?_
        intro aq wq hNq hO hR hT
        exact does_move (V := x11) ((hO 11 rfl).trans s11_14) ⟨Ext.refl _, rfl⟩
      · refine Ask.plain rfl rfl ?_
        intro aq wq hNq hO hR hT
        exact does_ret (vs := #[i64 ((n - (half n) : Nat) : Int), i64 ((i - (half n) : Nat) : Int), Dg.val (leaf), x11]) call_40 (args4 (hT 58 rfl rfl) (hT 61 rfl rfl) (hT 62 rfl rfl) (hT 63 rfl rfl)) rfl ((ih _ (by omega) (n - (half n)) (i - (half n)) leaf (l.take (l.length - 1)) (x11) wq ((hsx11_14.ext' hR).wide (Nat.zero_le _) (.inl rfl)) (by omega) (by omega) (by omega) (by simp only [List.length_take]; omega) rfl).mono fun v w2 h => ⟨h.2, h.1⟩)
      · refine Ask.plain rfl rfl ?_
        intro aq wq hNq hO hR hT
        exact does_move (V := Value.tuple #[Dg.val ((up (n - (half n)) (i - (half n)) leaf (l.take (l.length - 1)).reverse).1), Value.bool ((up (n - (half n)) (i - (half n)) leaf (l.take (l.length - 1)).reverse).2)]) (hT 64 rfl rfl) ⟨Ext.refl _, rfl⟩
      · refine Ask.plain rfl rfl ?_
        intro aq wq hNq hO hR hT
        exact does_extract (V := Dg.val ((up (n - (half n)) (i - (half n)) leaf (l.take (l.length - 1)).reverse).1)) (hT 55 rfl rfl) rfl ⟨Ext.refl _, rfl⟩
      · refine Ask.plain rfl rfl ?_
        intro aq wq hNq hO hR hT
        exact does_extract (V := Value.bool ((up (n - (half n)) (i - (half n)) leaf (l.take (l.length - 1)).reverse).2)) (hT 55 rfl rfl) rfl ⟨Ext.refl _, rfl⟩
      · refine Ask.fresh rfl rfl ?_
        intro aq wq hNq hO hR hT
        exact does_alloc zero_24 (fun b w2 he hlo hb => ⟨he, ⟨b, rfl, Nat.le_trans hR.size' hlo, hb⟩, ⟨b, rfl, hlo, hb.lt⟩⟩)
    intro a21 wd21 hN_21 hD_21 hO hR hA hU
    obtain ⟨_, _, _, _, _, _, _, _, _, _, t65, t66, t15, _⟩ := hA
    have hE_21 := hE_14.trans hR
    have s8_21 := (hO 8 rfl).trans s8_14
    have s10_21 := (hO 10 rfl).trans s10_14
    have hbb6_21 := hbb6_14.ext' hR
    have hbb8_21 := hbb8_14.ext' hR
    have hbb10_21 := hbb10_14.ext' hR
    have hsx1_21 := hsx1_14.ext' hR
    have hsx11_21 := hsx11_14.ext' hR
    have s65_21 : get a21 65 = Dg.val ((up (n - (half n)) (i - (half n)) leaf (l.take (l.length - 1)).reverse).1) := t65
    have s66_21 : get a21 66 = Value.bool ((up (n - (half n)) (i - (half n)) leaf (l.take (l.length - 1)).reverse).2) := t66
    obtain ⟨b15, s15_21, lo_b15, hbb15_21⟩ := t15
    have ne_b6_b15 : b6 ≠ b15 := fun e => Nat.lt_irrefl _ (Nat.lt_of_lt_of_le hbb6_14.lt (e ▸ lo_b15))
    have ne_b8_b15 : b8 ≠ b15 := fun e => Nat.lt_irrefl _ (Nat.lt_of_lt_of_le hbb8_14.lt (e ▸ lo_b15))
    have ne_b10_b15 : b10 ≠ b15 := fun e => Nat.lt_irrefl _ (Nat.lt_of_lt_of_le hbb10_14.lt (e ▸ lo_b15))
    have nb_x1_b15 := SlT.old hsx1_14 lo_b15
    have nb_x11_b15 := SlT.old hsx11_14 lo_b15
    have fr_b15 : w0.heap.size ≤ b15 := Nat.le_trans hE_14.size' lo_b15
    clear hE_14 hN_14 hD_14 s0_14 s1_14 s6_14 s8_14 s10_14 s11_14 s12_14 s42_14 hbb6_14 hbb8_14 hbb10_14 hsx1_14 hsx11_14
    refine tail_none rfl rfl (does_storeD (o := 0) (n := 4) (cs' := [w32 ((up (n - (half n)) (i - (half n)) leaf (l.take (l.length - 1)).reverse).1).a, w32 ((up (n - (half n)) (i - (half n)) leaf (l.take (l.length - 1)).reverse).1).b, w32 ((up (n - (half n)) (i - (half n)) leaf (l.take (l.length - 1)).reverse).1).c, w32 ((up (n - (half n)) (i - (half n)) leaf (l.take (l.length - 1)).reverse).1).d]) (V := Dg.val ((up (n - (half n)) (i - (half n)) leaf (l.take (l.length - 1)).reverse).1)) s15_21 s65_21 hbb15_21 (Nat.le_of_ble_eq_true rfl) rfl siz_24 rfl rfl (fun wd22 hX hz hbb15_22 => ?_))
    have hE_22 := hE_21.since hX (fun k e => e ▸ fr_b15)
    have hbb6_22 := hbb6_21.ext hX ne_b6_b15
    have hbb8_22 := hbb8_21.ext hX ne_b8_b15
    have hbb10_22 := hbb10_21.ext hX ne_b10_b15
    have hsx1_22 := SlT.over hsx1_21 hX nb_x1_b15
    have hsx11_22 := SlT.over hsx11_21 hX nb_x11_b15
    clear hX hz hE_21 hbb6_21 hbb8_21 hbb10_21 hbb15_21 hsx1_21 hsx11_21
    refine tail_put rfl rfl hN_21 hD_21 (by decide) (does_assign (V := Value.bool ((up (n - (half n)) (i - (half n)) leaf (l.take (l.length - 1)).reverse).2)) s66_21 (fun a23 hN_23 hD_23 hv hO => ?_))
    have s16_23 := hv
    have s8_23 := (hO 8 rfl).trans s8_21
    have s10_23 := (hO 10 rfl).trans s10_21
    have s15_23 := (hO 15 rfl).trans s15_21
    clear hO hv hN_21 hD_21 s8_21 s10_21 s15_21 s65_21 s66_21
    refine tail_nil ?_
    refine wp_seq ?_
    refine region_lex [] [(67, Pr.ex (Dg.val (z))), (68, Pr.ex (Dg.val ((up (n - (half n)) (i - (half n)) leaf (l.take (l.length - 1)).reverse).1))), (69, Pr.ex (Dg.val (pair z ((up (n - (half n)) (i - (half n)) leaf (l.take (l.length - 1)).reverse).1)))), (70, Pr.ex (Value.bool ((up (n - (half n)) (i - (half n)) leaf (l.take (l.length - 1)).reverse).2)))] 4 hN_23 hD_23 (by kernel_rfl) (by kernel_rfl) ?_ ?_
    · refine Asks.cons ?_ (Asks.cons ?_ (Asks.cons ?_ (Asks.cons ?_ (Asks.zero _))))
      · refine Ask.plain rfl rfl ?_
        intro aq wq hNq hO hR hT
        exact does_loadD (o := 0) (n := 4) (mid := [w32 (z).a, w32 (z).b, w32 (z).c, w32 (z).d]) ((hO 10 rfl).trans s10_23) (hbb10_22.ext' hR) rfl rfl (Nat.le_of_ble_eq_true rfl) row_24 rfl ⟨Ext.refl _, rfl⟩
      · refine Ask.plain rfl rfl ?_
        intro aq wq hNq hO hR hT
        exact does_loadD (o := 0) (n := 4) (mid := [w32 ((up (n - (half n)) (i - (half n)) leaf (l.take (l.length - 1)).reverse).1).a, w32 ((up (n - (half n)) (i - (half n)) leaf (l.take (l.length - 1)).reverse).1).b, w32 ((up (n - (half n)) (i - (half n)) leaf (l.take (l.length - 1)).reverse).1).c, w32 ((up (n - (half n)) (i - (half n)) leaf (l.take (l.length - 1)).reverse).1).d]) ((hO 15 rfl).trans s15_23) (hbb15_22.ext' hR) rfl rfl (Nat.le_of_ble_eq_true rfl) row_24 rfl ⟨Ext.refl _, rfl⟩
      · refine Ask.plain rfl rfl ?_
        intro aq wq hNq hO hR hT
        exact does_ret (vs := #[Dg.val (z), Dg.val ((up (n - (half n)) (i - (half n)) leaf (l.take (l.length - 1)).reverse).1)]) call_17 (args2 (hT 67 rfl rfl) (hT 68 rfl rfl)) rfl ((pairR (z) ((up (n - (half n)) (i - (half n)) leaf (l.take (l.length - 1)).reverse).1) wq).mono fun v w2 h => ⟨h.2, h.1⟩)
      · refine Ask.plain rfl rfl ?_
        intro aq wq hNq hO hR hT
        exact does_move (V := Value.bool ((up (n - (half n)) (i - (half n)) leaf (l.take (l.length - 1)).reverse).2)) ((hO 16 rfl).trans s16_23) ⟨Ext.refl _, rfl⟩
    intro a24 wd24 hN_24 hD_24 hO hR hA hU
    obtain ⟨_, _, t69, t70, _⟩ := hA
    have hE_24 := hE_22.trans hR
    have s8_24 := (hO 8 rfl).trans s8_23
    have hbb6_24 := hbb6_22.ext' hR
    have hbb8_24 := hbb8_22.ext' hR
    have hbb10_24 := hbb10_22.ext' hR
    have hbb15_24 := hbb15_22.ext' hR
    have hsx1_24 := hsx1_22.ext' hR
    have hsx11_24 := hsx11_22.ext' hR
    have s69_24 : get a24 69 = Dg.val (pair z ((up (n - (half n)) (i - (half n)) leaf (l.take (l.length - 1)).reverse).1)) := t69
    have s70_24 : get a24 70 = Value.bool ((up (n - (half n)) (i - (half n)) leaf (l.take (l.length - 1)).reverse).2) := t70
    clear hE_22 hN_23 hD_23 s8_23 s10_23 s15_23 s16_23 hbb6_22 hbb8_22 hbb10_22 hbb15_22 hsx1_22 hsx11_22
    refine tail_none rfl rfl (does_storeD (o := 0) (n := 4) (cs' := [w32 (pair z ((up (n - (half n)) (i - (half n)) leaf (l.take (l.length - 1)).reverse).1)).a, w32 (pair z ((up (n - (half n)) (i - (half n)) leaf (l.take (l.length - 1)).reverse).1)).b, w32 (pair z ((up (n - (half n)) (i - (half n)) leaf (l.take (l.length - 1)).reverse).1)).c, w32 (pair z ((up (n - (half n)) (i - (half n)) leaf (l.take (l.length - 1)).reverse).1)).d]) (V := Dg.val (pair z ((up (n - (half n)) (i - (half n)) leaf (l.take (l.length - 1)).reverse).1))) s8_24 s69_24 hbb8_24 (Nat.le_of_ble_eq_true rfl) rfl siz_24 rfl rfl (fun wd25 hX hz hbb8_25 => ?_))
    have hE_25 := hE_24.since hX (fun k e => e ▸ fr_b8)
    have hbb6_25 := hbb6_24.ext hX ne_b6_b8
    have hbb10_25 := hbb10_24.ext hX ne_b8_b10.symm
    have hbb15_25 := hbb15_24.ext hX ne_b8_b15.symm
    have hsx1_25 := SlT.over hsx1_24 hX nb_x1_b8
    have hsx11_25 := SlT.over hsx11_24 hX (SlT.low hsx11_24 fr_b8)
    clear hX hz hE_24 hbb6_24 hbb8_24 hbb10_24 hbb15_24 hsx1_24 hsx11_24
    refine tail_put rfl rfl hN_24 hD_24 (by decide) (does_assign (V := Value.bool ((up (n - (half n)) (i - (half n)) leaf (l.take (l.length - 1)).reverse).2)) s70_24 (fun a26 hN_26 hD_26 hv hO => ?_))
    have s9_26 := hv
    have s8_26 := (hO 8 rfl).trans s8_24
    clear hO hv hN_24 hD_24 s8_24 s69_24 s70_24
    refine tail_nil ?_
    refine wp_ret ?_
    refine res_two (V1 := Dg.val (pair z ((up (n - (half n)) (i - (half n)) leaf (l.take (l.length - 1)).reverse).1))) (V2 := Value.bool ((up (n - (half n)) (i - (half n)) leaf (l.take (l.length - 1)).reverse).2)) rfl hD_26 (ResIs.cell s8_26 hbb8_25 row_24 rfl rfl) s9_26 ?_
    have hr := rev_of hz (by omega)
    exact ⟨by show Value.tuple _ = Value.tuple _; rw [hr, up_hi1 h2 hge, up_hi2 h2 hge], hE_25⟩
theorem upR (n i : Nat) (leaf : Dg) (l : List Dg) (x1 : Value) (w0 : World) (hx1 : SlT DG 0 0 l x1 w0) (h1 : 1 ≤ n) (hi : i < n) (hnn : n ≤ 100000) (hn : l.length ≤ 100000) :
    Gives Tryd.prog 40 #[i64 ((n : Nat) : Int), i64 ((i : Nat) : Int), Dg.val (leaf), x1] w0 (Pr.ex (Value.tuple #[Dg.val (up n i leaf l.reverse).1, Value.bool (up n i leaf l.reverse).2])) := upR_r _ n i leaf l x1 w0 hx1 h1 hi hnn hn rfl

end Go.Proofs.YtncamojfjhbanaaDoor
