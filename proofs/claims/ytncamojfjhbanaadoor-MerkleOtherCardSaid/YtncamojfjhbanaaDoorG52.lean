/- The walks of functions of the program: printed. -/
import Derived.Test.YtncamojfjhbanaaDoorK
import Derived.Test.YtncamojfjhbanaaDoorG3
import Derived.Test.YtncamojfjhbanaaDoorG6
import Derived.Test.YtncamojfjhbanaaDoorG7
import Derived.Test.YtncamojfjhbanaaDoorG11
import Derived.Test.YtncamojfjhbanaaDoorG12
import Derived.Test.YtncamojfjhbanaaDoorG13
import Derived.Test.YtncamojfjhbanaaDoorF0
set_option maxRecDepth 100000
namespace Go.Proofs.YtncamojfjhbanaaDoor
open Go Go.RowKit Sk Sd
theorem alive04  (w0 : World) (hL : Laid w0) :
    Gives Tryd.prog 10 #[] w0 (Pr.ex (Value.bool true)) := by
  refine enter (N := 56) Tryd.func10 rfl rfl ?_
  intro a0 hN_0 hD_0 hA
  clear hA
  have hE_0 : Ext w0 w0 := Ext.refl w0
  refine wp_seq ?_
  refine region_lex [] [(0, Pr.ex (Value.bool (false)))] 1 hN_0 hD_0 (by kernel_rfl) (by kernel_rfl) ?_ ?_
  · refine Asks.cons ?_ (Asks.zero _)
    · refine Ask.plain rfl rfl ?_
      intro aq wq hNq hO hR hT
      exact does_assign (V := Value.bool (false)) rfl ⟨Ext.refl _, rfl⟩
  intro a1 wd1 hN_1 hD_1 hO hR hA hU
  obtain ⟨_, _⟩ := hA
  have hE_1 := hE_0.trans hR
  clear hE_0 hN_0 hD_0
  refine tail_nil ?_
  refine wp_seq ?_
  refine region_lex [1, 2, 3] [(9, Pr.ex (Dg.val (of (([97] : List UInt8))))), (10, Pr.ex (Dg.val (of (([98] : List UInt8))))), (11, Pr.ex (Dg.val (of (([99] : List UInt8))))), (1, Pr.box' wd1.heap.size 24 [w32 (Dg.zero).a, w32 (Dg.zero).b, w32 (Dg.zero).c, w32 (Dg.zero).d]), (2, Pr.box' wd1.heap.size 24 [w32 (Dg.zero).a, w32 (Dg.zero).b, w32 (Dg.zero).c, w32 (Dg.zero).d]), (3, Pr.box' wd1.heap.size 24 [w32 (Dg.zero).a, w32 (Dg.zero).b, w32 (Dg.zero).c, w32 (Dg.zero).d])] 6 hN_1 hD_1 (by kernel_rfl) (by kernel_rfl) ?_ ?_
  · refine Asks.cons ?_ (Asks.cons ?_ (Asks.cons ?_ (Asks.cons ?_ (Asks.cons ?_ (Asks.cons ?_ (Asks.zero _))))))
    · refine Ask.plain rfl rfl ?_
      intro aq wq hNq hO hR hT
      exact does_ret (vs := #[str (([97] : List UInt8))]) call_26 (args1 rfl) rfl ((ofR (([97] : List UInt8)) wq (by first | assumption | decide | omega)).mono fun v w2 h => ⟨h.2, h.1⟩)
    · refine Ask.plain rfl rfl ?_
      intro aq wq hNq hO hR hT
      exact does_ret (vs := #[str (([98] : List UInt8))]) call_26 (args1 rfl) rfl ((ofR (([98] : List UInt8)) wq (by first | assumption | decide | omega)).mono fun v w2 h => ⟨h.2, h.1⟩)
    · refine Ask.plain rfl rfl ?_
      intro aq wq hNq hO hR hT
      exact does_ret (vs := #[str (([99] : List UInt8))]) call_26 (args1 rfl) rfl ((ofR (([99] : List UInt8)) wq (by first | assumption | decide | omega)).mono fun v w2 h => ⟨h.2, h.1⟩)
    · refine Ask.fresh rfl rfl ?_
      intro aq wq hNq hO hR hT
      exact does_alloc zero_24 (fun b w2 he hlo hb => ⟨he, ⟨b, rfl, Nat.le_trans hR.size' hlo, hb⟩, ⟨b, rfl, hlo, hb.lt⟩⟩)
    · refine Ask.fresh rfl rfl ?_
      intro aq wq hNq hO hR hT
      exact does_alloc zero_24 (fun b w2 he hlo hb => ⟨he, ⟨b, rfl, Nat.le_trans hR.size' hlo, hb⟩, ⟨b, rfl, hlo, hb.lt⟩⟩)
    · refine Ask.fresh rfl rfl ?_
      intro aq wq hNq hO hR hT
      exact does_alloc zero_24 (fun b w2 he hlo hb => ⟨he, ⟨b, rfl, Nat.le_trans hR.size' hlo, hb⟩, ⟨b, rfl, hlo, hb.lt⟩⟩)
  intro a2 wd2 hN_2 hD_2 hO hR hA hU
  obtain ⟨t9, t10, t11, t1, t2, t3, _⟩ := hA
  have hE_2 := hE_1.trans hR
  have s9_2 : get a2 9 = Dg.val (of (([97] : List UInt8))) := t9
  have s10_2 : get a2 10 = Dg.val (of (([98] : List UInt8))) := t10
  have s11_2 : get a2 11 = Dg.val (of (([99] : List UInt8))) := t11
  obtain ⟨b1, s1_2, lo_b1, hbb1_2⟩ := t1
  have fr_b1 : w0.heap.size ≤ b1 := Nat.le_trans hE_1.size' lo_b1
  obtain ⟨b2, s2_2, lo_b2, hbb2_2⟩ := t2
  have fr_b2 : w0.heap.size ≤ b2 := Nat.le_trans hE_1.size' lo_b2
  obtain ⟨b3, s3_2, lo_b3, hbb3_2⟩ := t3
  have fr_b3 : w0.heap.size ≤ b3 := Nat.le_trans hE_1.size' lo_b3
  obtain ⟨u0, ⟨u1, ⟨u2, _⟩⟩⟩ := hU
  have ne_b1_b2 : b1 ≠ b2 := fun e => u0 2 (by decide) (by rw [s1_2, s2_2, e])
  have ne_b1_b3 : b1 ≠ b3 := fun e => u0 3 (by decide) (by rw [s1_2, s3_2, e])
  have ne_b2_b3 : b2 ≠ b3 := fun e => u1 3 (by decide) (by rw [s2_2, s3_2, e])
  clear hE_1 hN_1 hD_1
  refine tail_none rfl rfl (does_storeD (o := 0) (n := 4) (cs' := [w32 (of (([97] : List UInt8))).a, w32 (of (([97] : List UInt8))).b, w32 (of (([97] : List UInt8))).c, w32 (of (([97] : List UInt8))).d]) (V := Dg.val (of (([97] : List UInt8)))) s1_2 s9_2 hbb1_2 (Nat.le_of_ble_eq_true rfl) rfl siz_24 rfl rfl (fun wd3 hX hz hbb1_3 => ?_))
  have hE_3 := hE_2.since hX (fun k e => e ▸ fr_b1)
  have hbb2_3 := hbb2_2.ext hX ne_b1_b2.symm
  have hbb3_3 := hbb3_2.ext hX ne_b1_b3.symm
  clear hX hz hE_2 hbb1_2 hbb2_2 hbb3_2
  refine tail_none rfl rfl (does_storeD (o := 0) (n := 4) (cs' := [w32 (of (([98] : List UInt8))).a, w32 (of (([98] : List UInt8))).b, w32 (of (([98] : List UInt8))).c, w32 (of (([98] : List UInt8))).d]) (V := Dg.val (of (([98] : List UInt8)))) s2_2 s10_2 hbb2_3 (Nat.le_of_ble_eq_true rfl) rfl siz_24 rfl rfl (fun wd4 hX hz hbb2_4 => ?_))
  have hE_4 := hE_3.since hX (fun k e => e ▸ fr_b2)
  have hbb1_4 := hbb1_3.ext hX ne_b1_b2
  have hbb3_4 := hbb3_3.ext hX ne_b2_b3.symm
  clear hX hz hE_3 hbb1_3 hbb2_3 hbb3_3
  refine tail_none rfl rfl (does_storeD (o := 0) (n := 4) (cs' := [w32 (of (([99] : List UInt8))).a, w32 (of (([99] : List UInt8))).b, w32 (of (([99] : List UInt8))).c, w32 (of (([99] : List UInt8))).d]) (V := Dg.val (of (([99] : List UInt8)))) s3_2 s11_2 hbb3_4 (Nat.le_of_ble_eq_true rfl) rfl siz_24 rfl rfl (fun wd5 hX hz hbb3_5 => ?_))
  have hE_5 := hE_4.since hX (fun k e => e ▸ fr_b3)
  have hbb1_5 := hbb1_4.ext hX ne_b1_b3
  have hbb2_5 := hbb2_4.ext hX ne_b2_b3
  clear hX hz hE_4 hbb1_4 hbb2_4 hbb3_4
  refine tail_nil ?_
  refine wp_seq ?_
  refine region_lex [] [(12, Pr.ex (Dg.val (of (([97] : List UInt8))))), (13, Pr.ex (Dg.val (of (([98] : List UInt8))))), (14, Pr.ex (Dg.val (of (([99] : List UInt8))))), (15, Pr.own' DG wd5.heap.size 24 ([of (([97] : List UInt8)), of (([98] : List UInt8)), of (([99] : List UInt8))])), (4, Pr.own' DG wd5.heap.size 24 ([of (([97] : List UInt8)), of (([98] : List UInt8)), of (([99] : List UInt8))]))] 5 hN_2 hD_2 (by kernel_rfl) (by kernel_rfl) ?_ ?_
  · refine Asks.cons ?_ (Asks.cons ?_ (Asks.cons ?_ (Asks.cons ?_ (Asks.cons ?_ (Asks.zero _)))))
    · refine Ask.plain rfl rfl ?_
      intro aq wq hNq hO hR hT
      exact does_loadD (o := 0) (n := 4) (mid := [w32 (of (([97] : List UInt8))).a, w32 (of (([97] : List UInt8))).b, w32 (of (([97] : List UInt8))).c, w32 (of (([97] : List UInt8))).d]) ((hO 1 rfl).trans s1_2) (hbb1_5.ext' hR) rfl rfl (Nat.le_of_ble_eq_true rfl) row_24 rfl ⟨Ext.refl _, rfl⟩
    · refine Ask.plain rfl rfl ?_
      intro aq wq hNq hO hR hT
      exact does_loadD (o := 0) (n := 4) (mid := [w32 (of (([98] : List UInt8))).a, w32 (of (([98] : List UInt8))).b, w32 (of (([98] : List UInt8))).c, w32 (of (([98] : List UInt8))).d]) ((hO 2 rfl).trans s2_2) (hbb2_5.ext' hR) rfl rfl (Nat.le_of_ble_eq_true rfl) row_24 rfl ⟨Ext.refl _, rfl⟩
    · refine Ask.plain rfl rfl ?_
      intro aq wq hNq hO hR hT
      exact does_loadD (o := 0) (n := 4) (mid := [w32 (of (([99] : List UInt8))).a, w32 (of (([99] : List UInt8))).b, w32 (of (([99] : List UInt8))).c, w32 (of (([99] : List UInt8))).d]) ((hO 3 rfl).trans s3_2) (hbb3_5.ext' hR) rfl rfl (Nat.le_of_ble_eq_true rfl) row_24 rfl ⟨Ext.refl _, rfl⟩
    · refine Ask.plain rfl rfl ?_
      intro aq wq hNq hO hR hT
      exact does_sliceN (T := DG) (xs := [of (([97] : List UInt8)), of (([98] : List UInt8)), of (([99] : List UInt8))]) (vs := [Dg.val (of (([97] : List UInt8))), Dg.val (of (([98] : List UInt8))), Dg.val (of (([99] : List UInt8)))]) app_27 rfl (parts3 (hT 12 rfl rfl) (hT 13 rfl rfl) (hT 14 rfl rfl)) rfl (by decide) (by decide) rfl (fun v w2 he _ ho => ⟨he, OwnT.base ho hR.size'⟩)
    · refine Ask.plain rfl rfl ?_
      intro aq wq hNq hO hR hT
      exact does_assign rfl ⟨Ext.refl _, (hT 15 rfl rfl)⟩
  intro a6 wd6 hN_6 hD_6 hO hR hA hU
  obtain ⟨_, _, _, _, t4, _⟩ := hA
  have hE_6 := hE_5.trans hR
  have s1_6 := (hO 1 rfl).trans s1_2
  have s2_6 := (hO 2 rfl).trans s2_2
  have s3_6 := (hO 3 rfl).trans s3_2
  have hbb1_6 := hbb1_5.ext' hR
  have hbb2_6 := hbb2_5.ext' hR
  have hbb3_6 := hbb3_5.ext' hR
  obtain ⟨x4, s4_6⟩ : ∃ x, get a6 4 = x := ⟨_, rfl⟩
  replace t4 : OwnT DG wd5.heap.size 24 ([of (([97] : List UInt8)), of (([98] : List UInt8)), of (([99] : List UInt8))]) x4 wd6 := by rw [← s4_6]; exact t4
  have nbo_x4_b1 : x4.ownBlock ≠ some b1 := fun e => Nat.lt_irrefl _ (Nat.lt_of_lt_of_le hbb1_5.lt (OwnT.block_lt t4 e).1)
  have nbo_x4_b2 : x4.ownBlock ≠ some b2 := fun e => Nat.lt_irrefl _ (Nat.lt_of_lt_of_le hbb2_5.lt (OwnT.block_lt t4 e).1)
  have nbo_x4_b3 : x4.ownBlock ≠ some b3 := fun e => Nat.lt_irrefl _ (Nat.lt_of_lt_of_le hbb3_5.lt (OwnT.block_lt t4 e).1)
  have hsx4_6 := t4.sl.wide (Nat.zero_le _) (.inl rfl)
  have hox4_6 := OwnT.base t4 hE_5.size'
  clear hE_5 hN_2 hD_2 s1_2 s2_2 s3_2 s9_2 s10_2 s11_2 hbb1_5 hbb2_5 hbb3_5
  refine tail_nil ?_
  refine wp_seq ?_
  refine region_lex [] [(17, Pr.ex (x4)), (18, Pr.t2 (Pr.own' DG wd6.heap.size 24 ((prove ([of (([97] : List UInt8)), of (([98] : List UInt8)), of (([99] : List UInt8))]) (((1 : Nat) : Int))).1)) (Pr.ex (i64 (((prove ([of (([97] : List UInt8)), of (([98] : List UInt8)), of (([99] : List UInt8))]) (((1 : Nat) : Int))).2 : Nat) : Int)))), (16, Pr.t2 (Pr.own' DG wd6.heap.size 24 ((prove ([of (([97] : List UInt8)), of (([98] : List UInt8)), of (([99] : List UInt8))]) (((1 : Nat) : Int))).1)) (Pr.ex (i64 (((prove ([of (([97] : List UInt8)), of (([98] : List UInt8)), of (([99] : List UInt8))]) (((1 : Nat) : Int))).2 : Nat) : Int)))), (19, Pr.own' DG wd6.heap.size 24 ((prove ([of (([97] : List UInt8)), of (([98] : List UInt8)), of (([99] : List UInt8))]) (((1 : Nat) : Int))).1)), (20, Pr.ex (i64 (((prove ([of (([97] : List UInt8)), of (([98] : List UInt8)), of (([99] : List UInt8))]) (((1 : Nat) : Int))).2 : Nat) : Int))), (5, Pr.own' DG wd6.heap.size 24 ((prove ([of (([97] : List UInt8)), of (([98] : List UInt8)), of (([99] : List UInt8))]) (((1 : Nat) : Int))).1)), (6, Pr.ex (i64 (((prove ([of (([97] : List UInt8)), of (([98] : List UInt8)), of (([99] : List UInt8))]) (((1 : Nat) : Int))).2 : Nat) : Int)))] 7 hN_6 hD_6 (by kernel_rfl) (by kernel_rfl) ?_ ?_
  · refine Asks.cons ?_ (Asks.cons ?_ (Asks.cons ?_ (Asks.cons ?_ (Asks.cons ?_ (Asks.cons ?_ (Asks.cons ?_ (Asks.zero _)))))))
    · refine Ask.plain rfl rfl ?_
      intro aq wq hNq hO hR hT
      exact does_move (V := x4) ((hO 4 rfl).trans s4_6) ⟨Ext.refl _, rfl⟩
    · refine Ask.plain rfl rfl ?_
      intro aq wq hNq hO hR hT
      exact does_ret (vs := #[x4, i64 ((1 : Nat) : Int)]) call_11 (args2 (hT 17 rfl rfl) rfl) rfl ((prove_ ([of (([97] : List UInt8)), of (([98] : List UInt8)), of (([99] : List UInt8))]) (((1 : Nat) : Int)) (x4) wq (hL.ext (hE_6.trans hR)) ((hsx4_6.ext' hR).wide (Nat.zero_le _) (.inl rfl)) (by simp)).mono fun v w2 h => ⟨h.2, by obtain ⟨x0, x1, hv, k0, k1⟩ := h.1; exact ⟨x0, x1, hv, OwnT.base k0 hR.size', k1⟩⟩)
    · refine Ask.plain rfl rfl ?_
      intro aq wq hNq hO hR hT
      exact does_move rfl ⟨Ext.refl _, (hT 18 rfl rfl)⟩
    · refine Ask.plain rfl rfl ?_
      intro aq wq hNq hO hR hT
      obtain ⟨x0, x1, hv, k0, k1⟩ := (hT 16 rfl rfl)
      exact does_extract hv rfl ⟨Ext.refl _, k0⟩
    · refine Ask.plain rfl rfl ?_
      intro aq wq hNq hO hR hT
      obtain ⟨x0, x1, hv, k0, k1⟩ := (hT 16 rfl rfl)
      exact does_extract (V := i64 (((prove ([of (([97] : List UInt8)), of (([98] : List UInt8)), of (([99] : List UInt8))]) (((1 : Nat) : Int))).2 : Nat) : Int)) hv (by rw [show x1 = i64 (((prove ([of (([97] : List UInt8)), of (([98] : List UInt8)), of (([99] : List UInt8))]) (((1 : Nat) : Int))).2 : Nat) : Int) from k1]; rfl) ⟨Ext.refl _, rfl⟩
    · refine Ask.plain rfl rfl ?_
      intro aq wq hNq hO hR hT
      exact does_assign rfl ⟨Ext.refl _, (hT 19 rfl rfl)⟩
    · refine Ask.plain rfl rfl ?_
      intro aq wq hNq hO hR hT
      exact does_assign (V := i64 (((prove ([of (([97] : List UInt8)), of (([98] : List UInt8)), of (([99] : List UInt8))]) (((1 : Nat) : Int))).2 : Nat) : Int)) (hT 20 rfl rfl) ⟨Ext.refl _, rfl⟩
  intro a7 wd7 hN_7 hD_7 hO hR hA hU
  obtain ⟨_, _, _, _, _, t5, t6, _⟩ := hA
  have hE_7 := hE_6.trans hR
  have s1_7 := (hO 1 rfl).trans s1_6
  have s2_7 := (hO 2 rfl).trans s2_6
  have s3_7 := (hO 3 rfl).trans s3_6
  have s4_7 := (hO 4 rfl).trans s4_6
  have hbb1_7 := hbb1_6.ext' hR
  have hbb2_7 := hbb2_6.ext' hR
  have hbb3_7 := hbb3_6.ext' hR
  have hsx4_7 := hsx4_6.ext' hR
  have hox4_7 := hox4_6.ext' hR
  obtain ⟨x5, s5_7⟩ : ∃ x, get a7 5 = x := ⟨_, rfl⟩
  replace t5 : OwnT DG wd6.heap.size 24 ((prove ([of (([97] : List UInt8)), of (([98] : List UInt8)), of (([99] : List UInt8))]) (((1 : Nat) : Int))).1) x5 wd7 := by rw [← s5_7]; exact t5
  have nbo_x5_b1 : x5.ownBlock ≠ some b1 := fun e => Nat.lt_irrefl _ (Nat.lt_of_lt_of_le hbb1_6.lt (OwnT.block_lt t5 e).1)
  have nbo_x5_b2 : x5.ownBlock ≠ some b2 := fun e => Nat.lt_irrefl _ (Nat.lt_of_lt_of_le hbb2_6.lt (OwnT.block_lt t5 e).1)
  have nbo_x5_b3 : x5.ownBlock ≠ some b3 := fun e => Nat.lt_irrefl _ (Nat.lt_of_lt_of_le hbb3_6.lt (OwnT.block_lt t5 e).1)
  have no_x5_x4 : ∀ k, x5.ownBlock = some k → x4.ownBlock ≠ some k := fun k e e' => Nat.lt_irrefl _ (Nat.lt_of_lt_of_le (OwnT.block_lt hox4_6 e').2 (OwnT.block_lt t5 e).1)
  have hsx5_7 := t5.sl.wide (Nat.zero_le _) (.inl rfl)
  have hox5_7 := OwnT.base t5 hE_6.size'
  have s6_7 : get a7 6 = i64 (((prove ([of (([97] : List UInt8)), of (([98] : List UInt8)), of (([99] : List UInt8))]) (((1 : Nat) : Int))).2 : Nat) : Int) := t6
  clear hE_6 hN_6 hD_6 s1_6 s2_6 s3_6 s4_6 hbb1_6 hbb2_6 hbb3_6 hsx4_6 hox4_6
  refine tail_nil ?_
  refine wp_seq ?_
  refine region_lex [] [(22, Pr.ex (x4)), (23, Pr.t2 (Pr.own' DG wd7.heap.size 24 ((proveOn ([of (([97] : List UInt8)), of (([98] : List UInt8)), of (([99] : List UInt8))]) (((1 : Nat) : Int))).1)) (Pr.ex (i64 (((proveOn ([of (([97] : List UInt8)), of (([98] : List UInt8)), of (([99] : List UInt8))]) (((1 : Nat) : Int))).2 : Nat) : Int)))), (21, Pr.t2 (Pr.own' DG wd7.heap.size 24 ((proveOn ([of (([97] : List UInt8)), of (([98] : List UInt8)), of (([99] : List UInt8))]) (((1 : Nat) : Int))).1)) (Pr.ex (i64 (((proveOn ([of (([97] : List UInt8)), of (([98] : List UInt8)), of (([99] : List UInt8))]) (((1 : Nat) : Int))).2 : Nat) : Int)))), (24, Pr.own' DG wd7.heap.size 24 ((proveOn ([of (([97] : List UInt8)), of (([98] : List UInt8)), of (([99] : List UInt8))]) (((1 : Nat) : Int))).1)), (25, Pr.ex (i64 (((proveOn ([of (([97] : List UInt8)), of (([98] : List UInt8)), of (([99] : List UInt8))]) (((1 : Nat) : Int))).2 : Nat) : Int))), (7, Pr.own' DG wd7.heap.size 24 ((proveOn ([of (([97] : List UInt8)), of (([98] : List UInt8)), of (([99] : List UInt8))]) (((1 : Nat) : Int))).1)), (8, Pr.ex (i64 (((proveOn ([of (([97] : List UInt8)), of (([98] : List UInt8)), of (([99] : List UInt8))]) (((1 : Nat) : Int))).2 : Nat) : Int)))] 7 hN_7 hD_7 (by kernel_rfl) (by kernel_rfl) ?_ ?_
  · refine Asks.cons ?_ (Asks.cons ?_ (Asks.cons ?_ (Asks.cons ?_ (Asks.cons ?_ (Asks.cons ?_ (Asks.cons ?_ (Asks.zero _)))))))
    · refine Ask.plain rfl rfl ?_
      intro aq wq hNq hO hR hT
      exact does_move (V := x4) ((hO 4 rfl).trans s4_7) ⟨Ext.refl _, rfl⟩
    · refine Ask.plain rfl rfl ?_
      intro aq wq hNq hO hR hT
      exact does_ret (vs := #[x4, i64 ((1 : Nat) : Int)]) call_12 (args2 (hT 22 rfl rfl) rfl) rfl ((proveOn_ ([of (([97] : List UInt8)), of (([98] : List UInt8)), of (([99] : List UInt8))]) (((1 : Nat) : Int)) (x4) wq (hL.ext (hE_7.trans hR)) ((hsx4_7.ext' hR).wide (Nat.zero_le _) (.inl rfl)) (by simp)).mono fun v w2 h => ⟨h.2, by obtain ⟨x0, x1, hv, k0, k1⟩ := h.1; exact ⟨x0, x1, hv, OwnT.base k0 hR.size', k1⟩⟩)
    · refine Ask.plain rfl rfl ?_
      intro aq wq hNq hO hR hT
      exact does_move rfl ⟨Ext.refl _, (hT 23 rfl rfl)⟩
    · refine Ask.plain rfl rfl ?_
      intro aq wq hNq hO hR hT
      obtain ⟨x0, x1, hv, k0, k1⟩ := (hT 21 rfl rfl)
      exact does_extract hv rfl ⟨Ext.refl _, k0⟩
    · refine Ask.plain rfl rfl ?_
      intro aq wq hNq hO hR hT
      obtain ⟨x0, x1, hv, k0, k1⟩ := (hT 21 rfl rfl)
      exact does_extract (V := i64 (((proveOn ([of (([97] : List UInt8)), of (([98] : List UInt8)), of (([99] : List UInt8))]) (((1 : Nat) : Int))).2 : Nat) : Int)) hv (by rw [show x1 = i64 (((proveOn ([of (([97] : List UInt8)), of (([98] : List UInt8)), of (([99] : List UInt8))]) (((1 : Nat) : Int))).2 : Nat) : Int) from k1]; rfl) ⟨Ext.refl _, rfl⟩
    · refine Ask.plain rfl rfl ?_
      intro aq wq hNq hO hR hT
      exact does_assign rfl ⟨Ext.refl _, (hT 24 rfl rfl)⟩
    · refine Ask.plain rfl rfl ?_
      intro aq wq hNq hO hR hT
      exact does_assign (V := i64 (((proveOn ([of (([97] : List UInt8)), of (([98] : List UInt8)), of (([99] : List UInt8))]) (((1 : Nat) : Int))).2 : Nat) : Int)) (hT 25 rfl rfl) ⟨Ext.refl _, rfl⟩
  intro a8 wd8 hN_8 hD_8 hO hR hA hU
  obtain ⟨_, _, _, _, _, t7, t8, _⟩ := hA
  have hE_8 := hE_7.trans hR
  have s1_8 := (hO 1 rfl).trans s1_7
  have s2_8 := (hO 2 rfl).trans s2_7
  have s3_8 := (hO 3 rfl).trans s3_7
  have s4_8 := (hO 4 rfl).trans s4_7
  have s5_8 := (hO 5 rfl).trans s5_7
  have s6_8 := (hO 6 rfl).trans s6_7
  have hbb1_8 := hbb1_7.ext' hR
  have hbb2_8 := hbb2_7.ext' hR
  have hbb3_8 := hbb3_7.ext' hR
  have hsx4_8 := hsx4_7.ext' hR
  have hsx5_8 := hsx5_7.ext' hR
  have hox4_8 := hox4_7.ext' hR
  have hox5_8 := hox5_7.ext' hR
  obtain ⟨x7, s7_8⟩ : ∃ x, get a8 7 = x := ⟨_, rfl⟩
  replace t7 : OwnT DG wd7.heap.size 24 ((proveOn ([of (([97] : List UInt8)), of (([98] : List UInt8)), of (([99] : List UInt8))]) (((1 : Nat) : Int))).1) x7 wd8 := by rw [← s7_8]; exact t7
  have nbo_x7_b1 : x7.ownBlock ≠ some b1 := fun e => Nat.lt_irrefl _ (Nat.lt_of_lt_of_le hbb1_7.lt (OwnT.block_lt t7 e).1)
  have nbo_x7_b2 : x7.ownBlock ≠ some b2 := fun e => Nat.lt_irrefl _ (Nat.lt_of_lt_of_le hbb2_7.lt (OwnT.block_lt t7 e).1)
  have nbo_x7_b3 : x7.ownBlock ≠ some b3 := fun e => Nat.lt_irrefl _ (Nat.lt_of_lt_of_le hbb3_7.lt (OwnT.block_lt t7 e).1)
  have no_x7_x4 : ∀ k, x7.ownBlock = some k → x4.ownBlock ≠ some k := fun k e e' => Nat.lt_irrefl _ (Nat.lt_of_lt_of_le (OwnT.block_lt hox4_7 e').2 (OwnT.block_lt t7 e).1)
  have no_x7_x5 : ∀ k, x7.ownBlock = some k → x5.ownBlock ≠ some k := fun k e e' => Nat.lt_irrefl _ (Nat.lt_of_lt_of_le (OwnT.block_lt hox5_7 e').2 (OwnT.block_lt t7 e).1)
  have hsx7_8 := t7.sl.wide (Nat.zero_le _) (.inl rfl)
  have hox7_8 := OwnT.base t7 hE_7.size'
  have s8_8 : get a8 8 = i64 (((proveOn ([of (([97] : List UInt8)), of (([98] : List UInt8)), of (([99] : List UInt8))]) (((1 : Nat) : Int))).2 : Nat) : Int) := t8
  clear hE_7 hN_7 hD_7 s1_7 s2_7 s3_7 s4_7 s5_7 s6_7 hbb1_7 hbb2_7 hbb3_7 hsx4_7 hsx5_7 hox4_7 hox5_7
  refine tail_nil ?_
  refine wp_seq ?_
  refine region_any [] [(26, Pr.ex (x4)), (27, Pr.ex (Dg.val (root ([of (([97] : List UInt8)), of (([98] : List UInt8)), of (([99] : List UInt8))])))), (28, Pr.ex (Dg.val (of (([97] : List UInt8))))), (29, Pr.ex (Dg.val (of (([98] : List UInt8))))), (30, Pr.ex (Dg.val (pair (of (([97] : List UInt8))) (of (([98] : List UInt8)))))), (31, Pr.ex (Dg.val (of (([99] : List UInt8))))), (32, Pr.ex (Dg.val (pair (pair (of (([97] : List UInt8))) (of (([98] : List UInt8)))) (of (([99] : List UInt8)))))), (33, Pr.ex (Value.bool (decide (root ([of (([97] : List UInt8)), of (([98] : List UInt8)), of (([99] : List UInt8))]) = pair (pair (of (([97] : List UInt8))) (of (([98] : List UInt8)))) (of (([99] : List UInt8))))))), (34, Pr.ex (Value.bool (decide (root ([of (([97] : List UInt8)), of (([98] : List UInt8)), of (([99] : List UInt8))]) = pair (pair (of (([97] : List UInt8))) (of (([98] : List UInt8)))) (of (([99] : List UInt8))))))), (35, Pr.ifb (decide (root ([of (([97] : List UInt8)), of (([98] : List UInt8)), of (([99] : List UInt8))]) = pair (pair (of (([97] : List UInt8))) (of (([98] : List UInt8)))) (of (([99] : List UInt8))))) (Pr.ex (i64 (((prove ([of (([97] : List UInt8)), of (([98] : List UInt8)), of (([99] : List UInt8))]) (((1 : Nat) : Int))).2 : Nat) : Int)))), (36, Pr.ifb (decide (root ([of (([97] : List UInt8)), of (([98] : List UInt8)), of (([99] : List UInt8))]) = pair (pair (of (([97] : List UInt8))) (of (([98] : List UInt8)))) (of (([99] : List UInt8))))) (Pr.ex (Value.bool (decide ((((prove ([of (([97] : List UInt8)), of (([98] : List UInt8)), of (([99] : List UInt8))]) (((1 : Nat) : Int))).2 : Nat) : Int) = ((0 : Nat) : Int)))))), (37, Pr.ex (Value.bool ((decide (root ([of (([97] : List UInt8)), of (([98] : List UInt8)), of (([99] : List UInt8))]) = pair (pair (of (([97] : List UInt8))) (of (([98] : List UInt8)))) (of (([99] : List UInt8))))) && (decide ((((prove ([of (([97] : List UInt8)), of (([98] : List UInt8)), of (([99] : List UInt8))]) (((1 : Nat) : Int))).2 : Nat) : Int) = ((0 : Nat) : Int)))))), (38, Pr.ex (Value.bool ((decide (root ([of (([97] : List UInt8)), of (([98] : List UInt8)), of (([99] : List UInt8))]) = pair (pair (of (([97] : List UInt8))) (of (([98] : List UInt8)))) (of (([99] : List UInt8))))) && (decide ((((prove ([of (([97] : List UInt8)), of (([98] : List UInt8)), of (([99] : List UInt8))]) (((1 : Nat) : Int))).2 : Nat) : Int) = ((0 : Nat) : Int)))))), (39, Pr.ifb ((decide (root ([of (([97] : List UInt8)), of (([98] : List UInt8)), of (([99] : List UInt8))]) = pair (pair (of (([97] : List UInt8))) (of (([98] : List UInt8)))) (of (([99] : List UInt8))))) && (decide ((((prove ([of (([97] : List UInt8)), of (([98] : List UInt8)), of (([99] : List UInt8))]) (((1 : Nat) : Int))).2 : Nat) : Int) = ((0 : Nat) : Int)))) (Pr.ex (x5))), (40, Pr.ifb ((decide (root ([of (([97] : List UInt8)), of (([98] : List UInt8)), of (([99] : List UInt8))]) = pair (pair (of (([97] : List UInt8))) (of (([98] : List UInt8)))) (of (([99] : List UInt8))))) && (decide ((((prove ([of (([97] : List UInt8)), of (([98] : List UInt8)), of (([99] : List UInt8))]) (((1 : Nat) : Int))).2 : Nat) : Int) = ((0 : Nat) : Int)))) (Pr.ex (Dg.val (of (([97] : List UInt8)))))), (41, Pr.ifb ((decide (root ([of (([97] : List UInt8)), of (([98] : List UInt8)), of (([99] : List UInt8))]) = pair (pair (of (([97] : List UInt8))) (of (([98] : List UInt8)))) (of (([99] : List UInt8))))) && (decide ((((prove ([of (([97] : List UInt8)), of (([98] : List UInt8)), of (([99] : List UInt8))]) (((1 : Nat) : Int))).2 : Nat) : Int) = ((0 : Nat) : Int)))) (Pr.ex (Dg.val (of (([99] : List UInt8)))))), (42, Pr.ifb ((decide (root ([of (([97] : List UInt8)), of (([98] : List UInt8)), of (([99] : List UInt8))]) = pair (pair (of (([97] : List UInt8))) (of (([98] : List UInt8)))) (of (([99] : List UInt8))))) && (decide ((((prove ([of (([97] : List UInt8)), of (([98] : List UInt8)), of (([99] : List UInt8))]) (((1 : Nat) : Int))).2 : Nat) : Int) = ((0 : Nat) : Int)))) (Pr.own' DG wd8.heap.size 24 ([of (([97] : List UInt8)), of (([99] : List UInt8))]))), (43, Pr.ifb ((decide (root ([of (([97] : List UInt8)), of (([98] : List UInt8)), of (([99] : List UInt8))]) = pair (pair (of (([97] : List UInt8))) (of (([98] : List UInt8)))) (of (([99] : List UInt8))))) && (decide ((((prove ([of (([97] : List UInt8)), of (([98] : List UInt8)), of (([99] : List UInt8))]) (((1 : Nat) : Int))).2 : Nat) : Int) = ((0 : Nat) : Int)))) (Pr.ex (Value.bool (decide ((prove ([of (([97] : List UInt8)), of (([98] : List UInt8)), of (([99] : List UInt8))]) (((1 : Nat) : Int))).1 = [of (([97] : List UInt8)), of (([99] : List UInt8))]))))), (44, Pr.ex (Value.bool (((decide (root ([of (([97] : List UInt8)), of (([98] : List UInt8)), of (([99] : List UInt8))]) = pair (pair (of (([97] : List UInt8))) (of (([98] : List UInt8)))) (of (([99] : List UInt8))))) && (decide ((((prove ([of (([97] : List UInt8)), of (([98] : List UInt8)), of (([99] : List UInt8))]) (((1 : Nat) : Int))).2 : Nat) : Int) = ((0 : Nat) : Int)))) && (decide ((prove ([of (([97] : List UInt8)), of (([98] : List UInt8)), of (([99] : List UInt8))]) (((1 : Nat) : Int))).1 = [of (([97] : List UInt8)), of (([99] : List UInt8))]))))), (45, Pr.ex (Value.bool (((decide (root ([of (([97] : List UInt8)), of (([98] : List UInt8)), of (([99] : List UInt8))]) = pair (pair (of (([97] : List UInt8))) (of (([98] : List UInt8)))) (of (([99] : List UInt8))))) && (decide ((((prove ([of (([97] : List UInt8)), of (([98] : List UInt8)), of (([99] : List UInt8))]) (((1 : Nat) : Int))).2 : Nat) : Int) = ((0 : Nat) : Int)))) && (decide ((prove ([of (([97] : List UInt8)), of (([98] : List UInt8)), of (([99] : List UInt8))]) (((1 : Nat) : Int))).1 = [of (([97] : List UInt8)), of (([99] : List UInt8))]))))), (46, Pr.ifb (((decide (root ([of (([97] : List UInt8)), of (([98] : List UInt8)), of (([99] : List UInt8))]) = pair (pair (of (([97] : List UInt8))) (of (([98] : List UInt8)))) (of (([99] : List UInt8))))) && (decide ((((prove ([of (([97] : List UInt8)), of (([98] : List UInt8)), of (([99] : List UInt8))]) (((1 : Nat) : Int))).2 : Nat) : Int) = ((0 : Nat) : Int)))) && (decide ((prove ([of (([97] : List UInt8)), of (([98] : List UInt8)), of (([99] : List UInt8))]) (((1 : Nat) : Int))).1 = [of (([97] : List UInt8)), of (([99] : List UInt8))]))) (Pr.ex (i64 (((proveOn ([of (([97] : List UInt8)), of (([98] : List UInt8)), of (([99] : List UInt8))]) (((1 : Nat) : Int))).2 : Nat) : Int)))), (47, Pr.ifb (((decide (root ([of (([97] : List UInt8)), of (([98] : List UInt8)), of (([99] : List UInt8))]) = pair (pair (of (([97] : List UInt8))) (of (([98] : List UInt8)))) (of (([99] : List UInt8))))) && (decide ((((prove ([of (([97] : List UInt8)), of (([98] : List UInt8)), of (([99] : List UInt8))]) (((1 : Nat) : Int))).2 : Nat) : Int) = ((0 : Nat) : Int)))) && (decide ((prove ([of (([97] : List UInt8)), of (([98] : List UInt8)), of (([99] : List UInt8))]) (((1 : Nat) : Int))).1 = [of (([97] : List UInt8)), of (([99] : List UInt8))]))) (Pr.ex (Value.bool (decide ((((proveOn ([of (([97] : List UInt8)), of (([98] : List UInt8)), of (([99] : List UInt8))]) (((1 : Nat) : Int))).2 : Nat) : Int) = ((0 : Nat) : Int)))))), (48, Pr.ex (Value.bool ((((decide (root ([of (([97] : List UInt8)), of (([98] : List UInt8)), of (([99] : List UInt8))]) = pair (pair (of (([97] : List UInt8))) (of (([98] : List UInt8)))) (of (([99] : List UInt8))))) && (decide ((((prove ([of (([97] : List UInt8)), of (([98] : List UInt8)), of (([99] : List UInt8))]) (((1 : Nat) : Int))).2 : Nat) : Int) = ((0 : Nat) : Int)))) && (decide ((prove ([of (([97] : List UInt8)), of (([98] : List UInt8)), of (([99] : List UInt8))]) (((1 : Nat) : Int))).1 = [of (([97] : List UInt8)), of (([99] : List UInt8))]))) && (decide ((((proveOn ([of (([97] : List UInt8)), of (([98] : List UInt8)), of (([99] : List UInt8))]) (((1 : Nat) : Int))).2 : Nat) : Int) = ((0 : Nat) : Int)))))), (49, Pr.ex (Value.bool ((((decide (root ([of (([97] : List UInt8)), of (([98] : List UInt8)), of (([99] : List UInt8))]) = pair (pair (of (([97] : List UInt8))) (of (([98] : List UInt8)))) (of (([99] : List UInt8))))) && (decide ((((prove ([of (([97] : List UInt8)), of (([98] : List UInt8)), of (([99] : List UInt8))]) (((1 : Nat) : Int))).2 : Nat) : Int) = ((0 : Nat) : Int)))) && (decide ((prove ([of (([97] : List UInt8)), of (([98] : List UInt8)), of (([99] : List UInt8))]) (((1 : Nat) : Int))).1 = [of (([97] : List UInt8)), of (([99] : List UInt8))]))) && (decide ((((proveOn ([of (([97] : List UInt8)), of (([98] : List UInt8)), of (([99] : List UInt8))]) (((1 : Nat) : Int))).2 : Nat) : Int) = ((0 : Nat) : Int)))))), (50, Pr.ifb ((((decide (root ([of (([97] : List UInt8)), of (([98] : List UInt8)), of (([99] : List UInt8))]) = pair (pair (of (([97] : List UInt8))) (of (([98] : List UInt8)))) (of (([99] : List UInt8))))) && (decide ((((prove ([of (([97] : List UInt8)), of (([98] : List UInt8)), of (([99] : List UInt8))]) (((1 : Nat) : Int))).2 : Nat) : Int) = ((0 : Nat) : Int)))) && (decide ((prove ([of (([97] : List UInt8)), of (([98] : List UInt8)), of (([99] : List UInt8))]) (((1 : Nat) : Int))).1 = [of (([97] : List UInt8)), of (([99] : List UInt8))]))) && (decide ((((proveOn ([of (([97] : List UInt8)), of (([98] : List UInt8)), of (([99] : List UInt8))]) (((1 : Nat) : Int))).2 : Nat) : Int) = ((0 : Nat) : Int)))) (Pr.ex (x7))), (51, Pr.ifb ((((decide (root ([of (([97] : List UInt8)), of (([98] : List UInt8)), of (([99] : List UInt8))]) = pair (pair (of (([97] : List UInt8))) (of (([98] : List UInt8)))) (of (([99] : List UInt8))))) && (decide ((((prove ([of (([97] : List UInt8)), of (([98] : List UInt8)), of (([99] : List UInt8))]) (((1 : Nat) : Int))).2 : Nat) : Int) = ((0 : Nat) : Int)))) && (decide ((prove ([of (([97] : List UInt8)), of (([98] : List UInt8)), of (([99] : List UInt8))]) (((1 : Nat) : Int))).1 = [of (([97] : List UInt8)), of (([99] : List UInt8))]))) && (decide ((((proveOn ([of (([97] : List UInt8)), of (([98] : List UInt8)), of (([99] : List UInt8))]) (((1 : Nat) : Int))).2 : Nat) : Int) = ((0 : Nat) : Int)))) (Pr.ex (Dg.val (of (([98] : List UInt8)))))), (52, Pr.ifb ((((decide (root ([of (([97] : List UInt8)), of (([98] : List UInt8)), of (([99] : List UInt8))]) = pair (pair (of (([97] : List UInt8))) (of (([98] : List UInt8)))) (of (([99] : List UInt8))))) && (decide ((((prove ([of (([97] : List UInt8)), of (([98] : List UInt8)), of (([99] : List UInt8))]) (((1 : Nat) : Int))).2 : Nat) : Int) = ((0 : Nat) : Int)))) && (decide ((prove ([of (([97] : List UInt8)), of (([98] : List UInt8)), of (([99] : List UInt8))]) (((1 : Nat) : Int))).1 = [of (([97] : List UInt8)), of (([99] : List UInt8))]))) && (decide ((((proveOn ([of (([97] : List UInt8)), of (([98] : List UInt8)), of (([99] : List UInt8))]) (((1 : Nat) : Int))).2 : Nat) : Int) = ((0 : Nat) : Int)))) (Pr.ex (Dg.val (of (([99] : List UInt8)))))), (53, Pr.ifb ((((decide (root ([of (([97] : List UInt8)), of (([98] : List UInt8)), of (([99] : List UInt8))]) = pair (pair (of (([97] : List UInt8))) (of (([98] : List UInt8)))) (of (([99] : List UInt8))))) && (decide ((((prove ([of (([97] : List UInt8)), of (([98] : List UInt8)), of (([99] : List UInt8))]) (((1 : Nat) : Int))).2 : Nat) : Int) = ((0 : Nat) : Int)))) && (decide ((prove ([of (([97] : List UInt8)), of (([98] : List UInt8)), of (([99] : List UInt8))]) (((1 : Nat) : Int))).1 = [of (([97] : List UInt8)), of (([99] : List UInt8))]))) && (decide ((((proveOn ([of (([97] : List UInt8)), of (([98] : List UInt8)), of (([99] : List UInt8))]) (((1 : Nat) : Int))).2 : Nat) : Int) = ((0 : Nat) : Int)))) (Pr.own' DG wd8.heap.size 24 ([of (([98] : List UInt8)), of (([99] : List UInt8))]))), (54, Pr.ifb ((((decide (root ([of (([97] : List UInt8)), of (([98] : List UInt8)), of (([99] : List UInt8))]) = pair (pair (of (([97] : List UInt8))) (of (([98] : List UInt8)))) (of (([99] : List UInt8))))) && (decide ((((prove ([of (([97] : List UInt8)), of (([98] : List UInt8)), of (([99] : List UInt8))]) (((1 : Nat) : Int))).2 : Nat) : Int) = ((0 : Nat) : Int)))) && (decide ((prove ([of (([97] : List UInt8)), of (([98] : List UInt8)), of (([99] : List UInt8))]) (((1 : Nat) : Int))).1 = [of (([97] : List UInt8)), of (([99] : List UInt8))]))) && (decide ((((proveOn ([of (([97] : List UInt8)), of (([98] : List UInt8)), of (([99] : List UInt8))]) (((1 : Nat) : Int))).2 : Nat) : Int) = ((0 : Nat) : Int)))) (Pr.ex (Value.bool (decide ((proveOn ([of (([97] : List UInt8)), of (([98] : List UInt8)), of (([99] : List UInt8))]) (((1 : Nat) : Int))).1 = [of (([98] : List UInt8)), of (([99] : List UInt8))]))))), (55, Pr.ex (Value.bool (((((decide (root ([of (([97] : List UInt8)), of (([98] : List UInt8)), of (([99] : List UInt8))]) = pair (pair (of (([97] : List UInt8))) (of (([98] : List UInt8)))) (of (([99] : List UInt8))))) && (decide ((((prove ([of (([97] : List UInt8)), of (([98] : List UInt8)), of (([99] : List UInt8))]) (((1 : Nat) : Int))).2 : Nat) : Int) = ((0 : Nat) : Int)))) && (decide ((prove ([of (([97] : List UInt8)), of (([98] : List UInt8)), of (([99] : List UInt8))]) (((1 : Nat) : Int))).1 = [of (([97] : List UInt8)), of (([99] : List UInt8))]))) && (decide ((((proveOn ([of (([97] : List UInt8)), of (([98] : List UInt8)), of (([99] : List UInt8))]) (((1 : Nat) : Int))).2 : Nat) : Int) = ((0 : Nat) : Int)))) && (decide ((proveOn ([of (([97] : List UInt8)), of (([98] : List UInt8)), of (([99] : List UInt8))]) (((1 : Nat) : Int))).1 = [of (([98] : List UInt8)), of (([99] : List UInt8))]))))), (0, Pr.ex (Value.bool (((((decide (root ([of (([97] : List UInt8)), of (([98] : List UInt8)), of (([99] : List UInt8))]) = pair (pair (of (([97] : List UInt8))) (of (([98] : List UInt8)))) (of (([99] : List UInt8))))) && (decide ((((prove ([of (([97] : List UInt8)), of (([98] : List UInt8)), of (([99] : List UInt8))]) (((1 : Nat) : Int))).2 : Nat) : Int) = ((0 : Nat) : Int)))) && (decide ((prove ([of (([97] : List UInt8)), of (([98] : List UInt8)), of (([99] : List UInt8))]) (((1 : Nat) : Int))).1 = [of (([97] : List UInt8)), of (([99] : List UInt8))]))) && (decide ((((proveOn ([of (([97] : List UInt8)), of (([98] : List UInt8)), of (([99] : List UInt8))]) (((1 : Nat) : Int))).2 : Nat) : Int) = ((0 : Nat) : Int)))) && (decide ((proveOn ([of (([97] : List UInt8)), of (([98] : List UInt8)), of (([99] : List UInt8))]) (((1 : Nat) : Int))).1 = [of (([98] : List UInt8)), of (([99] : List UInt8))])))))] 31 mixed hN_8 hD_8 (by kernel_rfl) (by kernel_rfl) (by kernel_rfl) ?_ ?_
  · refine Asks.cons ?_ (Asks.cons ?_ (Asks.cons ?_ (Asks.cons ?_ (Asks.cons ?_ (Asks.cons ?_ (Asks.cons ?_ (Asks.cons ?_ (Asks.cons ?_ (Asks.cons ?_ (Asks.cons ?_ (Asks.cons ?_ (Asks.cons ?_ (Asks.cons ?_ (Asks.cons ?_ (Asks.cons ?_ (Asks.cons ?_ (Asks.cons ?_ (Asks.cons ?_ (Asks.cons ?_ (Asks.cons ?_ (Asks.cons ?_ (Asks.cons ?_ (Asks.cons ?_ (Asks.cons ?_ (Asks.cons ?_ (Asks.cons ?_ (Asks.cons ?_ (Asks.cons ?_ (Asks.cons ?_ (Asks.cons ?_ (Asks.zero _)))))))))))))))))))))))))))))))
    · refine Ask.plain rfl rfl ?_
      intro aq wq hNq hO hR hT
      replace hR := (Ext.drew _).trans hR
      exact does_move (V := x4) ((hO 4 rfl).trans s4_8) ⟨Ext.refl _, rfl⟩
    · refine Ask.plain rfl rfl ?_
      intro aq wq hNq hO hR hT
      replace hR := (Ext.drew _).trans hR
      exact does_ret (vs := #[x4]) call_16 (args1 (hT 26 rfl rfl)) rfl ((root_ ([of (([97] : List UInt8)), of (([98] : List UInt8)), of (([99] : List UInt8))]) (x4) wq (hL.ext (hE_8.trans hR)) ((hsx4_8.ext' hR).wide (Nat.zero_le _) (.inl rfl)) (by simp)).mono fun v w2 h => ⟨h.2, h.1⟩)
    · refine Ask.plain rfl rfl ?_
      intro aq wq hNq hO hR hT
      replace hR := (Ext.drew _).trans hR
      exact does_loadD (o := 0) (n := 4) (mid := [w32 (of (([97] : List UInt8))).a, w32 (of (([97] : List UInt8))).b, w32 (of (([97] : List UInt8))).c, w32 (of (([97] : List UInt8))).d]) ((hO 1 rfl).trans s1_8) (hbb1_8.ext' hR) rfl rfl (Nat.le_of_ble_eq_true rfl) row_24 rfl ⟨Ext.refl _, rfl⟩
    · refine Ask.plain rfl rfl ?_
      intro aq wq hNq hO hR hT
      replace hR := (Ext.drew _).trans hR
      exact does_loadD (o := 0) (n := 4) (mid := [w32 (of (([98] : List UInt8))).a, w32 (of (([98] : List UInt8))).b, w32 (of (([98] : List UInt8))).c, w32 (of (([98] : List UInt8))).d]) ((hO 2 rfl).trans s2_8) (hbb2_8.ext' hR) rfl rfl (Nat.le_of_ble_eq_true rfl) row_24 rfl ⟨Ext.refl _, rfl⟩
    · refine Ask.plain rfl rfl ?_
      intro aq wq hNq hO hR hT
      replace hR := (Ext.drew _).trans hR
      exact does_ret (vs := #[Dg.val (of (([97] : List UInt8))), Dg.val (of (([98] : List UInt8)))]) call_17 (args2 (hT 28 rfl rfl) (hT 29 rfl rfl)) rfl ((pairR (of (([97] : List UInt8))) (of (([98] : List UInt8))) wq).mono fun v w2 h => ⟨h.2, h.1⟩)
    · refine Ask.plain rfl rfl ?_
      intro aq wq hNq hO hR hT
      replace hR := (Ext.drew _).trans hR
      exact does_loadD (o := 0) (n := 4) (mid := [w32 (of (([99] : List UInt8))).a, w32 (of (([99] : List UInt8))).b, w32 (of (([99] : List UInt8))).c, w32 (of (([99] : List UInt8))).d]) ((hO 3 rfl).trans s3_8) (hbb3_8.ext' hR) rfl rfl (Nat.le_of_ble_eq_true rfl) row_24 rfl ⟨Ext.refl _, rfl⟩
    · refine Ask.plain rfl rfl ?_
      intro aq wq hNq hO hR hT
      replace hR := (Ext.drew _).trans hR
      exact does_ret (vs := #[Dg.val (pair (of (([97] : List UInt8))) (of (([98] : List UInt8)))), Dg.val (of (([99] : List UInt8)))]) call_17 (args2 (hT 30 rfl rfl) (hT 31 rfl rfl)) rfl ((pairR (pair (of (([97] : List UInt8))) (of (([98] : List UInt8)))) (of (([99] : List UInt8))) wq).mono fun v w2 h => ⟨h.2, h.1⟩)
    · refine Ask.plain rfl rfl ?_
      intro aq wq hNq hO hR hT
      replace hR := (Ext.drew _).trans hR
      exact does_eqT (a := root ([of (([97] : List UInt8)), of (([98] : List UInt8)), of (([99] : List UInt8))])) (b := pair (pair (of (([97] : List UInt8))) (of (([98] : List UInt8)))) (of (([99] : List UInt8)))) eq_24 (hT 27 rfl rfl) (hT 32 rfl rfl) ⟨Ext.refl _, rfl⟩
    · refine Ask.plain rfl rfl ?_
      intro aq wq hNq hO hR hT
      replace hR := (Ext.drew _).trans hR
      exact does_move (V := Value.bool (decide (root ([of (([97] : List UInt8)), of (([98] : List UInt8)), of (([99] : List UInt8))]) = pair (pair (of (([97] : List UInt8))) (of (([98] : List UInt8)))) (of (([99] : List UInt8)))))) (hT 33 rfl rfl) ⟨Ext.refl _, rfl⟩
    · refine Ask.guarded (B := decide (root ([of (([97] : List UInt8)), of (([98] : List UInt8)), of (([99] : List UInt8))]) = pair (pair (of (([97] : List UInt8))) (of (([98] : List UInt8)))) (of (([99] : List UInt8))))) (want := true) (t := 34) rfl rfl rfl rfl (by decide) (fun aq wq hO hR hT => hT 34 rfl rfl) (fun hG aq wq hNq hO hR hT => ?_) (fun hno _ => fun hc => absurd hc hno)
      replace hR := (Ext.drew _).trans hR
      exact does_move (V := i64 (((prove ([of (([97] : List UInt8)), of (([98] : List UInt8)), of (([99] : List UInt8))]) (((1 : Nat) : Int))).2 : Nat) : Int)) ((hO 6 rfl).trans s6_8) ⟨Ext.refl _, fun _ => rfl⟩
    · refine Ask.guarded (B := decide (root ([of (([97] : List UInt8)), of (([98] : List UInt8)), of (([99] : List UInt8))]) = pair (pair (of (([97] : List UInt8))) (of (([98] : List UInt8)))) (of (([99] : List UInt8))))) (want := true) (t := 34) rfl rfl rfl rfl (by decide) (fun aq wq hO hR hT => hT 34 rfl rfl) (fun hG aq wq hNq hO hR hT => ?_) (fun hno _ => fun hc => absurd hc hno)
      replace hR := (Ext.drew _).trans hR
      exact does_eql (a := (((prove ([of (([97] : List UInt8)), of (([98] : List UInt8)), of (([99] : List UInt8))]) (((1 : Nat) : Int))).2 : Nat) : Int)) (b := ((0 : Nat) : Int)) (hT 35 rfl rfl hG) rfl ⟨Ext.refl _, fun _ => rfl⟩
    · refine Ask.plain rfl rfl ?_
      intro aq wq hNq hO hR hT
      replace hR := (Ext.drew _).trans hR
      exact does_and (B := decide (root ([of (([97] : List UInt8)), of (([98] : List UInt8)), of (([99] : List UInt8))]) = pair (pair (of (([97] : List UInt8))) (of (([98] : List UInt8)))) (of (([99] : List UInt8))))) (X := decide ((((prove ([of (([97] : List UInt8)), of (([98] : List UInt8)), of (([99] : List UInt8))]) (((1 : Nat) : Int))).2 : Nat) : Int) = ((0 : Nat) : Int))) (hT 34 rfl rfl) (fun hB => (hT 36 rfl rfl hB)) rfl ⟨Ext.refl _, rfl⟩
    · refine Ask.plain rfl rfl ?_
      intro aq wq hNq hO hR hT
      replace hR := (Ext.drew _).trans hR
      exact does_move (V := Value.bool ((decide (root ([of (([97] : List UInt8)), of (([98] : List UInt8)), of (([99] : List UInt8))]) = pair (pair (of (([97] : List UInt8))) (of (([98] : List UInt8)))) (of (([99] : List UInt8))))) && (decide ((((prove ([of (([97] : List UInt8)), of (([98] : List UInt8)), of (([99] : List UInt8))]) (((1 : Nat) : Int))).2 : Nat) : Int) = ((0 : Nat) : Int))))) (hT 37 rfl rfl) ⟨Ext.refl _, rfl⟩
    · refine Ask.guarded (B := (decide (root ([of (([97] : List UInt8)), of (([98] : List UInt8)), of (([99] : List UInt8))]) = pair (pair (of (([97] : List UInt8))) (of (([98] : List UInt8)))) (of (([99] : List UInt8))))) && (decide ((((prove ([of (([97] : List UInt8)), of (([98] : List UInt8)), of (([99] : List UInt8))]) (((1 : Nat) : Int))).2 : Nat) : Int) = ((0 : Nat) : Int)))) (want := true) (t := 38) rfl rfl rfl rfl (by decide) (fun aq wq hO hR hT => hT 38 rfl rfl) (fun hG aq wq hNq hO hR hT => ?_) (fun hno _ => fun hc => absurd hc hno)
      replace hR := (Ext.drew _).trans hR
      exact does_move (V := x5) ((hO 5 rfl).trans s5_8) ⟨Ext.refl _, fun _ => rfl⟩
    · refine Ask.guarded (B := (decide (root ([of (([97] : List UInt8)), of (([98] : List UInt8)), of (([99] : List UInt8))]) = pair (pair (of (([97] : List UInt8))) (of (([98] : List UInt8)))) (of (([99] : List UInt8))))) && (decide ((((prove ([of (([97] : List UInt8)), of (([98] : List UInt8)), of (([99] : List UInt8))]) (((1 : Nat) : Int))).2 : Nat) : Int) = ((0 : Nat) : Int)))) (want := true) (t := 38) rfl rfl rfl rfl (by decide) (fun aq wq hO hR hT => hT 38 rfl rfl) (fun hG aq wq hNq hO hR hT => ?_) (fun hno _ => fun hc => absurd hc hno)
      replace hR := (Ext.drew _).trans hR
      exact does_loadD (o := 0) (n := 4) (mid := [w32 (of (([97] : List UInt8))).a, w32 (of (([97] : List UInt8))).b, w32 (of (([97] : List UInt8))).c, w32 (of (([97] : List UInt8))).d]) ((hO 1 rfl).trans s1_8) (hbb1_8.ext' hR) rfl rfl (Nat.le_of_ble_eq_true rfl) row_24 rfl ⟨Ext.refl _, fun _ => rfl⟩
    · refine Ask.guarded (B := (decide (root ([of (([97] : List UInt8)), of (([98] : List UInt8)), of (([99] : List UInt8))]) = pair (pair (of (([97] : List UInt8))) (of (([98] : List UInt8)))) (of (([99] : List UInt8))))) && (decide ((((prove ([of (([97] : List UInt8)), of (([98] : List UInt8)), of (([99] : List UInt8))]) (((1 : Nat) : Int))).2 : Nat) : Int) = ((0 : Nat) : Int)))) (want := true) (t := 38) rfl rfl rfl rfl (by decide) (fun aq wq hO hR hT => hT 38 rfl rfl) (fun hG aq wq hNq hO hR hT => ?_) (fun hno _ => fun hc => absurd hc hno)
      replace hR := (Ext.drew _).trans hR
      exact does_loadD (o := 0) (n := 4) (mid := [w32 (of (([99] : List UInt8))).a, w32 (of (([99] : List UInt8))).b, w32 (of (([99] : List UInt8))).c, w32 (of (([99] : List UInt8))).d]) ((hO 3 rfl).trans s3_8) (hbb3_8.ext' hR) rfl rfl (Nat.le_of_ble_eq_true rfl) row_24 rfl ⟨Ext.refl _, fun _ => rfl⟩
    · refine Ask.guarded (B := (decide (root ([of (([97] : List UInt8)), of (([98] : List UInt8)), of (([99] : List UInt8))]) = pair (pair (of (([97] : List UInt8))) (of (([98] : List UInt8)))) (of (([99] : List UInt8))))) && (decide ((((prove ([of (([97] : List UInt8)), of (([98] : List UInt8)), of (([99] : List UInt8))]) (((1 : Nat) : Int))).2 : Nat) : Int) = ((0 : Nat) : Int)))) (want := true) (t := 38) rfl rfl rfl rfl (by decide) (fun aq wq hO hR hT => hT 38 rfl rfl) (fun hG aq wq hNq hO hR hT => ?_) (fun hno _ => fun hc => absurd hc hno)
      replace hR := (Ext.drew _).trans hR
      exact does_sliceN (T := DG) (xs := [of (([97] : List UInt8)), of (([99] : List UInt8))]) (vs := [Dg.val (of (([97] : List UInt8))), Dg.val (of (([99] : List UInt8)))]) app_27 rfl (parts2 (hT 40 rfl rfl hG) (hT 41 rfl rfl hG)) rfl (by decide) (by decide) rfl (fun v w2 he _ ho => ⟨he, fun _ => OwnT.base ho hR.size'⟩)
    · refine Ask.guarded (B := (decide (root ([of (([97] : List UInt8)), of (([98] : List UInt8)), of (([99] : List UInt8))]) = pair (pair (of (([97] : List UInt8))) (of (([98] : List UInt8)))) (of (([99] : List UInt8))))) && (decide ((((prove ([of (([97] : List UInt8)), of (([98] : List UInt8)), of (([99] : List UInt8))]) (((1 : Nat) : Int))).2 : Nat) : Int) = ((0 : Nat) : Int)))) (want := true) (t := 38) rfl rfl rfl rfl (by decide) (fun aq wq hO hR hT => hT 38 rfl rfl) (fun hG aq wq hNq hO hR hT => ?_) (fun hno _ => fun hc => absurd hc hno)
      replace hR := (Ext.drew _).trans hR
      exact does_ret (vs := #[x5, get aq 42]) call_15 (args2 (hT 39 rfl rfl hG) rfl) rfl ((same_ ((prove ([of (([97] : List UInt8)), of (([98] : List UInt8)), of (([99] : List UInt8))]) (((1 : Nat) : Int))).1) ([of (([97] : List UInt8)), of (([99] : List UInt8))]) (x5) (get aq 42) wq ((hsx5_8.ext' hR).wide (Nat.zero_le _) (.inl rfl)) (((OwnT.sl (hT 42 rfl rfl hG)).wide (Nat.zero_le _) (.inl rfl)).wide (Nat.zero_le _) (.inl rfl)) (by first | exact Nat.le_trans prove_len2 (by simp) | exact Nat.le_trans goes_len2 (by simp) | exact Nat.le_trans prove_len2 (by omega) | exact Nat.le_trans goes_len2 (by omega))).mono fun v w2 h => ⟨h.2, fun _ => h.1⟩)
    · refine Ask.plain rfl rfl ?_
      intro aq wq hNq hO hR hT
      replace hR := (Ext.drew _).trans hR
      exact does_and (B := (decide (root ([of (([97] : List UInt8)), of (([98] : List UInt8)), of (([99] : List UInt8))]) = pair (pair (of (([97] : List UInt8))) (of (([98] : List UInt8)))) (of (([99] : List UInt8))))) && (decide ((((prove ([of (([97] : List UInt8)), of (([98] : List UInt8)), of (([99] : List UInt8))]) (((1 : Nat) : Int))).2 : Nat) : Int) = ((0 : Nat) : Int)))) (X := decide ((prove ([of (([97] : List UInt8)), of (([98] : List UInt8)), of (([99] : List UInt8))]) (((1 : Nat) : Int))).1 = [of (([97] : List UInt8)), of (([99] : List UInt8))])) (hT 38 rfl rfl) (fun hB => (hT 43 rfl rfl hB)) rfl ⟨Ext.refl _, rfl⟩
    · refine Ask.plain rfl rfl ?_
      intro aq wq hNq hO hR hT
      replace hR := (Ext.drew _).trans hR
      exact does_move (V := Value.bool (((decide (root ([of (([97] : List UInt8)), of (([98] : List UInt8)), of (([99] : List UInt8))]) = pair (pair (of (([97] : List UInt8))) (of (([98] : List UInt8)))) (of (([99] : List UInt8))))) && (decide ((((prove ([of (([97] : List UInt8)), of (([98] : List UInt8)), of (([99] : List UInt8))]) (((1 : Nat) : Int))).2 : Nat) : Int) = ((0 : Nat) : Int)))) && (decide ((prove ([of (([97] : List UInt8)), of (([98] : List UInt8)), of (([99] : List UInt8))]) (((1 : Nat) : Int))).1 = [of (([97] : List UInt8)), of (([99] : List UInt8))])))) (hT 44 rfl rfl) ⟨Ext.refl _, rfl⟩
    · refine Ask.guarded (B := ((decide (root ([of (([97] : List UInt8)), of (([98] : List UInt8)), of (([99] : List UInt8))]) = pair (pair (of (([97] : List UInt8))) (of (([98] : List UInt8)))) (of (([99] : List UInt8))))) && (decide ((((prove ([of (([97] : List UInt8)), of (([98] : List UInt8)), of (([99] : List UInt8))]) (((1 : Nat) : Int))).2 : Nat) : Int) = ((0 : Nat) : Int)))) && (decide ((prove ([of (([97] : List UInt8)), of (([98] : List UInt8)), of (([99] : List UInt8))]) (((1 : Nat) : Int))).1 = [of (([97] : List UInt8)), of (([99] : List UInt8))]))) (want := true) (t := 45) rfl rfl rfl rfl (by decide) (fun aq wq hO hR hT => hT 45 rfl rfl) (fun hG aq wq hNq hO hR hT => ?_) (fun hno _ => fun hc => absurd hc hno)
      replace hR := (Ext.drew _).trans hR
      exact does_move (V := i64 (((proveOn ([of (([97] : List UInt8)), of (([98] : List UInt8)), of (([99] : List UInt8))]) (((1 : Nat) : Int))).2 : Nat) : Int)) ((hO 8 rfl).trans s8_8) ⟨Ext.refl _, fun _ => rfl⟩
    · refine Ask.guarded (B := ((decide (root ([of (([97] : List UInt8)), of (([98] : List UInt8)), of (([99] : List UInt8))]) = pair (pair (of (([97] : List UInt8))) (of (([98] : List UInt8)))) (of (([99] : List UInt8))))) && (decide ((((prove ([of (([97] : List UInt8)), of (([98] : List UInt8)), of (([99] : List UInt8))]) (((1 : Nat) : Int))).2 : Nat) : Int) = ((0 : Nat) : Int)))) && (decide ((prove ([of (([97] : List UInt8)), of (([98] : List UInt8)), of (([99] : List UInt8))]) (((1 : Nat) : Int))).1 = [of (([97] : List UInt8)), of (([99] : List UInt8))]))) (want := true) (t := 45) rfl rfl rfl rfl (by decide) (fun aq wq hO hR hT => hT 45 rfl rfl) (fun hG aq wq hNq hO hR hT => ?_) (fun hno _ => fun hc => absurd hc hno)
      replace hR := (Ext.drew _).trans hR
      exact does_eql (a := (((proveOn ([of (([97] : List UInt8)), of (([98] : List UInt8)), of (([99] : List UInt8))]) (((1 : Nat) : Int))).2 : Nat) : Int)) (b := ((0 : Nat) : Int)) (hT 46 rfl rfl hG) rfl ⟨Ext.refl _, fun _ => rfl⟩
    · refine Ask.plain rfl rfl ?_
      intro aq wq hNq hO hR hT
      replace hR := (Ext.drew _).trans hR
      exact does_and (B := ((decide (root ([of (([97] : List UInt8)), of (([98] : List UInt8)), of (([99] : List UInt8))]) = pair (pair (of (([97] : List UInt8))) (of (([98] : List UInt8)))) (of (([99] : List UInt8))))) && (decide ((((prove ([of (([97] : List UInt8)), of (([98] : List UInt8)), of (([99] : List UInt8))]) (((1 : Nat) : Int))).2 : Nat) : Int) = ((0 : Nat) : Int)))) && (decide ((prove ([of (([97] : List UInt8)), of (([98] : List UInt8)), of (([99] : List UInt8))]) (((1 : Nat) : Int))).1 = [of (([97] : List UInt8)), of (([99] : List UInt8))]))) (X := decide ((((proveOn ([of (([97] : List UInt8)), of (([98] : List UInt8)), of (([99] : List UInt8))]) (((1 : Nat) : Int))).2 : Nat) : Int) = ((0 : Nat) : Int))) (hT 45 rfl rfl) (fun hB => (hT 47 rfl rfl hB)) rfl ⟨Ext.refl _, rfl⟩
    · refine Ask.plain rfl rfl ?_
      intro aq wq hNq hO hR hT
      replace hR := (Ext.drew _).trans hR
      exact does_move (V := Value.bool ((((decide (root ([of (([97] : List UInt8)), of (([98] : List UInt8)), of (([99] : List UInt8))]) = pair (pair (of (([97] : List UInt8))) (of (([98] : List UInt8)))) (of (([99] : List UInt8))))) && (decide ((((prove ([of (([97] : List UInt8)), of (([98] : List UInt8)), of (([99] : List UInt8))]) (((1 : Nat) : Int))).2 : Nat) : Int) = ((0 : Nat) : Int)))) && (decide ((prove ([of (([97] : List UInt8)), of (([98] : List UInt8)), of (([99] : List UInt8))]) (((1 : Nat) : Int))).1 = [of (([97] : List UInt8)), of (([99] : List UInt8))]))) && (decide ((((proveOn ([of (([97] : List UInt8)), of (([98] : List UInt8)), of (([99] : List UInt8))]) (((1 : Nat) : Int))).2 : Nat) : Int) = ((0 : Nat) : Int))))) (hT 48 rfl rfl) ⟨Ext.refl _, rfl⟩
    · refine Ask.guarded (B := (((decide (root ([of (([97] : List UInt8)), of (([98] : List UInt8)), of (([99] : List UInt8))]) = pair (pair (of (([97] : List UInt8))) (of (([98] : List UInt8)))) (of (([99] : List UInt8))))) && (decide ((((prove ([of (([97] : List UInt8)), of (([98] : List UInt8)), of (([99] : List UInt8))]) (((1 : Nat) : Int))).2 : Nat) : Int) = ((0 : Nat) : Int)))) && (decide ((prove ([of (([97] : List UInt8)), of (([98] : List UInt8)), of (([99] : List UInt8))]) (((1 : Nat) : Int))).1 = [of (([97] : List UInt8)), of (([99] : List UInt8))]))) && (decide ((((proveOn ([of (([97] : List UInt8)), of (([98] : List UInt8)), of (([99] : List UInt8))]) (((1 : Nat) : Int))).2 : Nat) : Int) = ((0 : Nat) : Int)))) (want := true) (t := 49) rfl rfl rfl rfl (by decide) (fun aq wq hO hR hT => hT 49 rfl rfl) (fun hG aq wq hNq hO hR hT => ?_) (fun hno _ => fun hc => absurd hc hno)
      replace hR := (Ext.drew _).trans hR
      exact does_move (V := x7) ((hO 7 rfl).trans s7_8) ⟨Ext.refl _, fun _ => rfl⟩
    · refine Ask.guarded (B := (((decide (root ([of (([97] : List UInt8)), of (([98] : List UInt8)), of (([99] : List UInt8))]) = pair (pair (of (([97] : List UInt8))) (of (([98] : List UInt8)))) (of (([99] : List UInt8))))) && (decide ((((prove ([of (([97] : List UInt8)), of (([98] : List UInt8)), of (([99] : List UInt8))]) (((1 : Nat) : Int))).2 : Nat) : Int) = ((0 : Nat) : Int)))) && (decide ((prove ([of (([97] : List UInt8)), of (([98] : List UInt8)), of (([99] : List UInt8))]) (((1 : Nat) : Int))).1 = [of (([97] : List UInt8)), of (([99] : List UInt8))]))) && (decide ((((proveOn ([of (([97] : List UInt8)), of (([98] : List UInt8)), of (([99] : List UInt8))]) (((1 : Nat) : Int))).2 : Nat) : Int) = ((0 : Nat) : Int)))) (want := true) (t := 49) rfl rfl rfl rfl (by decide) (fun aq wq hO hR hT => hT 49 rfl rfl) (fun hG aq wq hNq hO hR hT => ?_) (fun hno _ => fun hc => absurd hc hno)
      replace hR := (Ext.drew _).trans hR
      exact does_loadD (o := 0) (n := 4) (mid := [w32 (of (([98] : List UInt8))).a, w32 (of (([98] : List UInt8))).b, w32 (of (([98] : List UInt8))).c, w32 (of (([98] : List UInt8))).d]) ((hO 2 rfl).trans s2_8) (hbb2_8.ext' hR) rfl rfl (Nat.le_of_ble_eq_true rfl) row_24 rfl ⟨Ext.refl _, fun _ => rfl⟩
    · refine Ask.guarded (B := (((decide (root ([of (([97] : List UInt8)), of (([98] : List UInt8)), of (([99] : List UInt8))]) = pair (pair (of (([97] : List UInt8))) (of (([98] : List UInt8)))) (of (([99] : List UInt8))))) && (decide ((((prove ([of (([97] : List UInt8)), of (([98] : List UInt8)), of (([99] : List UInt8))]) (((1 : Nat) : Int))).2 : Nat) : Int) = ((0 : Nat) : Int)))) && (decide ((prove ([of (([97] : List UInt8)), of (([98] : List UInt8)), of (([99] : List UInt8))]) (((1 : Nat) : Int))).1 = [of (([97] : List UInt8)), of (([99] : List UInt8))]))) && (decide ((((proveOn ([of (([97] : List UInt8)), of (([98] : List UInt8)), of (([99] : List UInt8))]) (((1 : Nat) : Int))).2 : Nat) : Int) = ((0 : Nat) : Int)))) (want := true) (t := 49) rfl rfl rfl rfl (by decide) (fun aq wq hO hR hT => hT 49 rfl rfl) (fun hG aq wq hNq hO hR hT => ?_) (fun hno _ => fun hc => absurd hc hno)
      replace hR := (Ext.drew _).trans hR
      exact does_loadD (o := 0) (n := 4) (mid := [w32 (of (([99] : List UInt8))).a, w32 (of (([99] : List UInt8))).b, w32 (of (([99] : List UInt8))).c, w32 (of (([99] : List UInt8))).d]) ((hO 3 rfl).trans s3_8) (hbb3_8.ext' hR) rfl rfl (Nat.le_of_ble_eq_true rfl) row_24 rfl ⟨Ext.refl _, fun _ => rfl⟩
    · refine Ask.guarded (B := (((decide (root ([of (([97] : List UInt8)), of (([98] : List UInt8)), of (([99] : List UInt8))]) = pair (pair (of (([97] : List UInt8))) (of (([98] : List UInt8)))) (of (([99] : List UInt8))))) && (decide ((((prove ([of (([97] : List UInt8)), of (([98] : List UInt8)), of (([99] : List UInt8))]) (((1 : Nat) : Int))).2 : Nat) : Int) = ((0 : Nat) : Int)))) && (decide ((prove ([of (([97] : List UInt8)), of (([98] : List UInt8)), of (([99] : List UInt8))]) (((1 : Nat) : Int))).1 = [of (([97] : List UInt8)), of (([99] : List UInt8))]))) && (decide ((((proveOn ([of (([97] : List UInt8)), of (([98] : List UInt8)), of (([99] : List UInt8))]) (((1 : Nat) : Int))).2 : Nat) : Int) = ((0 : Nat) : Int)))) (want := true) (t := 49) rfl rfl rfl rfl (by decide) (fun aq wq hO hR hT => hT 49 rfl rfl) (fun hG aq wq hNq hO hR hT => ?_) (fun hno _ => fun hc => absurd hc hno)
      replace hR := (Ext.drew _).trans hR
      exact does_sliceN (T := DG) (xs := [of (([98] : List UInt8)), of (([99] : List UInt8))]) (vs := [Dg.val (of (([98] : List UInt8))), Dg.val (of (([99] : List UInt8)))]) app_27 rfl (parts2 (hT 51 rfl rfl hG) (hT 52 rfl rfl hG)) rfl (by decide) (by decide) rfl (fun v w2 he _ ho => ⟨he, fun _ => OwnT.base ho hR.size'⟩)
    · refine Ask.guarded (B := (((decide (root ([of (([97] : List UInt8)), of (([98] : List UInt8)), of (([99] : List UInt8))]) = pair (pair (of (([97] : List UInt8))) (of (([98] : List UInt8)))) (of (([99] : List UInt8))))) && (decide ((((prove ([of (([97] : List UInt8)), of (([98] : List UInt8)), of (([99] : List UInt8))]) (((1 : Nat) : Int))).2 : Nat) : Int) = ((0 : Nat) : Int)))) && (decide ((prove ([of (([97] : List UInt8)), of (([98] : List UInt8)), of (([99] : List UInt8))]) (((1 : Nat) : Int))).1 = [of (([97] : List UInt8)), of (([99] : List UInt8))]))) && (decide ((((proveOn ([of (([97] : List UInt8)), of (([98] : List UInt8)), of (([99] : List UInt8))]) (((1 : Nat) : Int))).2 : Nat) : Int) = ((0 : Nat) : Int)))) (want := true) (t := 49) rfl rfl rfl rfl (by decide) (fun aq wq hO hR hT => hT 49 rfl rfl) (fun hG aq wq hNq hO hR hT => ?_) (fun hno _ => fun hc => absurd hc hno)
      replace hR := (Ext.drew _).trans hR
      exact does_ret (vs := #[x7, get aq 53]) call_15 (args2 (hT 50 rfl rfl hG) rfl) rfl ((same_ ((proveOn ([of (([97] : List UInt8)), of (([98] : List UInt8)), of (([99] : List UInt8))]) (((1 : Nat) : Int))).1) ([of (([98] : List UInt8)), of (([99] : List UInt8))]) (x7) (get aq 53) wq ((hsx7_8.ext' hR).wide (Nat.zero_le _) (.inl rfl)) (((OwnT.sl (hT 53 rfl rfl hG)).wide (Nat.zero_le _) (.inl rfl)).wide (Nat.zero_le _) (.inl rfl)) (by first | exact Nat.le_trans prove_len2 (by simp) | exact Nat.le_trans goes_len2 (by simp) | exact Nat.le_trans prove_len2 (by omega) | exact Nat.le_trans goes_len2 (by omega))).mono fun v w2 h => ⟨h.2, fun _ => h.1⟩)
    · refine Ask.plain rfl rfl ?_
      intro aq wq hNq hO hR hT
      replace hR := (Ext.drew _).trans hR
      exact does_and (B := (((decide (root ([of (([97] : List UInt8)), of (([98] : List UInt8)), of (([99] : List UInt8))]) = pair (pair (of (([97] : List UInt8))) (of (([98] : List UInt8)))) (of (([99] : List UInt8))))) && (decide ((((prove ([of (([97] : List UInt8)), of (([98] : List UInt8)), of (([99] : List UInt8))]) (((1 : Nat) : Int))).2 : Nat) : Int) = ((0 : Nat) : Int)))) && (decide ((prove ([of (([97] : List UInt8)), of (([98] : List UInt8)), of (([99] : List UInt8))]) (((1 : Nat) : Int))).1 = [of (([97] : List UInt8)), of (([99] : List UInt8))]))) && (decide ((((proveOn ([of (([97] : List UInt8)), of (([98] : List UInt8)), of (([99] : List UInt8))]) (((1 : Nat) : Int))).2 : Nat) : Int) = ((0 : Nat) : Int)))) (X := decide ((proveOn ([of (([97] : List UInt8)), of (([98] : List UInt8)), of (([99] : List UInt8))]) (((1 : Nat) : Int))).1 = [of (([98] : List UInt8)), of (([99] : List UInt8))])) (hT 49 rfl rfl) (fun hB => (hT 54 rfl rfl hB)) rfl ⟨Ext.refl _, rfl⟩
    · refine Ask.plain rfl rfl ?_
      intro aq wq hNq hO hR hT
      replace hR := (Ext.drew _).trans hR
      exact does_assign (V := Value.bool (((((decide (root ([of (([97] : List UInt8)), of (([98] : List UInt8)), of (([99] : List UInt8))]) = pair (pair (of (([97] : List UInt8))) (of (([98] : List UInt8)))) (of (([99] : List UInt8))))) && (decide ((((prove ([of (([97] : List UInt8)), of (([98] : List UInt8)), of (([99] : List UInt8))]) (((1 : Nat) : Int))).2 : Nat) : Int) = ((0 : Nat) : Int)))) && (decide ((prove ([of (([97] : List UInt8)), of (([98] : List UInt8)), of (([99] : List UInt8))]) (((1 : Nat) : Int))).1 = [of (([97] : List UInt8)), of (([99] : List UInt8))]))) && (decide ((((proveOn ([of (([97] : List UInt8)), of (([98] : List UInt8)), of (([99] : List UInt8))]) (((1 : Nat) : Int))).2 : Nat) : Int) = ((0 : Nat) : Int)))) && (decide ((proveOn ([of (([97] : List UInt8)), of (([98] : List UInt8)), of (([99] : List UInt8))]) (((1 : Nat) : Int))).1 = [of (([98] : List UInt8)), of (([99] : List UInt8))])))) (hT 55 rfl rfl) ⟨Ext.refl _, rfl⟩
  intro a9 wd9 hN_9 hD_9 hO hR hA hU
  obtain ⟨_, _, _, _, _, _, _, _, _, _, _, _, _, _, _, _, _, _, _, _, _, _, _, _, _, _, _, _, _, _, t0, _⟩ := hA
  have hE_9 := hE_8.trans hR
  have hbb1_9 := hbb1_8.ext' hR
  have hbb2_9 := hbb2_8.ext' hR
  have hbb3_9 := hbb3_8.ext' hR
  have hsx4_9 := hsx4_8.ext' hR
  have hsx5_9 := hsx5_8.ext' hR
  have hsx7_9 := hsx7_8.ext' hR
  have hox4_9 := hox4_8.ext' hR
  have hox5_9 := hox5_8.ext' hR
  have hox7_9 := hox7_8.ext' hR
  have s0_9 : get a9 0 = Value.bool (((((decide (root ([of (([97] : List UInt8)), of (([98] : List UInt8)), of (([99] : List UInt8))]) = pair (pair (of (([97] : List UInt8))) (of (([98] : List UInt8)))) (of (([99] : List UInt8))))) && (decide ((((prove ([of (([97] : List UInt8)), of (([98] : List UInt8)), of (([99] : List UInt8))]) (((1 : Nat) : Int))).2 : Nat) : Int) = ((0 : Nat) : Int)))) && (decide ((prove ([of (([97] : List UInt8)), of (([98] : List UInt8)), of (([99] : List UInt8))]) (((1 : Nat) : Int))).1 = [of (([97] : List UInt8)), of (([99] : List UInt8))]))) && (decide ((((proveOn ([of (([97] : List UInt8)), of (([98] : List UInt8)), of (([99] : List UInt8))]) (((1 : Nat) : Int))).2 : Nat) : Int) = ((0 : Nat) : Int)))) && (decide ((proveOn ([of (([97] : List UInt8)), of (([98] : List UInt8)), of (([99] : List UInt8))]) (((1 : Nat) : Int))).1 = [of (([98] : List UInt8)), of (([99] : List UInt8))]))) := t0
  clear hE_8 hN_8 hD_8 s1_8 s2_8 s3_8 s4_8 s5_8 s6_8 s7_8 s8_8 hbb1_8 hbb2_8 hbb3_8 hsx4_8 hsx5_8 hsx7_8 hox4_8 hox5_8 hox7_8
  refine tail_nil ?_
  refine wp_ret ?_
  refine res_one (V := Value.bool (((((decide (root ([of (([97] : List UInt8)), of (([98] : List UInt8)), of (([99] : List UInt8))]) = pair (pair (of (([97] : List UInt8))) (of (([98] : List UInt8)))) (of (([99] : List UInt8))))) && (decide ((((prove ([of (([97] : List UInt8)), of (([98] : List UInt8)), of (([99] : List UInt8))]) (((1 : Nat) : Int))).2 : Nat) : Int) = ((0 : Nat) : Int)))) && (decide ((prove ([of (([97] : List UInt8)), of (([98] : List UInt8)), of (([99] : List UInt8))]) (((1 : Nat) : Int))).1 = [of (([97] : List UInt8)), of (([99] : List UInt8))]))) && (decide ((((proveOn ([of (([97] : List UInt8)), of (([98] : List UInt8)), of (([99] : List UInt8))]) (((1 : Nat) : Int))).2 : Nat) : Int) = ((0 : Nat) : Int)))) && (decide ((proveOn ([of (([97] : List UInt8)), of (([98] : List UInt8)), of (([99] : List UInt8))]) (((1 : Nat) : Int))).1 = [of (([98] : List UInt8)), of (([99] : List UInt8))])))) rfl hD_9 s0_9 ?_
  exact ⟨congrArg Value.bool (alive04_law _ _ _), hE_9⟩

end Go.Proofs.YtncamojfjhbanaaDoor
