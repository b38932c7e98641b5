/- The walks of functions of the program: printed. -/
import Derived.Test.YtncamojfjhbanaaDoorG11
import Derived.Test.YtncamojfjhbanaaDoorG12
import Derived.Test.YtncamojfjhbanaaDoorG52
import Derived.Test.YtncamojfjhbanaaDoorF0
set_option maxRecDepth 100000
namespace Go.Proofs.YtncamojfjhbanaaDoor
open Go Go.RowKit Sk Sd
theorem call_10 : Callable Tryd.prog 10 := ⟨_, Tryd.func10, by kernel_rfl, rfl⟩
theorem zdg_24 : ∀ z, (Tryd.prog.info? 24).bind (·.zero) = some z → z.cells.toList = DG.enc Dg.zero := fun z h => by rw [zero_24] at h; cases h; rfl
theorem shortLaw (d0 : Dg) (m j : Int) (w0 : World) (hL : Laid w0) (hm0 : 0 ≤ m ∧ m < 65536) (hj0 : 0 ≤ j ∧ j < 65536) :
    Gives Tryd.prog 3 #[Dg.val (d0), Value.int .u16 (m), Value.int .u16 (j)] w0 (Pr.ex (Value.bool true)) := by
  refine enter (N := 71) Tryd.func3 rfl rfl ?_
  intro a0 hN_0 hD_0 hA
  have s0_0 : get a0 0 = Dg.val (d0) := hA 0 _ rfl
  have s1_0 : get a0 1 = Value.int .u16 (m) := hA 1 _ rfl
  have s2_0 : get a0 2 = Value.int .u16 (j) := hA 2 _ rfl
  clear hA
  have hE_0 : Ext w0 w0 := Ext.refl w0
  refine wp_seq ?_
  refine region_lex [3] [(3, Pr.box' w0.heap.size 24 [w32 (d0).a, w32 (d0).b, w32 (d0).c, w32 (d0).d]), (6, Pr.ex (Value.bool (false)))] 2 hN_0 hD_0 (by kernel_rfl) (by kernel_rfl) ?_ ?_
  · refine Asks.cons ?_ (Asks.cons ?_ (Asks.zero _))
    · refine Ask.fresh rfl rfl ?_
      intro aq wq hNq hO hR hT
      exact does_box (V := Dg.val (d0)) ((hO 0 rfl).trans s0_0) (fun b w2 he hlo hb => ⟨he, ⟨b, rfl, Nat.le_trans hR.size' hlo, hb⟩, ⟨b, rfl, hlo, hb.lt⟩⟩)
    · refine Ask.plain rfl rfl ?_
      intro aq wq hNq hO hR hT
      exact does_assign (V := Value.bool (false)) rfl ⟨Ext.refl _, rfl⟩
  intro a1 wd1 hN_1 hD_1 hO hR hA hU
  obtain ⟨t3, _, _⟩ := hA
  have hE_1 := hE_0.trans hR
  have s1_1 := (hO 1 rfl).trans s1_0
  have s2_1 := (hO 2 rfl).trans s2_0
  obtain ⟨b3, s3_1, lo_b3, hbb3_1⟩ := t3
  have fr_b3 : w0.heap.size ≤ b3 := Nat.le_trans hE_0.size' lo_b3
  clear hE_0 hN_0 hD_0 s0_0 s1_0 s2_0
  refine tail_nil ?_
  refine wp_seq ?_
  refine wp_seq ?_
  refine region_lex [] [(16, Pr.ex (Value.bool (true))), (17, Pr.ex (Value.bool (false)))] 2 hN_1 hD_1 (by kernel_rfl) (by kernel_rfl) ?_ ?_
  · refine Asks.cons ?_ (Asks.cons ?_ (Asks.zero _))
    · refine Ask.plain rfl rfl ?_
      intro aq wq hNq hO hR hT
      exact does_ret (vs := #[]) call_10 args0 rfl ((alive04 wq (hL.ext (hE_1.trans hR))).mono fun v w2 h => ⟨h.2, h.1⟩)
    · refine Ask.plain rfl rfl ?_
      intro aq wq hNq hO hR hT
      exact does_not (B := true) (hT 16 rfl rfl) ⟨Ext.refl _, rfl⟩
  intro a2 wd2 hN_2 hD_2 hO hR hA hU
  obtain ⟨_, t17, _⟩ := hA
  have hE_2 := hE_1.trans hR
  have s1_2 := (hO 1 rfl).trans s1_1
  have s2_2 := (hO 2 rfl).trans s2_1
  have s3_2 := (hO 3 rfl).trans s3_1
  have hbb3_2 := hbb3_1.ext' hR
  have s17_2 : get a2 17 = Value.bool (false) := t17
  clear hE_1 hN_1 hD_1 s1_1 s2_1 s3_1 hbb3_1
  refine tail_nil ?_
  refine wp_ifF s17_2 ?_
  refine wp_skip ?_
  refine wp_seq ?_
  refine region_lex [] [(18, Pr.ex (Value.int .u16 (m))), (19, Pr.ex (i64 ((m.toNat : Nat) : Int))), (20, Pr.ex (i64 ((m.toNat % 1000 : Nat) : Int))), (21, Pr.ex (i64 ((1 + (m.toNat % 1000) : Nat) : Int))), (7, Pr.ex (i64 ((1 + (m.toNat % 1000) : Nat) : Int)))] 5 hN_2 hD_2 (by kernel_rfl) (by kernel_rfl) ?_ ?_
  · refine Asks.cons ?_ (Asks.cons ?_ (Asks.cons ?_ (Asks.cons ?_ (Asks.cons ?_ (Asks.zero _)))))
    · refine Ask.plain rfl rfl ?_
      intro aq wq hNq hO hR hT
      exact does_move (V := Value.int .u16 (m)) ((hO 1 rfl).trans s1_2) ⟨Ext.refl _, rfl⟩
    · refine Ask.plain rfl rfl ?_
      intro aq wq hNq hO hR hT
      exact does_conv ⟨_, Tryd.underlying25⟩ Tryd.underlying3 (hT 18 rfl rfl) (by rw [IntWalk.i64_in _ ⟨by omega, by omega⟩]; omega) ⟨Ext.refl _, rfl⟩
    · refine Ask.plain rfl rfl ?_
      intro aq wq hNq hO hR hT
      exact does_rem (k := .i64) (a := ((m.toNat : Nat) : Int)) (b := ((1000 : Nat) : Int)) (r := ((m.toNat % 1000 : Nat) : Int)) (hT 19 rfl rfl) rfl (by omega) (by omega) (by omega) ⟨Ext.refl _, rfl⟩
    · refine Ask.plain rfl rfl ?_
      intro aq wq hNq hO hR hT
      exact does_add (a := ((1 : Nat) : Int)) (b := ((m.toNat % 1000 : Nat) : Int)) (r := ((1 + (m.toNat % 1000) : Nat) : Int)) rfl (hT 20 rfl rfl) (by omega) (by omega) (by omega) ⟨Ext.refl _, rfl⟩
    · refine Ask.plain rfl rfl ?_
      intro aq wq hNq hO hR hT
      exact does_assign (V := i64 ((1 + (m.toNat % 1000) : Nat) : Int)) (hT 21 rfl rfl) ⟨Ext.refl _, rfl⟩
  intro a3 wd3 hN_3 hD_3 hO hR hA hU
  obtain ⟨_, _, _, _, t7, _⟩ := hA
  have hE_3 := hE_2.trans hR
  have s2_3 := (hO 2 rfl).trans s2_2
  have s3_3 := (hO 3 rfl).trans s3_2
  have hbb3_3 := hbb3_2.ext' hR
  have s7_3 : get a3 7 = i64 ((1 + (m.toNat % 1000) : Nat) : Int) := t7
  clear hE_2 hN_2 hD_2 s1_2 s2_2 s3_2 s17_2 hbb3_2
  refine tail_nil ?_
  refine wp_seq ?_
  refine region_lex [] [(22, Pr.ex (i64 ((1 + (m.toNat % 1000) : Nat) : Int))), (23, Pr.own' DG wd3.heap.size 24 (List.replicate (1 + (m.toNat % 1000)) Dg.zero)), (8, Pr.own' DG wd3.heap.size 24 (List.replicate (1 + (m.toNat % 1000)) Dg.zero))] 3 hN_3 hD_3 (by kernel_rfl) (by kernel_rfl) ?_ ?_
  · refine Asks.cons ?_ (Asks.cons ?_ (Asks.cons ?_ (Asks.zero _)))
    · refine Ask.plain rfl rfl ?_
      intro aq wq hNq hO hR hT
      exact does_move (V := i64 ((1 + (m.toNat % 1000) : Nat) : Int)) ((hO 7 rfl).trans s7_3) ⟨Ext.refl _, rfl⟩
    · refine Ask.plain rfl rfl ?_
      intro aq wq hNq hO hR hT
      exact does_makeN (T := DG) (Z := Dg.zero) (c := 1 + (m.toNat % 1000)) app_27 zdg_24 rfl (hT 22 rfl rfl) (hT 22 rfl rfl) (by omega) (by unfold maxLen; omega) (fun v w2 he _ ho => ⟨he, OwnT.base ho hR.size'⟩)
    · refine Ask.plain rfl rfl ?_
      intro aq wq hNq hO hR hT
      exact does_assign rfl ⟨Ext.refl _, (hT 23 rfl rfl)⟩
  intro a4 wd4 hN_4 hD_4 hO hR hA hU
  obtain ⟨_, _, t8, _⟩ := hA
  have hE_4 := hE_3.trans hR
  have s2_4 := (hO 2 rfl).trans s2_3
  have s3_4 := (hO 3 rfl).trans s3_3
  have s7_4 := (hO 7 rfl).trans s7_3
  have hbb3_4 := hbb3_3.ext' hR
  obtain ⟨x8, s8_4⟩ : ∃ x, get a4 8 = x := ⟨_, rfl⟩
  replace t8 : OwnT DG wd3.heap.size 24 (List.replicate (1 + (m.toNat % 1000)) Dg.zero) x8 wd4 := by rw [← s8_4]; exact t8
  have nbo_x8_b3 : x8.ownBlock ≠ some b3 := fun e => Nat.lt_irrefl _ (Nat.lt_of_lt_of_le hbb3_3.lt (OwnT.block_lt t8 e).1)
  have hsx8_4 := t8.sl.wide (Nat.zero_le _) (.inl rfl)
  have hox8_4 := OwnT.base t8 hE_3.size'
  clear hE_3 hN_3 hD_3 s2_3 s3_3 s7_3 hbb3_3
  refine tail_nil ?_
  refine wp_seq ?_
  refine region_lex [9] [(24, Pr.ex (Dg.val (d0))), (9, Pr.box' wd4.heap.size 24 [w32 (Dg.zero).a, w32 (Dg.zero).b, w32 (Dg.zero).c, w32 (Dg.zero).d])] 2 hN_4 hD_4 (by kernel_rfl) (by kernel_rfl) ?_ ?_
  · refine Asks.cons ?_ (Asks.cons ?_ (Asks.zero _))
    · refine Ask.plain rfl rfl ?_
      intro aq wq hNq hO hR hT
      exact does_loadD (o := 0) (n := 4) (mid := [w32 (d0).a, w32 (d0).b, w32 (d0).c, w32 (d0).d]) ((hO 3 rfl).trans s3_4) (hbb3_4.ext' hR) rfl rfl (Nat.le_of_ble_eq_true rfl) row_24 rfl ⟨Ext.refl _, rfl⟩
    · refine Ask.fresh rfl rfl ?_
      intro aq wq hNq hO hR hT
      exact does_alloc zero_24 (fun b w2 he hlo hb => ⟨he, ⟨b, rfl, Nat.le_trans hR.size' hlo, hb⟩, ⟨b, rfl, hlo, hb.lt⟩⟩)
  intro a5 wd5 hN_5 hD_5 hO hR hA hU
  obtain ⟨t24, t9, _⟩ := hA
  have hE_5 := hE_4.trans hR
  have s2_5 := (hO 2 rfl).trans s2_4
  have s7_5 := (hO 7 rfl).trans s7_4
  have s8_5 := (hO 8 rfl).trans s8_4
  have hbb3_5 := hbb3_4.ext' hR
  have hsx8_5 := hsx8_4.ext' hR
  have hox8_5 := hox8_4.ext' hR
  have s24_5 : get a5 24 = Dg.val (d0) := t24
  obtain ⟨b9, s9_5, lo_b9, hbb9_5⟩ := t9
  have ne_b3_b9 : b3 ≠ b9 := fun e => Nat.lt_irrefl _ (Nat.lt_of_lt_of_le hbb3_4.lt (e ▸ lo_b9))
  have nb_x8_b9 := SlT.old hsx8_4 lo_b9
  have nbo_x8_b9 : x8.ownBlock ≠ some b9 := fun e => Nat.lt_irrefl _ (Nat.lt_of_lt_of_le (OwnT.block_lt hox8_4 e).2 lo_b9)
  have fr_b9 : w0.heap.size ≤ b9 := Nat.le_trans hE_4.size' lo_b9
  clear hE_4 hN_4 hD_4 s2_4 s3_4 s7_4 s8_4 hbb3_4 hsx8_4 hox8_4
  refine tail_none rfl rfl (does_storeD (o := 0) (n := 4) (cs' := [w32 (d0).a, w32 (d0).b, w32 (d0).c, w32 (d0).d]) (V := Dg.val (d0)) s9_5 s24_5 hbb9_5 (Nat.le_of_ble_eq_true rfl) rfl siz_24 rfl rfl (fun wd6 hX hz hbb9_6 => ?_))
  have hE_6 := hE_5.since hX (fun k e => e ▸ fr_b9)
  have hbb3_6 := hbb3_5.ext hX ne_b3_b9
  have hsx8_6 := SlT.over hsx8_5 hX nb_x8_b9
  have hox8_6 := OwnT.ext hox8_5 hX (fun k hk e => nbo_x8_b9 (e ▸ hk))
  clear hX hz hE_5 hbb3_5 hbb9_5 hsx8_5 hox8_5
  refine tail_nil ?_
  refine wp_seq ?_
  refine wp_seq ?_
  refine region_lex [] [(10, Pr.ex (i64 ((0 : Nat) : Int)))] 1 hN_5 hD_5 (by kernel_rfl) (by kernel_rfl) ?_ ?_
  · refine Asks.cons ?_ (Asks.zero _)
    · refine Ask.plain rfl rfl ?_
      intro aq wq hNq hO hR hT
      exact does_assign (V := i64 ((0 : Nat) : Int)) rfl ⟨Ext.refl _, rfl⟩
  intro a7 wd7 hN_7 hD_7 hO hR hA hU
  obtain ⟨t10, _⟩ := hA
  have hE_7 := hE_6.trans hR
  have s2_7 := (hO 2 rfl).trans s2_5
  have s7_7 := (hO 7 rfl).trans s7_5
  have s8_7 := (hO 8 rfl).trans s8_5
  have s9_7 := (hO 9 rfl).trans s9_5
  have hbb3_7 := hbb3_6.ext' hR
  have hbb9_7 := hbb9_6.ext' hR
  have hsx8_7 := hsx8_6.ext' hR
  have hox8_7 := hox8_6.ext' hR
  have s10_7 : get a7 10 = i64 ((0 : Nat) : Int) := t10
  clear hE_6 hN_5 hD_5 s2_5 s7_5 s8_5 s9_5 s24_5 hbb3_6 hbb9_6 hsx8_6 hox8_6
  refine tail_nil ?_
  refine wp_block ?_
  refine loop_g (fun mz az wz => ∃ k : Nat, ∃ x : Dg, ∃ acc : List Dg, ∃ xo : Value, mz = 1 + m.toNat % 1000 - k ∧ (az.tmps.size = 71) ∧ (az.defers = []) ∧ (get az 2 = Value.int .u16 (j)) ∧ (get az 7 = i64 ((1 + (m.toNat % 1000) : Nat) : Int)) ∧ (get az 8 = xo) ∧ (get az 9 = Value.pointer (some ⟨b9, 0, none⟩)) ∧ (get az 10 = i64 ((k : Nat) : Int)) ∧ (Ext w0 wz) ∧ (Has wz b3 24 [w32 (d0).a, w32 (d0).b, w32 (d0).c, w32 (d0).d]) ∧ (Has wz b9 24 [w32 (x).a, w32 (x).b, w32 (x).c, w32 (x).d]) ∧ (OwnT DG w0.heap.size 24 (acc) xo wz) ∧ (xo.ownBlock ≠ some b3) ∧ (xo.ownBlock ≠ some b9) ∧ (acc.length = 1 + m.toNat % 1000) ∧ (k ≤ 1 + m.toNat % 1000)) ?_ ?_
  · exact ⟨_, 0, d0, (List.replicate (1 + m.toNat % 1000) Dg.zero), x8, rfl, hN_7, hD_7, s2_7, s7_7, s8_7, s9_7, s10_7, hE_7, hbb3_7, hbb9_7, hox8_7, nbo_x8_b3, nbo_x8_b9, List.length_replicate, Nat.zero_le _⟩
  rintro mz a8 wd8 ⟨k, x, acc, xo, rfl, hN_8, hD_8, s2_8, s7_8, s8_8, s9_8, s10_8, hE_8, hbb3_8, hbb9_8, hoxo_8, nbo_xo_b3, nbo_xo_b9, hacc, hk⟩
  have hsxo_8 := hoxo_8.sl.wide (Nat.zero_le _) (.inl rfl)
  refine wp_seq ?_
  refine wp_seq ?_
  refine region_lex [] [(25, Pr.ex (i64 ((k : Nat) : Int))), (26, Pr.ex (i64 ((1 + (m.toNat % 1000) : Nat) : Int))), (27, Pr.ex (Value.bool (decide (((k : Nat) : Int) < ((1 + (m.toNat % 1000) : Nat) : Int)))))] 3 hN_8 hD_8 (by kernel_rfl) (by kernel_rfl) ?_ ?_
  · refine Asks.cons ?_ (Asks.cons ?_ (Asks.cons ?_ (Asks.zero _)))
    · refine Ask.plain rfl rfl ?_
      intro aq wq hNq hO hR hT
      exact does_move (V := i64 ((k : Nat) : Int)) ((hO 10 rfl).trans s10_8) ⟨Ext.refl _, rfl⟩
    · refine Ask.plain rfl rfl ?_
      intro aq wq hNq hO hR hT
      exact does_move (V := i64 ((1 + (m.toNat % 1000) : Nat) : Int)) ((hO 7 rfl).trans s7_8) ⟨Ext.refl _, rfl⟩
    · refine Ask.plain rfl rfl ?_
      intro aq wq hNq hO hR hT
      exact does_lss (a := ((k : Nat) : Int)) (b := ((1 + (m.toNat % 1000) : Nat) : Int)) (hT 25 rfl rfl) (hT 26 rfl rfl) ⟨Ext.refl _, rfl⟩
  intro a9 wd9 hN_9 hD_9 hO hR hA hU
  obtain ⟨_, _, t27, _⟩ := hA
  have hE_9 := hE_8.trans hR
  have s2_9 := (hO 2 rfl).trans s2_8
  have s7_9 := (hO 7 rfl).trans s7_8
  have s8_9 := (hO 8 rfl).trans s8_8
  have s9_9 := (hO 9 rfl).trans s9_8
  have s10_9 := (hO 10 rfl).trans s10_8
  have hbb3_9 := hbb3_8.ext' hR
  have hbb9_9 := hbb9_8.ext' hR
  have hsxo_9 := hsxo_8.ext' hR
  have hoxo_9 := hoxo_8.ext' hR
  have s27_9 : get a9 27 = Value.bool (decide (((k : Nat) : Int) < ((1 + (m.toNat % 1000) : Nat) : Int))) := t27
  clear hE_8 hN_8 hD_8 s2_8 s7_8 s8_8 s9_8 s10_8 hbb3_8 hbb9_8 hsxo_8 hoxo_8
  refine tail_nil ?_
  refine wp_if (B := decide (((k : Nat) : Int) < ((1 + (m.toNat % 1000) : Nat) : Int))) s27_9 (fun hc0 => ?_) (fun hc0 => ?_)
  · -- T 0
    have hc0 := of_decide_eq_true hc0
    refine wp_skip ?_
    refine wp_seq ?_
    refine wp_block ?_
    refine wp_seq ?_
    refine region_lex [] [(30, Pr.ex (Value.pointer (some ⟨b9, 0, none⟩))), (31, Pr.ex (w32 ((x).a))), (32, Pr.ex (w32 (((x).a : UInt32) + (1 : UInt32)))), (33, Pr.ex (Value.pointer (some ⟨b9, 0, none⟩)))] 4 hN_9 hD_9 (by kernel_rfl) (by kernel_rfl) ?_ ?_
    · refine Asks.cons ?_ (Asks.cons ?_ (Asks.cons ?_ (Asks.cons ?_ (Asks.zero _))))
      · refine Ask.plain rfl rfl ?_
        intro aq wq hNq hO hR hT
        exact does_indexArr (k := .i64) (i := 0) (o' := 0) arr_24 ((hO 9 rfl).trans s9_9) rfl (by decide) (by decide) rfl ⟨Ext.refl _, rfl⟩
      · refine Ask.plain rfl rfl ?_
        intro aq wq hNq hO hR hT
        exact does_loadD1 (o := 0) (V := w32 ((x).a)) (hT 30 rfl rfl) (hbb9_9.ext' hR) rfl one_22 ⟨Ext.refl _, rfl⟩
      · refine Ask.plain rfl rfl ?_
        intro aq wq hNq hO hR hT
        exact does_add32 (a := ((x).a : UInt32)) (b := (1 : UInt32)) (hT 31 rfl rfl) rfl ⟨Ext.refl _, rfl⟩
      · refine Ask.plain rfl rfl ?_
        intro aq wq hNq hO hR hT
        exact does_indexArr (k := .i64) (i := 0) (o' := 0) arr_24 ((hO 9 rfl).trans s9_9) rfl (by decide) (by decide) rfl ⟨Ext.refl _, rfl⟩
    intro a10 wd10 hN_10 hD_10 hO hR hA hU
    obtain ⟨_, _, t32, t33, _⟩ := hA
    have hE_10 := hE_9.trans hR
    have s2_10 := (hO 2 rfl).trans s2_9
    have s7_10 := (hO 7 rfl).trans s7_9
    have s8_10 := (hO 8 rfl).trans s8_9
    have s9_10 := (hO 9 rfl).trans s9_9
    have s10_10 := (hO 10 rfl).trans s10_9
    have hbb3_10 := hbb3_9.ext' hR
    have hbb9_10 := hbb9_9.ext' hR
    have hsxo_10 := hsxo_9.ext' hR
    have hoxo_10 := hoxo_9.ext' hR
    have s32_10 : get a10 32 = w32 (((x).a : UInt32) + (1 : UInt32)) := t32
    have s33_10 : get a10 33 = Value.pointer (some ⟨b9, 0, none⟩) := t33
    clear hE_9 hN_9 hD_9 s2_9 s7_9 s8_9 s9_9 s10_9 s27_9 hbb3_9 hbb9_9 hsxo_9 hoxo_9
    refine tail_none rfl rfl (does_storeD (o := 0) (n := 1) (cs' := [w32 ((⟨((x).a : UInt32) + (1 : UInt32), (x).b, (x).c, (x).d⟩ : Dg)).a, w32 ((⟨((x).a : UInt32) + (1 : UInt32), (x).b, (x).c, (x).d⟩ : Dg)).b, w32 ((⟨((x).a : UInt32) + (1 : UInt32), (x).b, (x).c, (x).d⟩ : Dg)).c, w32 ((⟨((x).a : UInt32) + (1 : UInt32), (x).b, (x).c, (x).d⟩ : Dg)).d]) (V := w32 (((x).a : UInt32) + (1 : UInt32))) s33_10 s32_10 hbb9_10 (Nat.le_of_ble_eq_true rfl) rfl siz_22 rfl rfl (fun wd11 hX hz hbb9_11 => ?_))
    have hE_11 := hE_10.since hX (fun k e => e ▸ fr_b9)
    have hbb3_11 := hbb3_10.ext hX ne_b3_b9
    have hsxo_11 := SlT.over hsxo_10 hX (fun _ => nbo_xo_b9)
    have hoxo_11 := OwnT.ext hoxo_10 hX (fun k hk e => nbo_xo_b9 (e ▸ hk))
    clear hX hz hE_10 hbb3_10 hbb9_10 hsxo_10 hoxo_10
    refine tail_nil ?_
    refine region_lex [] [(34, Pr.ex (xo)), (35, Pr.ex (i64 ((k : Nat) : Int))), (36, Pr.ex (Dg.val ((⟨((x).a : UInt32) + (1 : UInt32), (x).b, (x).c, (x).d⟩ : Dg)))), (37, Pr.ex (elAddr xo k 4))] 4 hN_10 hD_10 (by kernel_rfl) (by kernel_rfl) ?_ ?_
    · refine Asks.cons ?_ (Asks.cons ?_ (Asks.cons ?_ (Asks.cons ?_ (Asks.zero _))))
      · refine Ask.plain rfl rfl ?_
        intro aq wq hNq hO hR hT
        exact does_move (V := xo) ((hO 8 rfl).trans s8_10) ⟨Ext.refl _, rfl⟩
      · refine Ask.plain rfl rfl ?_
        intro aq wq hNq hO hR hT
        exact does_move (V := i64 ((k : Nat) : Int)) ((hO 10 rfl).trans s10_10) ⟨Ext.refl _, rfl⟩
      · refine Ask.plain rfl rfl ?_
        intro aq wq hNq hO hR hT
        exact does_loadD (o := 0) (n := 4) (mid := [w32 ((⟨((x).a : UInt32) + (1 : UInt32), (x).b, (x).c, (x).d⟩ : Dg)).a, w32 ((⟨((x).a : UInt32) + (1 : UInt32), (x).b, (x).c, (x).d⟩ : Dg)).b, w32 ((⟨((x).a : UInt32) + (1 : UInt32), (x).b, (x).c, (x).d⟩ : Dg)).c, w32 ((⟨((x).a : UInt32) + (1 : UInt32), (x).b, (x).c, (x).d⟩ : Dg)).d]) ((hO 9 rfl).trans s9_10) (hbb9_11.ext' hR) rfl rfl (Nat.le_of_ble_eq_true rfl) row_24 rfl ⟨Ext.refl _, rfl⟩
      · refine Ask.plain rfl rfl ?_
        intro aq wq hNq hO hR hT
        exact does_elAddr (T := DG) (base := w0.heap.size) (xs := acc) (i := ((k : Nat) : Int)) sli_27 rfl (hT 34 rfl rfl) (hoxo_11.ext' hR) (hT 35 rfl rfl) (by omega) (by rw [hacc]; omega) ⟨Ext.refl _, rfl⟩
    intro a12 wd12 hN_12 hD_12 hO hR hA hU
    obtain ⟨_, _, t36, t37, _⟩ := hA
    have hE_12 := hE_11.trans hR
    have s2_12 := (hO 2 rfl).trans s2_10
    have s7_12 := (hO 7 rfl).trans s7_10
    have s8_12 := (hO 8 rfl).trans s8_10
    have s9_12 := (hO 9 rfl).trans s9_10
    have s10_12 := (hO 10 rfl).trans s10_10
    have hbb3_12 := hbb3_11.ext' hR
    have hbb9_12 := hbb9_11.ext' hR
    have hsxo_12 := hsxo_11.ext' hR
    have hoxo_12 := hoxo_11.ext' hR
    have s36_12 : get a12 36 = Dg.val ((⟨((x).a : UInt32) + (1 : UInt32), (x).b, (x).c, (x).d⟩ : Dg)) := t36
    have s37_12 : get a12 37 = elAddr xo k 4 := t37
    clear hE_11 hN_10 hD_10 s2_10 s7_10 s8_10 s9_10 s10_10 s32_10 s33_10 hbb3_11 hbb9_11 hsxo_11 hoxo_11
    refine tail_none rfl rfl (does_storeEl (T := DG) (X := (⟨((x).a : UInt32) + (1 : UInt32), (x).b, (x).c, (x).d⟩ : Dg)) (V := Dg.val ((⟨((x).a : UInt32) + (1 : UInt32), (x).b, (x).c, (x).d⟩ : Dg))) (v := xo) (k := k) rfl s37_12 s36_12 rfl hoxo_12 (by rw [hacc]; omega) siz_24 (fun wd13 hX hoxo_13 => ?_))
    have hE_13 := hE_12.since hX (fun b hb => Nat.le_trans (Nat.le_refl _) (OwnT.block_lt hoxo_12 hb).1)
    have hbb3_13 := hbb3_12.ext hX nbo_xo_b3
    have hbb9_13 := hbb9_12.ext hX nbo_xo_b9
    have hsxo_13 := hoxo_13.sl.wide (Nat.zero_le _) (.inl rfl)
    clear hX hE_12 hoxo_12 hbb3_12 hbb9_12
    refine tail_nil ?_
    refine region_lex [] [(28, Pr.ex (i64 ((k : Nat) : Int))), (29, Pr.ex (i64 ((k + 1 : Nat) : Int)))] 2 hN_12 hD_12 (by kernel_rfl) (by kernel_rfl) ?_ ?_
    · refine Asks.cons ?_ (Asks.cons ?_ (Asks.zero _))
      · refine Ask.plain rfl rfl ?_
        intro aq wq hNq hO hR hT
        exact does_move (V := i64 ((k : Nat) : Int)) ((hO 10 rfl).trans s10_12) ⟨Ext.refl _, rfl⟩
      · refine Ask.plain rfl rfl ?_
        intro aq wq hNq hO hR hT
        exact does_add (a := ((k : Nat) : Int)) (b := ((1 : Nat) : Int)) (r := ((k + 1 : Nat) : Int)) (hT 28 rfl rfl) rfl (by omega) (by omega) (by omega) ⟨Ext.refl _, rfl⟩
    intro a14 wd14 hN_14 hD_14 hO hR hA hU
    obtain ⟨_, t29, _⟩ := hA
    have hE_14 := hE_13.trans hR
    have s2_14 := (hO 2 rfl).trans s2_12
    have s7_14 := (hO 7 rfl).trans s7_12
    have s8_14 := (hO 8 rfl).trans s8_12
    have s9_14 := (hO 9 rfl).trans s9_12
    have s10_14 := (hO 10 rfl).trans s10_12
    have hbb3_14 := hbb3_13.ext' hR
    have hbb9_14 := hbb9_13.ext' hR
    have hsxo_14 := hsxo_13.ext' hR
    have hoxo_14 := hoxo_13.ext' hR
    have s29_14 : get a14 29 = i64 ((k + 1 : Nat) : Int) := t29
    clear hE_13 hN_12 hD_12 s2_12 s7_12 s8_12 s9_12 s10_12 s36_12 s37_12 hbb3_13 hbb9_13 hsxo_13 hoxo_13
    refine tail_put rfl rfl hN_14 hD_14 (by decide) (does_assign (V := i64 ((k + 1 : Nat) : Int)) s29_14 (fun a15 hN_15 hD_15 hv hO => ?_))
    have s10_15 := hv
    have s2_15 := (hO 2 rfl).trans s2_14
    have s7_15 := (hO 7 rfl).trans s7_14
    have s8_15 := (hO 8 rfl).trans s8_14
    have s9_15 := (hO 9 rfl).trans s9_14
    clear hO hv hN_14 hD_14 s2_14 s7_14 s8_14 s9_14 s29_14 s10_14
    refine tail_nil ?_
    exact ⟨_, by omega, k + 1, (⟨((x).a : UInt32) + (1 : UInt32), (x).b, (x).c, (x).d⟩ : Dg), acc.set k ((⟨((x).a : UInt32) + (1 : UInt32), (x).b, (x).c, (x).d⟩ : Dg)), xo, rfl, hN_15, hD_15, s2_15, s7_15, s8_15, s9_15, s10_15, hE_14, hbb3_14, hbb9_14, hoxo_14, nbo_xo_b3, nbo_xo_b9, by rw [List.length_set]; exact hacc, by omega⟩
  have hc0 := of_decide_eq_false hc0
  have hjm := Nat.mod_lt j.toNat (show 0 < 1 + m.toNat % 1000 by omega)
  refine wp_exit ?_
  refine wp_seq ?_
  refine region_lex [] [(38, Pr.ex (Value.int .u16 (j))), (39, Pr.ex (i64 ((j.toNat : Nat) : Int))), (40, Pr.ex (i64 ((1 + (m.toNat % 1000) : Nat) : Int))), (41, Pr.ex (i64 ((j.toNat % (1 + (m.toNat % 1000)) : Nat) : Int))), (11, Pr.ex (i64 ((j.toNat % (1 + (m.toNat % 1000)) : Nat) : Int)))] 5 hN_9 hD_9 (by kernel_rfl) (by kernel_rfl) ?_ ?_
  · refine Asks.cons ?_ (Asks.cons ?_ (Asks.cons ?_ (Asks.cons ?_ (Asks.cons ?_ (Asks.zero _)))))
    · refine Ask.plain rfl rfl ?_
      intro aq wq hNq hO hR hT
      exact does_move (V := Value.int .u16 (j)) ((hO 2 rfl).trans s2_9) ⟨Ext.refl _, rfl⟩
    · refine Ask.plain rfl rfl ?_
      intro aq wq hNq hO hR hT
      exact does_conv ⟨_, Tryd.underlying25⟩ Tryd.underlying3 (hT 38 rfl rfl) (by rw [IntWalk.i64_in _ ⟨by omega, by omega⟩]; omega) ⟨Ext.refl _, rfl⟩
    · refine Ask.plain rfl rfl ?_
      intro aq wq hNq hO hR hT
      exact does_move (V := i64 ((1 + (m.toNat % 1000) : Nat) : Int)) ((hO 7 rfl).trans s7_9) ⟨Ext.refl _, rfl⟩
    · refine Ask.plain rfl rfl ?_
      intro aq wq hNq hO hR hT
      exact does_rem (k := .i64) (a := ((j.toNat : Nat) : Int)) (b := ((1 + (m.toNat % 1000) : Nat) : Int)) (r := ((j.toNat % (1 + (m.toNat % 1000)) : Nat) : Int)) (hT 39 rfl rfl) (hT 40 rfl rfl) (by omega) (by omega) (by omega) ⟨Ext.refl _, rfl⟩
    · refine Ask.plain rfl rfl ?_
      intro aq wq hNq hO hR hT
      exact does_assign (V := i64 ((j.toNat % (1 + (m.toNat % 1000)) : Nat) : Int)) (hT 41 rfl rfl) ⟨Ext.refl _, rfl⟩
  intro a16 wd16 hN_16 hD_16 hO hR hA hU
  obtain ⟨_, _, _, _, t11, _⟩ := hA
  have hE_16 := hE_9.trans hR
  have s8_16 := (hO 8 rfl).trans s8_9
  have hbb3_16 := hbb3_9.ext' hR
  have hbb9_16 := hbb9_9.ext' hR
  have hsxo_16 := hsxo_9.ext' hR
  have hoxo_16 := hoxo_9.ext' hR
  have s11_16 : get a16 11 = i64 ((j.toNat % (1 + (m.toNat % 1000)) : Nat) : Int) := t11
  clear hE_9 hN_9 hD_9 s2_9 s7_9 s8_9 s9_9 s10_9 s27_9 hbb3_9 hbb9_9 hsxo_9 hoxo_9
  refine tail_nil ?_
  refine wp_seq ?_
  refine region_lex [] [(43, Pr.ex (xo)), (44, Pr.ex (i64 ((j.toNat % (1 + (m.toNat % 1000)) : Nat) : Int))), (45, Pr.t2 (Pr.own' DG wd16.heap.size 24 ((prove acc (((j.toNat % (1 + (m.toNat % 1000)) : Nat) : Int))).1)) (Pr.ex (i64 (((prove acc (((j.toNat % (1 + (m.toNat % 1000)) : Nat) : Int))).2 : Nat) : Int)))), (42, Pr.t2 (Pr.own' DG wd16.heap.size 24 ((prove acc (((j.toNat % (1 + (m.toNat % 1000)) : Nat) : Int))).1)) (Pr.ex (i64 (((prove acc (((j.toNat % (1 + (m.toNat % 1000)) : Nat) : Int))).2 : Nat) : Int)))), (46, Pr.own' DG wd16.heap.size 24 ((prove acc (((j.toNat % (1 + (m.toNat % 1000)) : Nat) : Int))).1)), (47, Pr.ex (i64 (((prove acc (((j.toNat % (1 + (m.toNat % 1000)) : Nat) : Int))).2 : Nat) : Int))), (12, Pr.own' DG wd16.heap.size 24 ((prove acc (((j.toNat % (1 + (m.toNat % 1000)) : Nat) : Int))).1)), (13, Pr.ex (i64 (((prove acc (((j.toNat % (1 + (m.toNat % 1000)) : Nat) : Int))).2 : Nat) : Int)))] 8 hN_16 hD_16 (by kernel_rfl) (by kernel_rfl) ?_ ?_
  · refine Asks.cons ?_ (Asks.cons ?_ (Asks.cons ?_ (Asks.cons ?_ (Asks.cons ?_ (Asks.cons ?_ (Asks.cons ?_ (Asks.cons ?_ (Asks.zero _))))))))
    · refine Ask.plain rfl rfl ?_
      intro aq wq hNq hO hR hT
      exact does_move (V := xo) ((hO 8 rfl).trans s8_16) ⟨Ext.refl _, rfl⟩
    · refine Ask.plain rfl rfl ?_
      intro aq wq hNq hO hR hT
      exact does_move (V := i64 ((j.toNat % (1 + (m.toNat % 1000)) : Nat) : Int)) ((hO 11 rfl).trans s11_16) ⟨Ext.refl _, rfl⟩
    · refine Ask.plain rfl rfl ?_
      intro aq wq hNq hO hR hT
      exact does_ret (vs := #[xo, i64 ((j.toNat % (1 + (m.toNat % 1000)) : Nat) : Int)]) call_11 (args2 (hT 43 rfl rfl) (hT 44 rfl rfl)) rfl ((prove_ (acc) (((j.toNat % (1 + (m.toNat % 1000)) : Nat) : Int)) (xo) wq (hL.ext (hE_16.trans hR)) ((hsxo_16.ext' hR).wide (Nat.zero_le _) (.inl rfl)) (by rw [hacc]; omega)).mono fun v w2 h => ⟨h.2, by obtain ⟨x0, x1, hv, k0, k1⟩ := h.1; exact ⟨x0, x1, hv, OwnT.base k0 hR.size', k1⟩⟩)
    · refine Ask.plain rfl rfl ?_
      intro aq wq hNq hO hR hT
      exact does_move rfl ⟨Ext.refl _, (hT 45 rfl rfl)⟩
    · refine Ask.plain rfl rfl ?_
      intro aq wq hNq hO hR hT
      obtain ⟨x0, x1, hv, k0, k1⟩ := (hT 42 rfl rfl)
      exact does_extract hv rfl ⟨Ext.refl _, k0⟩
    · refine Ask.plain rfl rfl ?_
      intro aq wq hNq hO hR hT
      obtain ⟨x0, x1, hv, k0, k1⟩ := (hT 42 rfl rfl)
      exact does_extract (V := i64 (((prove acc (((j.toNat % (1 + (m.toNat % 1000)) : Nat) : Int))).2 : Nat) : Int)) hv (by rw [show x1 = i64 (((prove acc (((j.toNat % (1 + (m.toNat % 1000)) : Nat) : Int))).2 : Nat) : Int) from k1]; rfl) ⟨Ext.refl _, rfl⟩
    · refine Ask.plain rfl rfl ?_
      intro aq wq hNq hO hR hT
      exact does_assign rfl ⟨Ext.refl _, (hT 46 rfl rfl)⟩
    · refine Ask.plain rfl rfl ?_
      intro aq wq hNq hO hR hT
      exact does_assign (V := i64 (((prove acc (((j.toNat % (1 + (m.toNat % 1000)) : Nat) : Int))).2 : Nat) : Int)) (hT 47 rfl rfl) ⟨Ext.refl _, rfl⟩
  intro a17 wd17 hN_17 hD_17 hO hR hA hU
  obtain ⟨_, _, _, _, _, _, t12, t13, _⟩ := hA
  have hE_17 := hE_16.trans hR
  have s8_17 := (hO 8 rfl).trans s8_16
  have s11_17 := (hO 11 rfl).trans s11_16
  have hbb3_17 := hbb3_16.ext' hR
  have hbb9_17 := hbb9_16.ext' hR
  have hsxo_17 := hsxo_16.ext' hR
  have hoxo_17 := hoxo_16.ext' hR
  obtain ⟨x12, s12_17⟩ : ∃ x, get a17 12 = x := ⟨_, rfl⟩
  replace t12 : OwnT DG wd16.heap.size 24 ((prove acc (((j.toNat % (1 + (m.toNat % 1000)) : Nat) : Int))).1) x12 wd17 := by rw [← s12_17]; exact t12
  have nbo_x12_b3 : x12.ownBlock ≠ some b3 := fun e => Nat.lt_irrefl _ (Nat.lt_of_lt_of_le hbb3_16.lt (OwnT.block_lt t12 e).1)
  have nbo_x12_b9 : x12.ownBlock ≠ some b9 := fun e => Nat.lt_irrefl _ (Nat.lt_of_lt_of_le hbb9_16.lt (OwnT.block_lt t12 e).1)
  have no_x12_xo : ∀ k, x12.ownBlock = some k → xo.ownBlock ≠ some k := fun k e e' => Nat.lt_irrefl _ (Nat.lt_of_lt_of_le (OwnT.block_lt hoxo_16 e').2 (OwnT.block_lt t12 e).1)
  have hsx12_17 := t12.sl.wide (Nat.zero_le _) (.inl rfl)
  have hox12_17 := OwnT.base t12 hE_16.size'
  have s13_17 : get a17 13 = i64 (((prove acc (((j.toNat % (1 + (m.toNat % 1000)) : Nat) : Int))).2 : Nat) : Int) := t13
  clear hE_16 hN_16 hD_16 s8_16 s11_16 hbb3_16 hbb9_16 hsxo_16 hoxo_16
  refine tail_nil ?_
  refine wp_seq ?_
  refine region_lex [] [(49, Pr.ex (xo)), (50, Pr.ex (i64 ((j.toNat % (1 + (m.toNat % 1000)) : Nat) : Int))), (51, Pr.ex (i64 (((j.toNat % (1 + (m.toNat % 1000))) + 1 : Nat) : Int))), (52, Pr.t2 (Pr.own' DG wd17.heap.size 24 ((proveOn acc ((((j.toNat % (1 + (m.toNat % 1000))) + 1 : Nat) : Int))).1)) (Pr.ex (i64 (((proveOn acc ((((j.toNat % (1 + (m.toNat % 1000))) + 1 : Nat) : Int))).2 : Nat) : Int)))), (48, Pr.t2 (Pr.own' DG wd17.heap.size 24 ((proveOn acc ((((j.toNat % (1 + (m.toNat % 1000))) + 1 : Nat) : Int))).1)) (Pr.ex (i64 (((proveOn acc ((((j.toNat % (1 + (m.toNat % 1000))) + 1 : Nat) : Int))).2 : Nat) : Int)))), (53, Pr.own' DG wd17.heap.size 24 ((proveOn acc ((((j.toNat % (1 + (m.toNat % 1000))) + 1 : Nat) : Int))).1)), (54, Pr.ex (i64 (((proveOn acc ((((j.toNat % (1 + (m.toNat % 1000))) + 1 : Nat) : Int))).2 : Nat) : Int))), (14, Pr.own' DG wd17.heap.size 24 ((proveOn acc ((((j.toNat % (1 + (m.toNat % 1000))) + 1 : Nat) : Int))).1)), (15, Pr.ex (i64 (((proveOn acc ((((j.toNat % (1 + (m.toNat % 1000))) + 1 : Nat) : Int))).2 : Nat) : Int)))] 9 hN_17 hD_17 (by kernel_rfl) (by kernel_rfl) ?_ ?_
  · refine Asks.cons ?_ (Asks.cons ?_ (Asks.cons ?_ (Asks.cons ?_ (Asks.cons ?_ (Asks.cons ?_ (Asks.cons ?_ (Asks.cons ?_ (Asks.cons ?_ (Asks.zero _)))))))))
    · refine Ask.plain rfl rfl ?_
      intro aq wq hNq hO hR hT
      exact does_move (V := xo) ((hO 8 rfl).trans s8_17) ⟨Ext.refl _, rfl⟩
    · refine Ask.plain rfl rfl ?_
      intro aq wq hNq hO hR hT
      exact does_move (V := i64 ((j.toNat % (1 + (m.toNat % 1000)) : Nat) : Int)) ((hO 11 rfl).trans s11_17) ⟨Ext.refl _, rfl⟩
    · refine Ask.plain rfl rfl ?_
      intro aq wq hNq hO hR hT
      exact does_add (a := ((j.toNat % (1 + (m.toNat % 1000)) : Nat) : Int)) (b := ((1 : Nat) : Int)) (r := (((j.toNat % (1 + (m.toNat % 1000))) + 1 : Nat) : Int)) (hT 50 rfl rfl) rfl (by omega) (by omega) (by omega) ⟨Ext.refl _, rfl⟩
    · refine Ask.plain rfl rfl ?_
      intro aq wq hNq hO hR hT
      exact does_ret (vs := #[xo, i64 (((j.toNat % (1 + (m.toNat % 1000))) + 1 : Nat) : Int)]) call_12 (args2 (hT 49 rfl rfl) (hT 51 rfl rfl)) rfl ((proveOn_ (acc) ((((j.toNat % (1 + (m.toNat % 1000))) + 1 : Nat) : Int)) (xo) wq (hL.ext (hE_17.trans hR)) ((hsxo_17.ext' hR).wide (Nat.zero_le _) (.inl rfl)) (by rw [hacc]; omega)).mono fun v w2 h => ⟨h.2, by obtain ⟨x0, x1, hv, k0, k1⟩ := h.1; exact ⟨x0, x1, hv, OwnT.base k0 hR.size', k1⟩⟩)
    · refine Ask.plain rfl rfl ?_
      intro aq wq hNq hO hR hT
      exact does_move rfl ⟨Ext.refl _, (hT 52 rfl rfl)⟩
    · refine Ask.plain rfl rfl ?_
      intro aq wq hNq hO hR hT
      obtain ⟨x0, x1, hv, k0, k1⟩ := (hT 48 rfl rfl)
      exact does_extract hv rfl ⟨Ext.refl _, k0⟩
    · refine Ask.plain rfl rfl ?_
      intro aq wq hNq hO hR hT
      obtain ⟨x0, x1, hv, k0, k1⟩ := (hT 48 rfl rfl)
      exact does_extract (V := i64 (((proveOn acc ((((j.toNat % (1 + (m.toNat % 1000))) + 1 : Nat) : Int))).2 : Nat) : Int)) hv (by rw [show x1 = i64 (((proveOn acc ((((j.toNat % (1 + (m.toNat % 1000))) + 1 : Nat) : Int))).2 : Nat) : Int) from k1]; rfl) ⟨Ext.refl _, rfl⟩
    · refine Ask.plain rfl rfl ?_
      intro aq wq hNq hO hR hT
      exact does_assign rfl ⟨Ext.refl _, (hT 53 rfl rfl)⟩
    · refine Ask.plain rfl rfl ?_
      intro aq wq hNq hO hR hT
      exact does_assign (V := i64 (((proveOn acc ((((j.toNat % (1 + (m.toNat % 1000))) + 1 : Nat) : Int))).2 : Nat) : Int)) (hT 54 rfl rfl) ⟨Ext.refl _, rfl⟩
  intro a18 wd18 hN_18 hD_18 hO hR hA hU
  obtain ⟨_, _, _, _, _, _, _, t14, t15, _⟩ := hA
  have hE_18 := hE_17.trans hR
  have s12_18 := (hO 12 rfl).trans s12_17
  have s13_18 := (hO 13 rfl).trans s13_17
  have hbb3_18 := hbb3_17.ext' hR
  have hbb9_18 := hbb9_17.ext' hR
  have hsxo_18 := hsxo_17.ext' hR
  have hsx12_18 := hsx12_17.ext' hR
  have hoxo_18 := hoxo_17.ext' hR
  have hox12_18 := hox12_17.ext' hR
  obtain ⟨x14, s14_18⟩ : ∃ x, get a18 14 = x := ⟨_, rfl⟩
  replace t14 : OwnT DG wd17.heap.size 24 ((proveOn acc ((((j.toNat % (1 + (m.toNat % 1000))) + 1 : Nat) : Int))).1) x14 wd18 := by rw [← s14_18]; exact t14
  have nbo_x14_b3 : x14.ownBlock ≠ some b3 := fun e => Nat.lt_irrefl _ (Nat.lt_of_lt_of_le hbb3_17.lt (OwnT.block_lt t14 e).1)
  have nbo_x14_b9 : x14.ownBlock ≠ some b9 := fun e => Nat.lt_irrefl _ (Nat.lt_of_lt_of_le hbb9_17.lt (OwnT.block_lt t14 e).1)
  have no_x14_xo : ∀ k, x14.ownBlock = some k → xo.ownBlock ≠ some k := fun k e e' => Nat.lt_irrefl _ (Nat.lt_of_lt_of_le (OwnT.block_lt hoxo_17 e').2 (OwnT.block_lt t14 e).1)
  have no_x14_x12 : ∀ k, x14.ownBlock = some k → x12.ownBlock ≠ some k := fun k e e' => Nat.lt_irrefl _ (Nat.lt_of_lt_of_le (OwnT.block_lt hox12_17 e').2 (OwnT.block_lt t14 e).1)
  have hsx14_18 := t14.sl.wide (Nat.zero_le _) (.inl rfl)
  have hox14_18 := OwnT.base t14 hE_17.size'
  have s15_18 : get a18 15 = i64 (((proveOn acc ((((j.toNat % (1 + (m.toNat % 1000))) + 1 : Nat) : Int))).2 : Nat) : Int) := t15
  clear hE_17 hN_17 hD_17 s8_17 s11_17 s12_17 s13_17 hbb3_17 hbb9_17 hsxo_17 hsx12_17 hoxo_17 hox12_17
  refine tail_nil ?_
  refine wp_seq ?_
  refine region_lex [] [(55, Pr.ex (i64 (((prove acc (((j.toNat % (1 + (m.toNat % 1000)) : Nat) : Int))).2 : Nat) : Int))), (56, Pr.ex (Value.bool (decide ((((prove acc (((j.toNat % (1 + (m.toNat % 1000)) : Nat) : Int))).2 : Nat) : Int) = ((0 : Nat) : Int))))), (57, Pr.ex (Value.bool (decide ((((prove acc (((j.toNat % (1 + (m.toNat % 1000)) : Nat) : Int))).2 : Nat) : Int) = ((0 : Nat) : Int))))), (58, Pr.ifb (decide ((((prove acc (((j.toNat % (1 + (m.toNat % 1000)) : Nat) : Int))).2 : Nat) : Int) = ((0 : Nat) : Int))) (Pr.ex (i64 (((proveOn acc ((((j.toNat % (1 + (m.toNat % 1000))) + 1 : Nat) : Int))).2 : Nat) : Int)))), (59, Pr.ifb (decide ((((prove acc (((j.toNat % (1 + (m.toNat % 1000)) : Nat) : Int))).2 : Nat) : Int) = ((0 : Nat) : Int))) (Pr.ex (Value.bool (decide ((((proveOn acc ((((j.toNat % (1 + (m.toNat % 1000))) + 1 : Nat) : Int))).2 : Nat) : Int) = ((0 : Nat) : Int)))))), (60, Pr.ex (Value.bool ((decide ((((prove acc (((j.toNat % (1 + (m.toNat % 1000)) : Nat) : Int))).2 : Nat) : Int) = ((0 : Nat) : Int))) && (decide ((((proveOn acc ((((j.toNat % (1 + (m.toNat % 1000))) + 1 : Nat) : Int))).2 : Nat) : Int) = ((0 : Nat) : Int)))))), (61, Pr.ex (Value.bool ((decide ((((prove acc (((j.toNat % (1 + (m.toNat % 1000)) : Nat) : Int))).2 : Nat) : Int) = ((0 : Nat) : Int))) && (decide ((((proveOn acc ((((j.toNat % (1 + (m.toNat % 1000))) + 1 : Nat) : Int))).2 : Nat) : Int) = ((0 : Nat) : Int)))))), (62, Pr.ifb ((decide ((((prove acc (((j.toNat % (1 + (m.toNat % 1000)) : Nat) : Int))).2 : Nat) : Int) = ((0 : Nat) : Int))) && (decide ((((proveOn acc ((((j.toNat % (1 + (m.toNat % 1000))) + 1 : Nat) : Int))).2 : Nat) : Int) = ((0 : Nat) : Int)))) (Pr.ex (x12))), (63, Pr.ifb ((decide ((((prove acc (((j.toNat % (1 + (m.toNat % 1000)) : Nat) : Int))).2 : Nat) : Int) = ((0 : Nat) : Int))) && (decide ((((proveOn acc ((((j.toNat % (1 + (m.toNat % 1000))) + 1 : Nat) : Int))).2 : Nat) : Int) = ((0 : Nat) : Int)))) (Pr.ex (i64 ((((prove acc (((j.toNat % (1 + (m.toNat % 1000)) : Nat) : Int))).1).length : Nat) : Int)))), (64, Pr.ifb ((decide ((((prove acc (((j.toNat % (1 + (m.toNat % 1000)) : Nat) : Int))).2 : Nat) : Int) = ((0 : Nat) : Int))) && (decide ((((proveOn acc ((((j.toNat % (1 + (m.toNat % 1000))) + 1 : Nat) : Int))).2 : Nat) : Int) = ((0 : Nat) : Int)))) (Pr.ex (Value.bool (decide (((((prove acc (((j.toNat % (1 + (m.toNat % 1000)) : Nat) : Int))).1).length : Nat) : Int) ≤ ((10 : Nat) : Int)))))), (65, Pr.ex (Value.bool (((decide ((((prove acc (((j.toNat % (1 + (m.toNat % 1000)) : Nat) : Int))).2 : Nat) : Int) = ((0 : Nat) : Int))) && (decide ((((proveOn acc ((((j.toNat % (1 + (m.toNat % 1000))) + 1 : Nat) : Int))).2 : Nat) : Int) = ((0 : Nat) : Int)))) && (decide (((((prove acc (((j.toNat % (1 + (m.toNat % 1000)) : Nat) : Int))).1).length : Nat) : Int) ≤ ((10 : Nat) : Int)))))), (66, Pr.ex (Value.bool (((decide ((((prove acc (((j.toNat % (1 + (m.toNat % 1000)) : Nat) : Int))).2 : Nat) : Int) = ((0 : Nat) : Int))) && (decide ((((proveOn acc ((((j.toNat % (1 + (m.toNat % 1000))) + 1 : Nat) : Int))).2 : Nat) : Int) = ((0 : Nat) : Int)))) && (decide (((((prove acc (((j.toNat % (1 + (m.toNat % 1000)) : Nat) : Int))).1).length : Nat) : Int) ≤ ((10 : Nat) : Int)))))), (67, Pr.ifb (((decide ((((prove acc (((j.toNat % (1 + (m.toNat % 1000)) : Nat) : Int))).2 : Nat) : Int) = ((0 : Nat) : Int))) && (decide ((((proveOn acc ((((j.toNat % (1 + (m.toNat % 1000))) + 1 : Nat) : Int))).2 : Nat) : Int) = ((0 : Nat) : Int)))) && (decide (((((prove acc (((j.toNat % (1 + (m.toNat % 1000)) : Nat) : Int))).1).length : Nat) : Int) ≤ ((10 : Nat) : Int)))) (Pr.ex (x14))), (68, Pr.ifb (((decide ((((prove acc (((j.toNat % (1 + (m.toNat % 1000)) : Nat) : Int))).2 : Nat) : Int) = ((0 : Nat) : Int))) && (decide ((((proveOn acc ((((j.toNat % (1 + (m.toNat % 1000))) + 1 : Nat) : Int))).2 : Nat) : Int) = ((0 : Nat) : Int)))) && (decide (((((prove acc (((j.toNat % (1 + (m.toNat % 1000)) : Nat) : Int))).1).length : Nat) : Int) ≤ ((10 : Nat) : Int)))) (Pr.ex (i64 ((((proveOn acc ((((j.toNat % (1 + (m.toNat % 1000))) + 1 : Nat) : Int))).1).length : Nat) : Int)))), (69, Pr.ifb (((decide ((((prove acc (((j.toNat % (1 + (m.toNat % 1000)) : Nat) : Int))).2 : Nat) : Int) = ((0 : Nat) : Int))) && (decide ((((proveOn acc ((((j.toNat % (1 + (m.toNat % 1000))) + 1 : Nat) : Int))).2 : Nat) : Int) = ((0 : Nat) : Int)))) && (decide (((((prove acc (((j.toNat % (1 + (m.toNat % 1000)) : Nat) : Int))).1).length : Nat) : Int) ≤ ((10 : Nat) : Int)))) (Pr.ex (Value.bool (decide (((((proveOn acc ((((j.toNat % (1 + (m.toNat % 1000))) + 1 : Nat) : Int))).1).length : Nat) : Int) ≤ ((11 : Nat) : Int)))))), (70, Pr.ex (Value.bool ((((decide ((((prove acc (((j.toNat % (1 + (m.toNat % 1000)) : Nat) : Int))).2 : Nat) : Int) = ((0 : Nat) : Int))) && (decide ((((proveOn acc ((((j.toNat % (1 + (m.toNat % 1000))) + 1 : Nat) : Int))).2 : Nat) : Int) = ((0 : Nat) : Int)))) && (decide (((((prove acc (((j.toNat % (1 + (m.toNat % 1000)) : Nat) : Int))).1).length : Nat) : Int) ≤ ((10 : Nat) : Int)))) && (decide (((((proveOn acc ((((j.toNat % (1 + (m.toNat % 1000))) + 1 : Nat) : Int))).1).length : Nat) : Int) ≤ ((11 : Nat) : Int)))))), (6, Pr.ex (Value.bool ((((decide ((((prove acc (((j.toNat % (1 + (m.toNat % 1000)) : Nat) : Int))).2 : Nat) : Int) = ((0 : Nat) : Int))) && (decide ((((proveOn acc ((((j.toNat % (1 + (m.toNat % 1000))) + 1 : Nat) : Int))).2 : Nat) : Int) = ((0 : Nat) : Int)))) && (decide (((((prove acc (((j.toNat % (1 + (m.toNat % 1000)) : Nat) : Int))).1).length : Nat) : Int) ≤ ((10 : Nat) : Int)))) && (decide (((((proveOn acc ((((j.toNat % (1 + (m.toNat % 1000))) + 1 : Nat) : Int))).1).length : Nat) : Int) ≤ ((11 : Nat) : Int))))))] 17 hN_18 hD_18 (by kernel_rfl) (by kernel_rfl) ?_ ?_
  · refine Asks.cons ?_ (Asks.cons ?_ (Asks.cons ?_ (Asks.cons ?_ (Asks.cons ?_ (Asks.cons ?_ (Asks.cons ?_ (Asks.cons ?_ (Asks.cons ?_ (Asks.cons ?_ (Asks.cons ?_ (Asks.cons ?_ (Asks.cons ?_ (Asks.cons ?_ (Asks.cons ?_ (Asks.cons ?_ (Asks.cons ?_ (Asks.zero _)))))))))))))))))
    · refine Ask.plain rfl rfl ?_
      intro aq wq hNq hO hR hT
      exact does_move (V := i64 (((prove acc (((j.toNat % (1 + (m.toNat % 1000)) : Nat) : Int))).2 : Nat) : Int)) ((hO 13 rfl).trans s13_18) ⟨Ext.refl _, rfl⟩
    · refine Ask.plain rfl rfl ?_
      intro aq wq hNq hO hR hT
      exact does_eql (a := (((prove acc (((j.toNat % (1 + (m.toNat % 1000)) : Nat) : Int))).2 : Nat) : Int)) (b := ((0 : Nat) : Int)) (hT 55 rfl rfl) rfl ⟨Ext.refl _, rfl⟩
    · refine Ask.plain rfl rfl ?_
      intro aq wq hNq hO hR hT
      exact does_move (V := Value.bool (decide ((((prove acc (((j.toNat % (1 + (m.toNat % 1000)) : Nat) : Int))).2 : Nat) : Int) = ((0 : Nat) : Int)))) (hT 56 rfl rfl) ⟨Ext.refl _, rfl⟩
    · refine Ask.guarded (B := decide ((((prove acc (((j.toNat % (1 + (m.toNat % 1000)) : Nat) : Int))).2 : Nat) : Int) = ((0 : Nat) : Int))) (want := true) (t := 57) rfl rfl rfl rfl (by decide) (fun aq wq hO hR hT => hT 57 rfl rfl) (fun hG aq wq hNq hO hR hT => ?_) (fun hno _ hc => absurd hc hno)
      exact does_move (V := i64 (((proveOn acc ((((j.toNat % (1 + (m.toNat % 1000))) + 1 : Nat) : Int))).2 : Nat) : Int)) ((hO 15 rfl).trans s15_18) ⟨Ext.refl _, fun _ => rfl⟩
    · refine Ask.guarded (B := decide ((((prove acc (((j.toNat % (1 + (m.toNat % 1000)) : Nat) : Int))).2 : Nat) : Int) = ((0 : Nat) : Int))) (want := true) (t := 57) rfl rfl rfl rfl (by decide) (fun aq wq hO hR hT => hT 57 rfl rfl) (fun hG aq wq hNq hO hR hT => ?_) (fun hno _ hc => absurd hc hno)
      exact does_eql (a := (((proveOn acc ((((j.toNat % (1 + (m.toNat % 1000))) + 1 : Nat) : Int))).2 : Nat) : Int)) (b := ((0 : Nat) : Int)) (hT 58 rfl rfl (hG)) rfl ⟨Ext.refl _, fun _ => rfl⟩
    · refine Ask.plain rfl rfl ?_
      intro aq wq hNq hO hR hT
      exact does_and (B := decide ((((prove acc (((j.toNat % (1 + (m.toNat % 1000)) : Nat) : Int))).2 : Nat) : Int) = ((0 : Nat) : Int))) (X := decide ((((proveOn acc ((((j.toNat % (1 + (m.toNat % 1000))) + 1 : Nat) : Int))).2 : Nat) : Int) = ((0 : Nat) : Int))) (hT 57 rfl rfl) (fun hB => (hT 59 rfl rfl hB)) rfl ⟨Ext.refl _, rfl⟩
    · refine Ask.plain rfl rfl ?_
      intro aq wq hNq hO hR hT
      exact does_move (V := Value.bool ((decide ((((prove acc (((j.toNat % (1 + (m.toNat % 1000)) : Nat) : Int))).2 : Nat) : Int) = ((0 : Nat) : Int))) && (decide ((((proveOn acc ((((j.toNat % (1 + (m.toNat % 1000))) + 1 : Nat) : Int))).2 : Nat) : Int) = ((0 : Nat) : Int))))) (hT 60 rfl rfl) ⟨Ext.refl _, rfl⟩
    · refine Ask.guarded (B := (decide ((((prove acc (((j.toNat % (1 + (m.toNat % 1000)) : Nat) : Int))).2 : Nat) : Int) = ((0 : Nat) : Int))) && (decide ((((proveOn acc ((((j.toNat % (1 + (m.toNat % 1000))) + 1 : Nat) : Int))).2 : Nat) : Int) = ((0 : Nat) : Int)))) (want := true) (t := 61) rfl rfl rfl rfl (by decide) (fun aq wq hO hR hT => hT 61 rfl rfl) (fun hG aq wq hNq hO hR hT => ?_) (fun hno _ hc => absurd hc hno)
      exact does_move (V := x12) ((hO 12 rfl).trans s12_18) ⟨Ext.refl _, fun _ => rfl⟩
    · refine Ask.guarded (B := (decide ((((prove acc (((j.toNat % (1 + (m.toNat % 1000)) : Nat) : Int))).2 : Nat) : Int) = ((0 : Nat) : Int))) && (decide ((((proveOn acc ((((j.toNat % (1 + (m.toNat % 1000))) + 1 : Nat) : Int))).2 : Nat) : Int) = ((0 : Nat) : Int)))) (want := true) (t := 61) rfl rfl rfl rfl (by decide) (fun aq wq hO hR hT => hT 61 rfl rfl) (fun hG aq wq hNq hO hR hT => ?_) (fun hno _ hc => absurd hc hno)
      exact does_len (T := DG) (xs := (prove acc (((j.toNat % (1 + (m.toNat % 1000)) : Nat) : Int))).1) sli_27 (SlT.at (hT 62 rfl rfl (hG)) (hsx12_18.ext' hR)) ⟨Ext.refl _, fun _ => rfl⟩
    · refine Ask.guarded (B := (decide ((((prove acc (((j.toNat % (1 + (m.toNat % 1000)) : Nat) : Int))).2 : Nat) : Int) = ((0 : Nat) : Int))) && (decide ((((proveOn acc ((((j.toNat % (1 + (m.toNat % 1000))) + 1 : Nat) : Int))).2 : Nat) : Int) = ((0 : Nat) : Int)))) (want := true) (t := 61) rfl rfl rfl rfl (by decide) (fun aq wq hO hR hT => hT 61 rfl rfl) (fun hG aq wq hNq hO hR hT => ?_) (fun hno _ hc => absurd hc hno)
      exact does_leq (a := ((((prove acc (((j.toNat % (1 + (m.toNat % 1000)) : Nat) : Int))).1).length : Nat) : Int)) (b := ((10 : Nat) : Int)) (hT 63 rfl rfl (hG)) rfl ⟨Ext.refl _, fun _ => rfl⟩
    · refine Ask.plain rfl rfl ?_
      intro aq wq hNq hO hR hT
      exact does_and (B := (decide ((((prove acc (((j.toNat % (1 + (m.toNat % 1000)) : Nat) : Int))).2 : Nat) : Int) = ((0 : Nat) : Int))) && (decide ((((proveOn acc ((((j.toNat % (1 + (m.toNat % 1000))) + 1 : Nat) : Int))).2 : Nat) : Int) = ((0 : Nat) : Int)))) (X := decide (((((prove acc (((j.toNat % (1 + (m.toNat % 1000)) : Nat) : Int))).1).length : Nat) : Int) ≤ ((10 : Nat) : Int))) (hT 61 rfl rfl) (fun hB => (hT 64 rfl rfl hB)) rfl ⟨Ext.refl _, rfl⟩
    · refine Ask.plain rfl rfl ?_
      intro aq wq hNq hO hR hT
      exact does_move (V := Value.bool (((decide ((((prove acc (((j.toNat % (1 + (m.toNat % 1000)) : Nat) : Int))).2 : Nat) : Int) = ((0 : Nat) : Int))) && (decide ((((proveOn acc ((((j.toNat % (1 + (m.toNat % 1000))) + 1 : Nat) : Int))).2 : Nat) : Int) = ((0 : Nat) : Int)))) && (decide (((((prove acc (((j.toNat % (1 + (m.toNat % 1000)) : Nat) : Int))).1).length : Nat) : Int) ≤ ((10 : Nat) : Int))))) (hT 65 rfl rfl) ⟨Ext.refl _, rfl⟩
    · refine Ask.guarded (B := ((decide ((((prove acc (((j.toNat % (1 + (m.toNat % 1000)) : Nat) : Int))).2 : Nat) : Int) = ((0 : Nat) : Int))) && (decide ((((proveOn acc ((((j.toNat % (1 + (m.toNat % 1000))) + 1 : Nat) : Int))).2 : Nat) : Int) = ((0 : Nat) : Int)))) && (decide (((((prove acc (((j.toNat % (1 + (m.toNat % 1000)) : Nat) : Int))).1).length : Nat) : Int) ≤ ((10 : Nat) : Int)))) (want := true) (t := 66) rfl rfl rfl rfl (by decide) (fun aq wq hO hR hT => hT 66 rfl rfl) (fun hG aq wq hNq hO hR hT => ?_) (fun hno _ hc => absurd hc hno)
      exact does_move (V := x14) ((hO 14 rfl).trans s14_18) ⟨Ext.refl _, fun _ => rfl⟩
    · refine Ask.guarded (B := ((decide ((((prove acc (((j.toNat % (1 + (m.toNat % 1000)) : Nat) : Int))).2 : Nat) : Int) = ((0 : Nat) : Int))) && (decide ((((proveOn acc ((((j.toNat % (1 + (m.toNat % 1000))) + 1 : Nat) : Int))).2 : Nat) : Int) = ((0 : Nat) : Int)))) && (decide (((((prove acc (((j.toNat % (1 + (m.toNat % 1000)) : Nat) : Int))).1).length : Nat) : Int) ≤ ((10 : Nat) : Int)))) (want := true) (t := 66) rfl rfl rfl rfl (by decide) (fun aq wq hO hR hT => hT 66 rfl rfl) (fun hG aq wq hNq hO hR hT => ?_) (fun hno _ hc => absurd hc hno)
      exact does_len (T := DG) (xs := (proveOn acc ((((j.toNat % (1 + (m.toNat % 1000))) + 1 : Nat) : Int))).1) sli_27 (SlT.at (hT 67 rfl rfl (hG)) (hsx14_18.ext' hR)) ⟨Ext.refl _, fun _ => rfl⟩
    · refine Ask.guarded (B := ((decide ((((prove acc (((j.toNat % (1 + (m.toNat % 1000)) : Nat) : Int))).2 : Nat) : Int) = ((0 : Nat) : Int))) && (decide ((((proveOn acc ((((j.toNat % (1 + (m.toNat % 1000))) + 1 : Nat) : Int))).2 : Nat) : Int) = ((0 : Nat) : Int)))) && (decide (((((prove acc (((j.toNat % (1 + (m.toNat % 1000)) : Nat) : Int))).1).length : Nat) : Int) ≤ ((10 : Nat) : Int)))) (want := true) (t := 66) rfl rfl rfl rfl (by decide) (fun aq wq hO hR hT => hT 66 rfl rfl) (fun hG aq wq hNq hO hR hT => ?_) (fun hno _ hc => absurd hc hno)
      exact does_leq (a := ((((proveOn acc ((((j.toNat % (1 + (m.toNat % 1000))) + 1 : Nat) : Int))).1).length : Nat) : Int)) (b := ((11 : Nat) : Int)) (hT 68 rfl rfl (hG)) rfl ⟨Ext.refl _, fun _ => rfl⟩
    · refine Ask.plain rfl rfl ?_
      intro aq wq hNq hO hR hT
      exact does_and (B := ((decide ((((prove acc (((j.toNat % (1 + (m.toNat % 1000)) : Nat) : Int))).2 : Nat) : Int) = ((0 : Nat) : Int))) && (decide ((((proveOn acc ((((j.toNat % (1 + (m.toNat % 1000))) + 1 : Nat) : Int))).2 : Nat) : Int) = ((0 : Nat) : Int)))) && (decide (((((prove acc (((j.toNat % (1 + (m.toNat % 1000)) : Nat) : Int))).1).length : Nat) : Int) ≤ ((10 : Nat) : Int)))) (X := decide (((((proveOn acc ((((j.toNat % (1 + (m.toNat % 1000))) + 1 : Nat) : Int))).1).length : Nat) : Int) ≤ ((11 : Nat) : Int))) (hT 66 rfl rfl) (fun hB => (hT 69 rfl rfl hB)) rfl ⟨Ext.refl _, rfl⟩
    · refine Ask.plain rfl rfl ?_
      intro aq wq hNq hO hR hT
      exact does_assign (V := Value.bool ((((decide ((((prove acc (((j.toNat % (1 + (m.toNat % 1000)) : Nat) : Int))).2 : Nat) : Int) = ((0 : Nat) : Int))) && (decide ((((proveOn acc ((((j.toNat % (1 + (m.toNat % 1000))) + 1 : Nat) : Int))).2 : Nat) : Int) = ((0 : Nat) : Int)))) && (decide (((((prove acc (((j.toNat % (1 + (m.toNat % 1000)) : Nat) : Int))).1).length : Nat) : Int) ≤ ((10 : Nat) : Int)))) && (decide (((((proveOn acc ((((j.toNat % (1 + (m.toNat % 1000))) + 1 : Nat) : Int))).1).length : Nat) : Int) ≤ ((11 : Nat) : Int))))) (hT 70 rfl rfl) ⟨Ext.refl _, rfl⟩
  intro a19 wd19 hN_19 hD_19 hO hR hA hU
  obtain ⟨_, _, _, _, _, _, _, _, _, _, _, _, _, _, _, _, t6, _⟩ := hA
  have hE_19 := hE_18.trans hR
  have hbb3_19 := hbb3_18.ext' hR
  have hbb9_19 := hbb9_18.ext' hR
  have hsxo_19 := hsxo_18.ext' hR
  have hsx12_19 := hsx12_18.ext' hR
  have hsx14_19 := hsx14_18.ext' hR
  have hoxo_19 := hoxo_18.ext' hR
  have hox12_19 := hox12_18.ext' hR
  have hox14_19 := hox14_18.ext' hR
  have s6_19 : get a19 6 = Value.bool ((((decide ((((prove acc (((j.toNat % (1 + (m.toNat % 1000)) : Nat) : Int))).2 : Nat) : Int) = ((0 : Nat) : Int))) && (decide ((((proveOn acc ((((j.toNat % (1 + (m.toNat % 1000))) + 1 : Nat) : Int))).2 : Nat) : Int) = ((0 : Nat) : Int)))) && (decide (((((prove acc (((j.toNat % (1 + (m.toNat % 1000)) : Nat) : Int))).1).length : Nat) : Int) ≤ ((10 : Nat) : Int)))) && (decide (((((proveOn acc ((((j.toNat % (1 + (m.toNat % 1000))) + 1 : Nat) : Int))).1).length : Nat) : Int) ≤ ((11 : Nat) : Int)))) := t6
  clear hE_18 hN_18 hD_18 s12_18 s13_18 s14_18 s15_18 hbb3_18 hbb9_18 hsxo_18 hsx12_18 hsx14_18 hoxo_18 hox12_18 hox14_18
  refine tail_nil ?_
  refine wp_ret ?_
  refine res_one (V := Value.bool ((((decide ((((prove acc (((j.toNat % (1 + (m.toNat % 1000)) : Nat) : Int))).2 : Nat) : Int) = ((0 : Nat) : Int))) && (decide ((((proveOn acc ((((j.toNat % (1 + (m.toNat % 1000))) + 1 : Nat) : Int))).2 : Nat) : Int) = ((0 : Nat) : Int)))) && (decide (((((prove acc (((j.toNat % (1 + (m.toNat % 1000)) : Nat) : Int))).1).length : Nat) : Int) ≤ ((10 : Nat) : Int)))) && (decide (((((proveOn acc ((((j.toNat % (1 + (m.toNat % 1000))) + 1 : Nat) : Int))).1).length : Nat) : Int) ≤ ((11 : Nat) : Int))))) rfl hD_19 s6_19 ?_
  exact ⟨congrArg Value.bool (short_law (by rw [hacc]; exact Nat.mod_lt _ (by omega)) (by rw [hacc]; omega)), hE_19⟩

end Go.Proofs.YtncamojfjhbanaaDoor
