/- The walks of functions of the program: printed. -/
import Derived.Test.YtncamojfjhbanaaDoorG1
import Derived.Test.YtncamojfjhbanaaDoorG2
import Derived.Test.YtncamojfjhbanaaDoorF0
set_option maxRecDepth 100000
namespace Go.Proofs.YtncamojfjhbanaaDoor
open Go Go.RowKit Sk Sd
theorem mixR (s : St) (w0 : World) :
    Gives Tryd.prog 49 #[Value.agg #[w32 (s.a), w32 (s.b), w32 (s.c), w32 (s.d), w32 (s.e), w32 (s.f), w32 (s.g), w32 (s.h)]] w0 (Pr.ex (St.val s.mix)) := by
  refine enter (N := 63) Tryd.func49 rfl rfl ?_
  intro a0 hN_0 hD_0 hA
  have s0_0 : get a0 0 = Value.agg #[w32 (s.a), w32 (s.b), w32 (s.c), w32 (s.d), w32 (s.e), w32 (s.f), w32 (s.g), w32 (s.h)] := hA 0 _ rfl
  clear hA
  have hE_0 : Ext w0 w0 := Ext.refl w0
  refine wp_seq ?_
  refine region_lex [1, 2] [(1, Pr.box' w0.heap.size 54 [w32 (s.a), w32 (s.b), w32 (s.c), w32 (s.d), w32 (s.e), w32 (s.f), w32 (s.g), w32 (s.h)]), (2, Pr.box' w0.heap.size 54 [w32 (0), w32 (0), w32 (0), w32 (0), w32 (0), w32 (0), w32 (0), w32 (0)])] 2 hN_0 hD_0 (by kernel_rfl) (by kernel_rfl) ?_ ?_
  · refine Asks.cons ?_ (Asks.cons ?_ (Asks.zero _))
    · refine Ask.fresh rfl rfl ?_
      intro aq wq hNq hO hR hT
      exact does_box (V := Value.agg #[w32 (s.a), w32 (s.b), w32 (s.c), w32 (s.d), w32 (s.e), w32 (s.f), w32 (s.g), w32 (s.h)]) ((hO 0 rfl).trans s0_0) (fun b w2 he hlo hb => ⟨he, ⟨b, rfl, Nat.le_trans hR.size' hlo, hb⟩, ⟨b, rfl, hlo, hb.lt⟩⟩)
    · refine Ask.fresh rfl rfl ?_
      intro aq wq hNq hO hR hT
      exact does_alloc zero_54 (fun b w2 he hlo hb => ⟨he, ⟨b, rfl, Nat.le_trans hR.size' hlo, hb⟩, ⟨b, rfl, hlo, hb.lt⟩⟩)
  intro a1 wd1 hN_1 hD_1 hO hR hA hU
  obtain ⟨t1, t2, _⟩ := hA
  have hE_1 := hE_0.trans hR
  obtain ⟨b1, s1_1, lo_b1, hbb1_1⟩ := t1
  have fr_b1 : w0.heap.size ≤ b1 := Nat.le_trans hE_0.size' lo_b1
  obtain ⟨b2, s2_1, lo_b2, hbb2_1⟩ := t2
  have fr_b2 : w0.heap.size ≤ b2 := Nat.le_trans hE_0.size' lo_b2
  obtain ⟨u0, ⟨u1, _⟩⟩ := hU
  have ne_b1_b2 : b1 ≠ b2 := fun e => u0 2 (by decide) (by rw [s1_1, s2_1, e])
  clear hE_0 hN_0 hD_0 s0_0
  refine tail_nil ?_
  refine wp_seq ?_
  refine region_lex [3] [(8, Pr.ex (Value.agg #[i64 ((7 : Nat) : Int), i64 ((9 : Nat) : Int), i64 ((13 : Nat) : Int), i64 ((18 : Nat) : Int)])), (3, Pr.box' wd1.heap.size 91 [i64 ((0 : Nat) : Int), i64 ((0 : Nat) : Int), i64 ((0 : Nat) : Int), i64 ((0 : Nat) : Int)])] 2 hN_1 hD_1 (by kernel_rfl) (by kernel_rfl) ?_ ?_
  · refine Asks.cons ?_ (Asks.cons ?_ (Asks.zero _))
    · refine Ask.plain rfl rfl ?_
      intro aq wq hNq hO hR hT
      exact does_ret (vs := #[]) call_58 args0 rfl ((turnsR wq).mono fun v w2 h => ⟨h.2, h.1⟩)
    · refine Ask.fresh rfl rfl ?_
      intro aq wq hNq hO hR hT
      exact does_alloc zero_91 (fun b w2 he hlo hb => ⟨he, ⟨b, rfl, Nat.le_trans hR.size' hlo, hb⟩, ⟨b, rfl, hlo, hb.lt⟩⟩)
  intro a2 wd2 hN_2 hD_2 hO hR hA hU
  obtain ⟨t8, t3, _⟩ := hA
  have hE_2 := hE_1.trans hR
  have s1_2 := (hO 1 rfl).trans s1_1
  have s2_2 := (hO 2 rfl).trans s2_1
  have hbb1_2 := hbb1_1.ext' hR
  have hbb2_2 := hbb2_1.ext' hR
  have s8_2 : get a2 8 = Value.agg #[i64 ((7 : Nat) : Int), i64 ((9 : Nat) : Int), i64 ((13 : Nat) : Int), i64 ((18 : Nat) : Int)] := t8
  obtain ⟨b3, s3_2, lo_b3, hbb3_2⟩ := t3
  have ne_b1_b3 : b1 ≠ b3 := fun e => Nat.lt_irrefl _ (Nat.lt_of_lt_of_le hbb1_1.lt (e ▸ lo_b3))
  have ne_b2_b3 : b2 ≠ b3 := fun e => Nat.lt_irrefl _ (Nat.lt_of_lt_of_le hbb2_1.lt (e ▸ lo_b3))
  have fr_b3 : w0.heap.size ≤ b3 := Nat.le_trans hE_1.size' lo_b3
  clear hE_1 hN_1 hD_1 s1_1 s2_1 hbb1_1 hbb2_1
  refine tail_none rfl rfl (does_storeD (o := 0) (n := 4) (cs' := [i64 ((7 : Nat) : Int), i64 ((9 : Nat) : Int), i64 ((13 : Nat) : Int), i64 ((18 : Nat) : Int)]) (V := Value.agg #[i64 ((7 : Nat) : Int), i64 ((9 : Nat) : Int), i64 ((13 : Nat) : Int), i64 ((18 : Nat) : Int)]) s3_2 s8_2 hbb3_2 (Nat.le_of_ble_eq_true rfl) rfl siz_91 rfl rfl (fun wd3 hX hz hbb3_3 => ?_))
  have hE_3 := hE_2.since hX (fun k e => e ▸ fr_b3)
  have hbb1_3 := hbb1_2.ext hX ne_b1_b3
  have hbb2_3 := hbb2_2.ext hX ne_b2_b3
  clear hX hz hE_2 hbb1_2 hbb2_2 hbb3_2
  refine tail_nil ?_
  refine wp_seq ?_
  refine wp_seq ?_
  refine region_lex [] [(4, Pr.ex (i64 ((0 : Nat) : Int)))] 1 hN_2 hD_2 (by kernel_rfl) (by kernel_rfl) ?_ ?_
  · refine Asks.cons ?_ (Asks.zero _)
    · refine Ask.plain rfl rfl ?_
      intro aq wq hNq hO hR hT
      exact does_assign (V := i64 ((0 : Nat) : Int)) rfl ⟨Ext.refl _, rfl⟩
  intro a4 wd4 hN_4 hD_4 hO hR hA hU
  obtain ⟨t4, _⟩ := hA
  have hE_4 := hE_3.trans hR
  have s1_4 := (hO 1 rfl).trans s1_2
  have s2_4 := (hO 2 rfl).trans s2_2
  have s3_4 := (hO 3 rfl).trans s3_2
  have hbb1_4 := hbb1_3.ext' hR
  have hbb2_4 := hbb2_3.ext' hR
  have hbb3_4 := hbb3_3.ext' hR
  have s4_4 : get a4 4 = i64 ((0 : Nat) : Int) := t4
  clear hE_3 hN_2 hD_2 s1_2 s2_2 s3_2 s8_2 hbb1_3 hbb2_3 hbb3_3
  refine tail_nil ?_
  refine wp_block ?_
  refine loop_g (fun mz az wz => ∃ k : Nat, mz = 8 - k ∧ (az.tmps.size = 63) ∧ (az.defers = []) ∧ (get az 1 = Value.pointer (some ⟨b1, 0, none⟩)) ∧ (get az 2 = Value.pointer (some ⟨b2, 0, none⟩)) ∧ (get az 3 = Value.pointer (some ⟨b3, 0, none⟩)) ∧ (get az 4 = i64 ((k : Nat) : Int)) ∧ (Ext w0 wz) ∧ (Has wz b1 54 [w32 ((s.rounds k).a), w32 ((s.rounds k).b), w32 ((s.rounds k).c), w32 ((s.rounds k).d), w32 ((s.rounds k).e), w32 ((s.rounds k).f), w32 ((s.rounds k).g), w32 ((s.rounds k).h)]) ∧ (Has wz b2 54 [w32 (0), w32 (0), w32 (0), w32 (0), w32 (0), w32 (0), w32 (0), w32 (0)]) ∧ (Has wz b3 91 [i64 ((7 : Nat) : Int), i64 ((9 : Nat) : Int), i64 ((13 : Nat) : Int), i64 ((18 : Nat) : Int)]) ∧ (k ≤ 8)) ?_ ?_
  · exact ⟨_, 0, rfl, hN_4, hD_4, s1_4, s2_4, s3_4, s4_4, hE_4, hbb1_4, hbb2_4, hbb3_4, by omega⟩
  rintro mz a5 wd5 ⟨k, rfl, hN_5, hD_5, s1_5, s2_5, s3_5, s4_5, hE_5, hbb1_5, hbb2_5, hbb3_5, hk⟩
  refine wp_seq ?_
  refine wp_seq ?_
  refine region_lex [] [(9, Pr.ex (i64 ((k : Nat) : Int))), (10, Pr.ex (Value.bool (decide (((k : Nat) : Int) < ((8 : Nat) : Int)))))] 2 hN_5 hD_5 (by kernel_rfl) (by kernel_rfl) ?_ ?_
  · refine Asks.cons ?_ (Asks.cons ?_ (Asks.zero _))
    · refine Ask.plain rfl rfl ?_
      intro aq wq hNq hO hR hT
      exact does_move (V := i64 ((k : Nat) : Int)) ((hO 4 rfl).trans s4_5) ⟨Ext.refl _, rfl⟩
    · refine Ask.plain rfl rfl ?_
      intro aq wq hNq hO hR hT
      exact does_lss (a := ((k : Nat) : Int)) (b := ((8 : Nat) : Int)) (hT 9 rfl rfl) rfl ⟨Ext.refl _, rfl⟩
  intro a6 wd6 hN_6 hD_6 hO hR hA hU
  obtain ⟨_, t10, _⟩ := hA
  have hE_6 := hE_5.trans hR
  have s1_6 := (hO 1 rfl).trans s1_5
  have s2_6 := (hO 2 rfl).trans s2_5
  have s3_6 := (hO 3 rfl).trans s3_5
  have s4_6 := (hO 4 rfl).trans s4_5
  have hbb1_6 := hbb1_5.ext' hR
  have hbb2_6 := hbb2_5.ext' hR
  have hbb3_6 := hbb3_5.ext' hR
  have s10_6 : get a6 10 = Value.bool (decide (((k : Nat) : Int) < ((8 : Nat) : Int))) := t10
  clear hE_5 hN_5 hD_5 s1_5 s2_5 s3_5 s4_5 hbb1_5 hbb2_5 hbb3_5
  refine tail_nil ?_
  refine wp_if (B := decide (((k : Nat) : Int) < ((8 : Nat) : Int))) s10_6 (fun hc0 => ?_) (fun hc0 => ?_)
  · -- T 0
    have hc0 := of_decide_eq_true hc0
    refine wp_skip ?_
    refine wp_seq ?_
    refine wp_block ?_
    refine wp_seq ?_
    refine region_lex [] [(13, Pr.ex (Value.pointer (some ⟨b1, 0, none⟩))), (14, Pr.ex (w32 ((s.rounds k).a))), (15, Pr.ex (i64 ((k : Nat) : Int))), (16, Pr.ex (i64 ((k + 1 : Nat) : Int))), (17, Pr.ex (w32 (UInt32.ofNat (k + 1)))), (18, Pr.ex (w32 ((2654435769 : UInt32) * (UInt32.ofNat (k + 1) : UInt32)))), (19, Pr.ex (w32 (((s.rounds k).a : UInt32) + ((2654435769 : UInt32) * (UInt32.ofNat (k + 1) : UInt32) : UInt32)))), (20, Pr.ex (Value.pointer (some ⟨b1, 0, none⟩)))] 8 hN_6 hD_6 (by kernel_rfl) (by kernel_rfl) ?_ ?_
    · refine Asks.cons ?_ (Asks.cons ?_ (Asks.cons ?_ (Asks.cons ?_ (Asks.cons ?_ (Asks.cons ?_ (Asks.cons ?_ (Asks.cons ?_ (Asks.zero _))))))))
      · refine Ask.plain rfl rfl ?_
        intro aq wq hNq hO hR hT
        exact does_indexArr (k := .i64) (i := 0) (o' := 0) arr_54 ((hO 1 rfl).trans s1_6) rfl (by decide) (by decide) rfl ⟨Ext.refl _, rfl⟩
      · refine Ask.plain rfl rfl ?_
        intro aq wq hNq hO hR hT
        exact does_loadD1 (o := 0) (V := w32 ((s.rounds k).a)) (hT 13 rfl rfl) (hbb1_6.ext' hR) rfl one_22 ⟨Ext.refl _, rfl⟩
      · refine Ask.plain rfl rfl ?_
        intro aq wq hNq hO hR hT
        exact does_move (V := i64 ((k : Nat) : Int)) ((hO 4 rfl).trans s4_6) ⟨Ext.refl _, rfl⟩
      · refine Ask.plain rfl rfl ?_
        intro aq wq hNq hO hR hT
        exact does_add (a := ((k : Nat) : Int)) (b := ((1 : Nat) : Int)) (r := ((k + 1 : Nat) : Int)) (hT 15 rfl rfl) rfl (by omega) (by omega) (by omega) ⟨Ext.refl _, rfl⟩
      · refine Ask.plain rfl rfl ?_
        intro aq wq hNq hO hR hT
        exact does_conv ⟨_, Tryd.underlying3⟩ Tryd.underlying22 (hT 16 rfl rfl) (wrap_u32 _) ⟨Ext.refl _, rfl⟩
      · refine Ask.plain rfl rfl ?_
        intro aq wq hNq hO hR hT
        exact does_mul32 (a := (2654435769 : UInt32)) (b := (UInt32.ofNat (k + 1) : UInt32)) rfl (hT 17 rfl rfl) ⟨Ext.refl _, rfl⟩
      · refine Ask.plain rfl rfl ?_
        intro aq wq hNq hO hR hT
        exact does_add32 (a := ((s.rounds k).a : UInt32)) (b := ((2654435769 : UInt32) * (UInt32.ofNat (k + 1) : UInt32) : UInt32)) (hT 14 rfl rfl) (hT 18 rfl rfl) ⟨Ext.refl _, rfl⟩
      · refine Ask.plain rfl rfl ?_
        intro aq wq hNq hO hR hT
        exact does_indexArr (k := .i64) (i := 0) (o' := 0) arr_54 ((hO 1 rfl).trans s1_6) rfl (by decide) (by decide) rfl ⟨Ext.refl _, rfl⟩
    intro a7 wd7 hN_7 hD_7 hO hR hA hU
    obtain ⟨_, _, _, _, _, _, t19, t20, _⟩ := hA
    have hE_7 := hE_6.trans hR
    have s1_7 := (hO 1 rfl).trans s1_6
    have s2_7 := (hO 2 rfl).trans s2_6
    have s3_7 := (hO 3 rfl).trans s3_6
    have s4_7 := (hO 4 rfl).trans s4_6
    have hbb1_7 := hbb1_6.ext' hR
    have hbb2_7 := hbb2_6.ext' hR
    have hbb3_7 := hbb3_6.ext' hR
    have s19_7 : get a7 19 = w32 (((s.rounds k).a : UInt32) + ((2654435769 : UInt32) * (UInt32.ofNat (k + 1) : UInt32) : UInt32)) := t19
    have s20_7 : get a7 20 = Value.pointer (some ⟨b1, 0, none⟩) := t20
    clear hE_6 hN_6 hD_6 s1_6 s2_6 s3_6 s4_6 s10_6 hbb1_6 hbb2_6 hbb3_6
    refine tail_none rfl rfl (does_storeD (o := 0) (n := 1) (cs' := [w32 (((s.rounds k).a : UInt32) + ((2654435769 : UInt32) * (UInt32.ofNat (k + 1) : UInt32) : UInt32)), w32 ((s.rounds k).b), w32 ((s.rounds k).c), w32 ((s.rounds k).d), w32 ((s.rounds k).e), w32 ((s.rounds k).f), w32 ((s.rounds k).g), w32 ((s.rounds k).h)]) (V := w32 (((s.rounds k).a : UInt32) + ((2654435769 : UInt32) * (UInt32.ofNat (k + 1) : UInt32) : UInt32))) s20_7 s19_7 hbb1_7 (Nat.le_of_ble_eq_true rfl) rfl siz_22 rfl rfl (fun wd8 hX hz hbb1_8 => ?_))
    have hE_8 := hE_7.since hX (fun k e => e ▸ fr_b1)
    have hbb2_8 := hbb2_7.ext hX ne_b1_b2.symm
    have hbb3_8 := hbb3_7.ext hX ne_b1_b3.symm
    clear hX hz hE_7 hbb1_7 hbb2_7 hbb3_7
    refine tail_nil ?_
    refine wp_seq ?_
    refine wp_seq ?_
    refine region_lex [] [(5, Pr.ex (i64 ((0 : Nat) : Int)))] 1 hN_7 hD_7 (by kernel_rfl) (by kernel_rfl) ?_ ?_
    · refine Asks.cons ?_ (Asks.zero _)
      · refine Ask.plain rfl rfl ?_
        intro aq wq hNq hO hR hT
        exact does_assign (V := i64 ((0 : Nat) : Int)) rfl ⟨Ext.refl _, rfl⟩
    intro a9 wd9 hN_9 hD_9 hO hR hA hU
    obtain ⟨t5, _⟩ := hA
    have hE_9 := hE_8.trans hR
    have s1_9 := (hO 1 rfl).trans s1_7
    have s2_9 := (hO 2 rfl).trans s2_7
    have s3_9 := (hO 3 rfl).trans s3_7
    have s4_9 := (hO 4 rfl).trans s4_7
    have hbb1_9 := hbb1_8.ext' hR
    have hbb2_9 := hbb2_8.ext' hR
    have hbb3_9 := hbb3_8.ext' hR
    have s5_9 : get a9 5 = i64 ((0 : Nat) : Int) := t5
    clear hE_8 hN_7 hD_7 s1_7 s2_7 s3_7 s4_7 s19_7 s20_7 hbb1_8 hbb2_8 hbb3_8
    refine tail_nil ?_
    refine wp_block ?_
    refine loop_rounds 5 ?_
    refine round_step ?_
    refine wp_seq ?_
    refine wp_seq ?_
    refine region_lex [] [(21, Pr.ex (i64 ((0 : Nat) : Int))), (22, Pr.ex (Value.bool (true)))] 2 hN_9 hD_9 (by kernel_rfl) (by kernel_rfl) ?_ ?_
    · refine Asks.cons ?_ (Asks.cons ?_ (Asks.zero _))
      · refine Ask.plain rfl rfl ?_
        intro aq wq hNq hO hR hT
        exact does_move (V := i64 ((0 : Nat) : Int)) ((hO 5 rfl).trans s5_9) ⟨Ext.refl _, rfl⟩
      · refine Ask.plain rfl rfl ?_
        intro aq wq hNq hO hR hT
        exact does_lss (a := ((0 : Nat) : Int)) (b := ((4 : Nat) : Int)) (hT 21 rfl rfl) rfl ⟨Ext.refl _, rfl⟩
    intro a10 wd10 hN_10 hD_10 hO hR hA hU
    obtain ⟨_, t22, _⟩ := hA
    have hE_10 := hE_9.trans hR
    have s1_10 := (hO 1 rfl).trans s1_9
    have s2_10 := (hO 2 rfl).trans s2_9
    have s3_10 := (hO 3 rfl).trans s3_9
    have s4_10 := (hO 4 rfl).trans s4_9
    have s5_10 := (hO 5 rfl).trans s5_9
    have hbb1_10 := hbb1_9.ext' hR
    have hbb2_10 := hbb2_9.ext' hR
    have hbb3_10 := hbb3_9.ext' hR
    have s22_10 : get a10 22 = Value.bool (true) := t22
    clear hE_9 hN_9 hD_9 s1_9 s2_9 s3_9 s4_9 s5_9 hbb1_9 hbb2_9 hbb3_9
    refine tail_nil ?_
    refine wp_ifT s22_10 ?_
    refine wp_skip ?_
    refine wp_seq ?_
    refine wp_block ?_
    refine wp_seq ?_
    refine region_any [] [(25, Pr.ex (i64 ((0 : Nat) : Int))), (26, Pr.ex (i64 ((0 : Nat) : Int))), (27, Pr.ex (Value.pointer (some ⟨b1, 0, none⟩))), (28, Pr.ex (w32 (((s.rounds k).a : UInt32) + ((2654435769 : UInt32) * (UInt32.ofNat (k + 1) : UInt32) : UInt32)))), (29, Pr.ex (i64 ((0 : Nat) : Int))), (30, Pr.ex (i64 ((4 : Nat) : Int))), (31, Pr.ex (Value.pointer (some ⟨b1, 4, none⟩))), (32, Pr.ex (w32 ((s.rounds k).e))), (33, Pr.ex (w32 ((((s.rounds k).a : UInt32) + ((2654435769 : UInt32) * (UInt32.ofNat (k + 1) : UInt32) : UInt32) : UInt32) + ((s.rounds k).e : UInt32)))), (34, Pr.ex (Value.pointer (some ⟨b1, 0, none⟩)))] 10 mixed hN_10 hD_10 (by kernel_rfl) (by kernel_rfl) (by kernel_rfl) ?_ ?_
    · refine Asks.cons ?_ (Asks.cons ?_ (Asks.cons ?_ (Asks.cons ?_ (Asks.cons ?_ (Asks.cons ?_ (Asks.cons ?_ (Asks.cons ?_ (Asks.cons ?_ (Asks.cons ?_ (Asks.zero _))))))))))
      · refine Ask.plain rfl rfl ?_
        intro aq wq hNq hO hR hT
        replace hR := (Ext.drew _).trans hR
        exact does_move (V := i64 ((0 : Nat) : Int)) ((hO 5 rfl).trans s5_10) ⟨Ext.refl _, rfl⟩
      · refine Ask.plain rfl rfl ?_
        intro aq wq hNq hO hR hT
        replace hR := (Ext.drew _).trans hR
        exact does_move (V := i64 ((0 : Nat) : Int)) ((hO 5 rfl).trans s5_10) ⟨Ext.refl _, rfl⟩
      · refine Ask.plain rfl rfl ?_
        intro aq wq hNq hO hR hT
        replace hR := (Ext.drew _).trans hR
        exact does_indexArr (k := .i64) (i := 0) (o' := 0) arr_54 ((hO 1 rfl).trans s1_10) (hT 26 rfl rfl) (by decide) (by decide) rfl ⟨Ext.refl _, rfl⟩
      · refine Ask.plain rfl rfl ?_
        intro aq wq hNq hO hR hT
        replace hR := (Ext.drew _).trans hR
        exact does_loadD1 (o := 0) (V := w32 (((s.rounds k).a : UInt32) + ((2654435769 : UInt32) * (UInt32.ofNat (k + 1) : UInt32) : UInt32))) (hT 27 rfl rfl) (hbb1_10.ext' hR) rfl one_22 ⟨Ext.refl _, rfl⟩
      · refine Ask.plain rfl rfl ?_
        intro aq wq hNq hO hR hT
        replace hR := (Ext.drew _).trans hR
        exact does_move (V := i64 ((0 : Nat) : Int)) ((hO 5 rfl).trans s5_10) ⟨Ext.refl _, rfl⟩
      · refine Ask.plain rfl rfl ?_
        intro aq wq hNq hO hR hT
        replace hR := (Ext.drew _).trans hR
        exact does_add (a := ((0 : Nat) : Int)) (b := ((4 : Nat) : Int)) (r := ((4 : Nat) : Int)) (hT 29 rfl rfl) rfl (by decide) (by decide) (by decide) ⟨Ext.refl _, rfl⟩
      · refine Ask.plain rfl rfl ?_
        intro aq wq hNq hO hR hT
        replace hR := (Ext.drew _).trans hR
        exact does_indexArr (k := .i64) (i := 4) (o' := 4) arr_54 ((hO 1 rfl).trans s1_10) (hT 30 rfl rfl) (by decide) (by decide) rfl ⟨Ext.refl _, rfl⟩
      · refine Ask.plain rfl rfl ?_
        intro aq wq hNq hO hR hT
        replace hR := (Ext.drew _).trans hR
        exact does_loadD1 (o := 4) (V := w32 ((s.rounds k).e)) (hT 31 rfl rfl) (hbb1_10.ext' hR) rfl one_22 ⟨Ext.refl _, rfl⟩
      · refine Ask.plain rfl rfl ?_
        intro aq wq hNq hO hR hT
        replace hR := (Ext.drew _).trans hR
        exact does_add32 (a := (((s.rounds k).a : UInt32) + ((2654435769 : UInt32) * (UInt32.ofNat (k + 1) : UInt32) : UInt32) : UInt32)) (b := ((s.rounds k).e : UInt32)) (hT 28 rfl rfl) (hT 32 rfl rfl) ⟨Ext.refl _, rfl⟩
      · refine Ask.plain rfl rfl ?_
        intro aq wq hNq hO hR hT
        replace hR := (Ext.drew _).trans hR
        exact does_indexArr (k := .i64) (i := 0) (o' := 0) arr_54 ((hO 1 rfl).trans s1_10) (hT 25 rfl rfl) (by decide) (by decide) rfl ⟨Ext.refl _, rfl⟩
    intro a11 wd11 hN_11 hD_11 hO hR hA hU
    obtain ⟨_, _, _, _, _, _, _, _, t33, t34, _⟩ := hA
    have hE_11 := hE_10.trans hR
    have s1_11 := (hO 1 rfl).trans s1_10
    have s2_11 := (hO 2 rfl).trans s2_10
    have s3_11 := (hO 3 rfl).trans s3_10
    have s4_11 := (hO 4 rfl).trans s4_10
    have s5_11 := (hO 5 rfl).trans s5_10
    have hbb1_11 := hbb1_10.ext' hR
    have hbb2_11 := hbb2_10.ext' hR
    have hbb3_11 := hbb3_10.ext' hR
    have s33_11 : get a11 33 = w32 ((((s.rounds k).a : UInt32) + ((2654435769 : UInt32) * (UInt32.ofNat (k + 1) : UInt32) : UInt32) : UInt32) + ((s.rounds k).e : UInt32)) := t33
    have s34_11 : get a11 34 = Value.pointer (some ⟨b1, 0, none⟩) := t34
    clear hE_10 hN_10 hD_10 s1_10 s2_10 s3_10 s4_10 s5_10 s22_10 hbb1_10 hbb2_10 hbb3_10
    refine tail_none rfl rfl (does_storeD (o := 0) (n := 1) (cs' := [w32 ((((s.rounds k).a : UInt32) + ((2654435769 : UInt32) * (UInt32.ofNat (k + 1) : UInt32) : UInt32) : UInt32) + ((s.rounds k).e : UInt32)), w32 ((s.rounds k).b), w32 ((s.rounds k).c), w32 ((s.rounds k).d), w32 ((s.rounds k).e), w32 ((s.rounds k).f), w32 ((s.rounds k).g), w32 ((s.rounds k).h)]) (V := w32 ((((s.rounds k).a : UInt32) + ((2654435769 : UInt32) * (UInt32.ofNat (k + 1) : UInt32) : UInt32) : UInt32) + ((s.rounds k).e : UInt32))) s34_11 s33_11 hbb1_11 (Nat.le_of_ble_eq_true rfl) rfl siz_22 rfl rfl (fun wd12 hX hz hbb1_12 => ?_))
    have hE_12 := hE_11.since hX (fun k e => e ▸ fr_b1)
    have hbb2_12 := hbb2_11.ext hX ne_b1_b2.symm
    have hbb3_12 := hbb3_11.ext hX ne_b1_b3.symm
    clear hX hz hE_11 hbb1_11 hbb2_11 hbb3_11
    refine tail_nil ?_
    refine region_any [] [(35, Pr.ex (i64 ((0 : Nat) : Int))), (36, Pr.ex (i64 ((4 : Nat) : Int))), (37, Pr.ex (i64 ((0 : Nat) : Int))), (38, Pr.ex (i64 ((4 : Nat) : Int))), (39, Pr.ex (Value.pointer (some ⟨b1, 4, none⟩))), (40, Pr.ex (w32 ((s.rounds k).e))), (41, Pr.ex (i64 ((0 : Nat) : Int))), (42, Pr.ex (Value.pointer (some ⟨b1, 0, none⟩))), (43, Pr.ex (w32 ((((s.rounds k).a : UInt32) + ((2654435769 : UInt32) * (UInt32.ofNat (k + 1) : UInt32) : UInt32) : UInt32) + ((s.rounds k).e : UInt32)))), (44, Pr.ex (w32 (((s.rounds k).e : UInt32) ^^^ ((((s.rounds k).a : UInt32) + ((2654435769 : UInt32) * (UInt32.ofNat (k + 1) : UInt32) : UInt32) : UInt32) + ((s.rounds k).e : UInt32) : UInt32)))), (45, Pr.ex (i64 ((0 : Nat) : Int))), (46, Pr.ex (Value.pointer (some ⟨b3, 0, none⟩))), (47, Pr.ex (i64 ((7 : Nat) : Int))), (48, Pr.ex (w32 (rot (((s.rounds k).e : UInt32) ^^^ ((((s.rounds k).a : UInt32) + ((2654435769 : UInt32) * (UInt32.ofNat (k + 1) : UInt32) : UInt32) : UInt32) + ((s.rounds k).e : UInt32) : UInt32)) 7))), (49, Pr.ex (Value.pointer (some ⟨b1, 4, none⟩)))] 15 mixed hN_11 hD_11 (by kernel_rfl) (by kernel_rfl) (by kernel_rfl) ?_ ?_
    · refine Asks.cons ?_ (Asks.cons ?_ (Asks.cons ?_ (Asks.cons ?_ (Asks.cons ?_ (Asks.cons ?_ (Asks.cons ?_ (Asks.cons ?_ (Asks.cons ?_ (Asks.cons ?_ (Asks.cons ?_ (Asks.cons ?_ (Asks.cons ?_ (Asks.cons ?_ (Asks.cons ?_ (Asks.zero _)))))))))))))))
      · refine Ask.plain rfl rfl ?_
        intro aq wq hNq hO hR hT
        replace hR := (Ext.drew _).trans hR
        exact does_move (V := i64 ((0 : Nat) : Int)) ((hO 5 rfl).trans s5_11) ⟨Ext.refl _, rfl⟩
      · refine Ask.plain rfl rfl ?_
        intro aq wq hNq hO hR hT
        replace hR := (Ext.drew _).trans hR
        exact does_add (a := ((0 : Nat) : Int)) (b := ((4 : Nat) : Int)) (r := ((4 : Nat) : Int)) (hT 35 rfl rfl) rfl (by decide) (by decide) (by decide) ⟨Ext.refl _, rfl⟩
      · refine Ask.plain rfl rfl ?_
        intro aq wq hNq hO hR hT
        replace hR := (Ext.drew _).trans hR
        exact does_move (V := i64 ((0 : Nat) : Int)) ((hO 5 rfl).trans s5_11) ⟨Ext.refl _, rfl⟩
      · refine Ask.plain rfl rfl ?_
        intro aq wq hNq hO hR hT
        replace hR := (Ext.drew _).trans hR
        exact does_add (a := ((0 : Nat) : Int)) (b := ((4 : Nat) : Int)) (r := ((4 : Nat) : Int)) (hT 37 rfl rfl) rfl (by decide) (by decide) (by decide) ⟨Ext.refl _, rfl⟩
      · refine Ask.plain rfl rfl ?_
        intro aq wq hNq hO hR hT
        replace hR := (Ext.drew _).trans hR
        exact does_indexArr (k := .i64) (i := 4) (o' := 4) arr_54 ((hO 1 rfl).trans s1_11) (hT 38 rfl rfl) (by decide) (by decide) rfl ⟨Ext.refl _, rfl⟩
      · refine Ask.plain rfl rfl ?_
        intro aq wq hNq hO hR hT
        replace hR := (Ext.drew _).trans hR
        exact does_loadD1 (o := 4) (V := w32 ((s.rounds k).e)) (hT 39 rfl rfl) (hbb1_12.ext' hR) rfl one_22 ⟨Ext.refl _, rfl⟩
      · refine Ask.plain rfl rfl ?_
        intro aq wq hNq hO hR hT
        replace hR := (Ext.drew _).trans hR
        exact does_move (V := i64 ((0 : Nat) : Int)) ((hO 5 rfl).trans s5_11) ⟨Ext.refl _, rfl⟩
      · refine Ask.plain rfl rfl ?_
        intro aq wq hNq hO hR hT
        replace hR := (Ext.drew _).trans hR
        exact does_indexArr (k := .i64) (i := 0) (o' := 0) arr_54 ((hO 1 rfl).trans s1_11) (hT 41 rfl rfl) (by decide) (by decide) rfl ⟨Ext.refl _, rfl⟩
      · refine Ask.plain rfl rfl ?_
        intro aq wq hNq hO hR hT
        replace hR := (Ext.drew _).trans hR
        exact does_loadD1 (o := 0) (V := w32 ((((s.rounds k).a : UInt32) + ((2654435769 : UInt32) * (UInt32.ofNat (k + 1) : UInt32) : UInt32) : UInt32) + ((s.rounds k).e : UInt32))) (hT 42 rfl rfl) (hbb1_12.ext' hR) rfl one_22 ⟨Ext.refl _, rfl⟩
      · refine Ask.plain rfl rfl ?_
        intro aq wq hNq hO hR hT
        replace hR := (Ext.drew _).trans hR
        exact does_xor32 (a := ((s.rounds k).e : UInt32)) (b := ((((s.rounds k).a : UInt32) + ((2654435769 : UInt32) * (UInt32.ofNat (k + 1) : UInt32) : UInt32) : UInt32) + ((s.rounds k).e : UInt32) : UInt32)) (hT 40 rfl rfl) (hT 43 rfl rfl) ⟨Ext.refl _, rfl⟩
      · refine Ask.plain rfl rfl ?_
        intro aq wq hNq hO hR hT
        replace hR := (Ext.drew _).trans hR
        exact does_move (V := i64 ((0 : Nat) : Int)) ((hO 5 rfl).trans s5_11) ⟨Ext.refl _, rfl⟩
      · refine Ask.plain rfl rfl ?_
        intro aq wq hNq hO hR hT
        replace hR := (Ext.drew _).trans hR
        exact does_indexArr (k := .i64) (i := 0) (o' := 0) arr_91 ((hO 3 rfl).trans s3_11) (hT 45 rfl rfl) (by decide) (by decide) rfl ⟨Ext.refl _, rfl⟩
      · refine Ask.plain rfl rfl ?_
        intro aq wq hNq hO hR hT
        replace hR := (Ext.drew _).trans hR
        exact does_loadD1 (o := 0) (V := i64 ((7 : Nat) : Int)) (hT 46 rfl rfl) (hbb3_12.ext' hR) rfl one_3 ⟨Ext.refl _, rfl⟩
      · refine Ask.plain rfl rfl ?_
        intro aq wq hNq hO hR hT
        replace hR := (Ext.drew _).trans hR
        exact does_ret (vs := #[w32 (((s.rounds k).e : UInt32) ^^^ ((((s.rounds k).a : UInt32) + ((2654435769 : UInt32) * (UInt32.ofNat (k + 1) : UInt32) : UInt32) : UInt32) + ((s.rounds k).e : UInt32) : UInt32)), i64 ((7 : Nat) : Int)]) call_59 (args2 (hT 44 rfl rfl) (hT 47 rfl rfl)) rfl ((turnR (((s.rounds k).e : UInt32) ^^^ ((((s.rounds k).a : UInt32) + ((2654435769 : UInt32) * (UInt32.ofNat (k + 1) : UInt32) : UInt32) : UInt32) + ((s.rounds k).e : UInt32) : UInt32)) (7) wq (by decide)).mono fun v w2 h => ⟨h.2, h.1⟩)
      · refine Ask.plain rfl rfl ?_
        intro aq wq hNq hO hR hT
        replace hR := (Ext.drew _).trans hR
        exact does_indexArr (k := .i64) (i := 4) (o' := 4) arr_54 ((hO 1 rfl).trans s1_11) (hT 36 rfl rfl) (by decide) (by decide) rfl ⟨Ext.refl _, rfl⟩
    intro a13 wd13 hN_13 hD_13 hO hR hA hU
    obtain ⟨_, _, _, _, _, _, _, _, _, _, _, _, _, t48, t49, _⟩ := hA
    have hE_13 := hE_12.trans hR
    have s1_13 := (hO 1 rfl).trans s1_11
    have s2_13 := (hO 2 rfl).trans s2_11
    have s3_13 := (hO 3 rfl).trans s3_11
    have s4_13 := (hO 4 rfl).trans s4_11
    have s5_13 := (hO 5 rfl).trans s5_11
    have hbb1_13 := hbb1_12.ext' hR
    have hbb2_13 := hbb2_12.ext' hR
    have hbb3_13 := hbb3_12.ext' hR
    have s48_13 : get a13 48 = w32 (rot (((s.rounds k).e : UInt32) ^^^ ((((s.rounds k).a : UInt32) + ((2654435769 : UInt32) * (UInt32.ofNat (k + 1) : UInt32) : UInt32) : UInt32) + ((s.rounds k).e : UInt32) : UInt32)) 7) := t48
    have s49_13 : get a13 49 = Value.pointer (some ⟨b1, 4, none⟩) := t49
    clear hE_12 hN_11 hD_11 s1_11 s2_11 s3_11 s4_11 s5_11 s33_11 s34_11 hbb1_12 hbb2_12 hbb3_12
    refine tail_none rfl rfl (does_storeD (o := 4) (n := 1) (cs' := [w32 ((((s.rounds k).a : UInt32) + ((2654435769 : UInt32) * (UInt32.ofNat (k + 1) : UInt32) : UInt32) : UInt32) + ((s.rounds k).e : UInt32)), w32 ((s.rounds k).b), w32 ((s.rounds k).c), w32 ((s.rounds k).d), w32 (rot (((s.rounds k).e : UInt32) ^^^ ((((s.rounds k).a : UInt32) + ((2654435769 : UInt32) * (UInt32.ofNat (k + 1) : UInt32) : UInt32) : UInt32) + ((s.rounds k).e : UInt32) : UInt32)) 7), w32 ((s.rounds k).f), w32 ((s.rounds k).g), w32 ((s.rounds k).h)]) (V := w32 (rot (((s.rounds k).e : UInt32) ^^^ ((((s.rounds k).a : UInt32) + ((2654435769 : UInt32) * (UInt32.ofNat (k + 1) : UInt32) : UInt32) : UInt32) + ((s.rounds k).e : UInt32) : UInt32)) 7)) s49_13 s48_13 hbb1_13 (Nat.le_of_ble_eq_true rfl) rfl siz_22 rfl rfl (fun wd14 hX hz hbb1_14 => ?_))
    have hE_14 := hE_13.since hX (fun k e => e ▸ fr_b1)
    have hbb2_14 := hbb2_13.ext hX ne_b1_b2.symm
    have hbb3_14 := hbb3_13.ext hX ne_b1_b3.symm
    clear hX hz hE_13 hbb1_13 hbb2_13 hbb3_13
    refine tail_nil ?_
    refine region_lex [] [(23, Pr.ex (i64 ((0 : Nat) : Int))), (24, Pr.ex (i64 ((1 : Nat) : Int)))] 2 hN_13 hD_13 (by kernel_rfl) (by kernel_rfl) ?_ ?_
    · refine Asks.cons ?_ (Asks.cons ?_ (Asks.zero _))
      · refine Ask.plain rfl rfl ?_
        intro aq wq hNq hO hR hT
        exact does_move (V := i64 ((0 : Nat) : Int)) ((hO 5 rfl).trans s5_13) ⟨Ext.refl _, rfl⟩
      · refine Ask.plain rfl rfl ?_
        intro aq wq hNq hO hR hT
        exact does_add (a := ((0 : Nat) : Int)) (b := ((1 : Nat) : Int)) (r := ((1 : Nat) : Int)) (hT 23 rfl rfl) rfl (by decide) (by decide) (by decide) ⟨Ext.refl _, rfl⟩
    intro a15 wd15 hN_15 hD_15 hO hR hA hU
    obtain ⟨_, t24, _⟩ := hA
    have hE_15 := hE_14.trans hR
    have s1_15 := (hO 1 rfl).trans s1_13
    have s2_15 := (hO 2 rfl).trans s2_13
    have s3_15 := (hO 3 rfl).trans s3_13
    have s4_15 := (hO 4 rfl).trans s4_13
    have s5_15 := (hO 5 rfl).trans s5_13
    have hbb1_15 := hbb1_14.ext' hR
    have hbb2_15 := hbb2_14.ext' hR
    have hbb3_15 := hbb3_14.ext' hR
    have s24_15 : get a15 24 = i64 ((1 : Nat) : Int) := t24
    clear hE_14 hN_13 hD_13 s1_13 s2_13 s3_13 s4_13 s5_13 s48_13 s49_13 hbb1_14 hbb2_14 hbb3_14
    refine tail_put rfl rfl hN_15 hD_15 (by decide) (does_assign (V := i64 ((1 : Nat) : Int)) s24_15 (fun a16 hN_16 hD_16 hv hO => ?_))
    have s5_16 := hv
    have s1_16 := (hO 1 rfl).trans s1_15
    have s2_16 := (hO 2 rfl).trans s2_15
    have s3_16 := (hO 3 rfl).trans s3_15
    have s4_16 := (hO 4 rfl).trans s4_15
    clear hO hv hN_15 hD_15 s1_15 s2_15 s3_15 s4_15 s24_15 s5_15
    refine tail_nil ?_
    refine round_step ?_
    refine wp_seq ?_
    refine wp_seq ?_
    refine region_lex [] [(21, Pr.ex (i64 ((1 : Nat) : Int))), (22, Pr.ex (Value.bool (true)))] 2 hN_16 hD_16 (by kernel_rfl) (by kernel_rfl) ?_ ?_
    · refine Asks.cons ?_ (Asks.cons ?_ (Asks.zero _))
      · refine Ask.plain rfl rfl ?_
        intro aq wq hNq hO hR hT
        exact does_move (V := i64 ((1 : Nat) : Int)) ((hO 5 rfl).trans s5_16) ⟨Ext.refl _, rfl⟩
      · refine Ask.plain rfl rfl ?_
        intro aq wq hNq hO hR hT
        exact does_lss (a := ((1 : Nat) : Int)) (b := ((4 : Nat) : Int)) (hT 21 rfl rfl) rfl ⟨Ext.refl _, rfl⟩
    intro a17 wd17 hN_17 hD_17 hO hR hA hU
    obtain ⟨_, t22, _⟩ := hA
    have hE_17 := hE_15.trans hR
    have s1_17 := (hO 1 rfl).trans s1_16
    have s2_17 := (hO 2 rfl).trans s2_16
    have s3_17 := (hO 3 rfl).trans s3_16
    have s4_17 := (hO 4 rfl).trans s4_16
    have s5_17 := (hO 5 rfl).trans s5_16
    have hbb1_17 := hbb1_15.ext' hR
    have hbb2_17 := hbb2_15.ext' hR
    have hbb3_17 := hbb3_15.ext' hR
    have s22_17 : get a17 22 = Value.bool (true) := t22
    clear hE_15 hN_16 hD_16 s1_16 s2_16 s3_16 s4_16 s5_16 hbb1_15 hbb2_15 hbb3_15
    refine tail_nil ?_
    refine wp_ifT s22_17 ?_
    refine wp_skip ?_
    refine wp_seq ?_
    refine wp_block ?_
    refine wp_seq ?_
    refine region_any [] [(25, Pr.ex (i64 ((1 : Nat) : Int))), (26, Pr.ex (i64 ((1 : Nat) : Int))), (27, Pr.ex (Value.pointer (some ⟨b1, 1, none⟩))), (28, Pr.ex (w32 ((s.rounds k).b))), (29, Pr.ex (i64 ((1 : Nat) : Int))), (30, Pr.ex (i64 ((5 : Nat) : Int))), (31, Pr.ex (Value.pointer (some ⟨b1, 5, none⟩))), (32, Pr.ex (w32 ((s.rounds k).f))), (33, Pr.ex (w32 (((s.rounds k).b : UInt32) + ((s.rounds k).f : UInt32)))), (34, Pr.ex (Value.pointer (some ⟨b1, 1, none⟩)))] 10 mixed hN_17 hD_17 (by kernel_rfl) (by kernel_rfl) (by kernel_rfl) ?_ ?_
    · refine Asks.cons ?_ (Asks.cons ?_ (Asks.cons ?_ (Asks.cons ?_ (Asks.cons ?_ (Asks.cons ?_ (Asks.cons ?_ (Asks.cons ?_ (Asks.cons ?_ (Asks.cons ?_ (Asks.zero _))))))))))
      · refine Ask.plain rfl rfl ?_
        intro aq wq hNq hO hR hT
        replace hR := (Ext.drew _).trans hR
        exact does_move (V := i64 ((1 : Nat) : Int)) ((hO 5 rfl).trans s5_17) ⟨Ext.refl _, rfl⟩
      · refine Ask.plain rfl rfl ?_
        intro aq wq hNq hO hR hT
        replace hR := (Ext.drew _).trans hR
        exact does_move (V := i64 ((1 : Nat) : Int)) ((hO 5 rfl).trans s5_17) ⟨Ext.refl _, rfl⟩
      · refine Ask.plain rfl rfl ?_
        intro aq wq hNq hO hR hT
        replace hR := (Ext.drew _).trans hR
        exact does_indexArr (k := .i64) (i := 1) (o' := 1) arr_54 ((hO 1 rfl).trans s1_17) (hT 26 rfl rfl) (by decide) (by decide) rfl ⟨Ext.refl _, rfl⟩
      · refine Ask.plain rfl rfl ?_
        intro aq wq hNq hO hR hT
        replace hR := (Ext.drew _).trans hR
        exact does_loadD1 (o := 1) (V := w32 ((s.rounds k).b)) (hT 27 rfl rfl) (hbb1_17.ext' hR) rfl one_22 ⟨Ext.refl _, rfl⟩
      · refine Ask.plain rfl rfl ?_
        intro aq wq hNq hO hR hT
        replace hR := (Ext.drew _).trans hR
        exact does_move (V := i64 ((1 : Nat) : Int)) ((hO 5 rfl).trans s5_17) ⟨Ext.refl _, rfl⟩
      · refine Ask.plain rfl rfl ?_
        intro aq wq hNq hO hR hT
        replace hR := (Ext.drew _).trans hR
        exact does_add (a := ((1 : Nat) : Int)) (b := ((4 : Nat) : Int)) (r := ((5 : Nat) : Int)) (hT 29 rfl rfl) rfl (by decide) (by decide) (by decide) ⟨Ext.refl _, rfl⟩
      · refine Ask.plain rfl rfl ?_
        intro aq wq hNq hO hR hT
        replace hR := (Ext.drew _).trans hR
        exact does_indexArr (k := .i64) (i := 5) (o' := 5) arr_54 ((hO 1 rfl).trans s1_17) (hT 30 rfl rfl) (by decide) (by decide) rfl ⟨Ext.refl _, rfl⟩
      · refine Ask.plain rfl rfl ?_
        intro aq wq hNq hO hR hT
        replace hR := (Ext.drew _).trans hR
        exact does_loadD1 (o := 5) (V := w32 ((s.rounds k).f)) (hT 31 rfl rfl) (hbb1_17.ext' hR) rfl one_22 ⟨Ext.refl _, rfl⟩
      · refine Ask.plain rfl rfl ?_
        intro aq wq hNq hO hR hT
        replace hR := (Ext.drew _).trans hR
        exact does_add32 (a := ((s.rounds k).b : UInt32)) (b := ((s.rounds k).f : UInt32)) (hT 28 rfl rfl) (hT 32 rfl rfl) ⟨Ext.refl _, rfl⟩
      · refine Ask.plain rfl rfl ?_
        intro aq wq hNq hO hR hT
        replace hR := (Ext.drew _).trans hR
        exact does_indexArr (k := .i64) (i := 1) (o' := 1) arr_54 ((hO 1 rfl).trans s1_17) (hT 25 rfl rfl) (by decide) (by decide) rfl ⟨Ext.refl _, rfl⟩
    intro a18 wd18 hN_18 hD_18 hO hR hA hU
    obtain ⟨_, _, _, _, _, _, _, _, t33, t34, _⟩ := hA
    have hE_18 := hE_17.trans hR
    have s1_18 := (hO 1 rfl).trans s1_17
    have s2_18 := (hO 2 rfl).trans s2_17
    have s3_18 := (hO 3 rfl).trans s3_17
    have s4_18 := (hO 4 rfl).trans s4_17
    have s5_18 := (hO 5 rfl).trans s5_17
    have hbb1_18 := hbb1_17.ext' hR
    have hbb2_18 := hbb2_17.ext' hR
    have hbb3_18 := hbb3_17.ext' hR
    have s33_18 : get a18 33 = w32 (((s.rounds k).b : UInt32) + ((s.rounds k).f : UInt32)) := t33
    have s34_18 : get a18 34 = Value.pointer (some ⟨b1, 1, none⟩) := t34
    clear hE_17 hN_17 hD_17 s1_17 s2_17 s3_17 s4_17 s5_17 s22_17 hbb1_17 hbb2_17 hbb3_17
    refine tail_none rfl rfl (does_storeD (o := 1) (n := 1) (cs' := [w32 ((((s.rounds k).a : UInt32) + ((2654435769 : UInt32) * (UInt32.ofNat (k + 1) : UInt32) : UInt32) : UInt32) + ((s.rounds k).e : UInt32)), w32 (((s.rounds k).b : UInt32) + ((s.rounds k).f : UInt32)), w32 ((s.rounds k).c), w32 ((s.rounds k).d), w32 (rot (((s.rounds k).e : UInt32) ^^^ ((((s.rounds k).a : UInt32) + ((2654435769 : UInt32) * (UInt32.ofNat (k + 1) : UInt32) : UInt32) : UInt32) + ((s.rounds k).e : UInt32) : UInt32)) 7), w32 ((s.rounds k).f), w32 ((s.rounds k).g), w32 ((s.rounds k).h)]) (V := w32 (((s.rounds k).b : UInt32) + ((s.rounds k).f : UInt32))) s34_18 s33_18 hbb1_18 (Nat.le_of_ble_eq_true rfl) rfl siz_22 rfl rfl (fun wd19 hX hz hbb1_19 => ?_))
    have hE_19 := hE_18.since hX (fun k e => e ▸ fr_b1)
    have hbb2_19 := hbb2_18.ext hX ne_b1_b2.symm
    have hbb3_19 := hbb3_18.ext hX ne_b1_b3.symm
    clear hX hz hE_18 hbb1_18 hbb2_18 hbb3_18
    refine tail_nil ?_
    refine region_any [] [(35, Pr.ex (i64 ((1 : Nat) : Int))), (36, Pr.ex (i64 ((5 : Nat) : Int))), (37, Pr.ex (i64 ((1 : Nat) : Int))), (38, Pr.ex (i64 ((5 : Nat) : Int))), (39, Pr.ex (Value.pointer (some ⟨b1, 5, none⟩))), (40, Pr.ex (w32 ((s.rounds k).f))), (41, Pr.ex (i64 ((1 : Nat) : Int))), (42, Pr.ex (Value.pointer (some ⟨b1, 1, none⟩))), (43, Pr.ex (w32 (((s.rounds k).b : UInt32) + ((s.rounds k).f : UInt32)))), (44, Pr.ex (w32 (((s.rounds k).f : UInt32) ^^^ (((s.rounds k).b : UInt32) + ((s.rounds k).f : UInt32) : UInt32)))), (45, Pr.ex (i64 ((1 : Nat) : Int))), (46, Pr.ex (Value.pointer (some ⟨b3, 1, none⟩))), (47, Pr.ex (i64 ((9 : Nat) : Int))), (48, Pr.ex (w32 (rot (((s.rounds k).f : UInt32) ^^^ (((s.rounds k).b : UInt32) + ((s.rounds k).f : UInt32) : UInt32)) 9))), (49, Pr.ex (Value.pointer (some ⟨b1, 5, none⟩)))] 15 mixed hN_18 hD_18 (by kernel_rfl) (by kernel_rfl) (by kernel_rfl) ?_ ?_
    · refine Asks.cons ?_ (Asks.cons ?_ (Asks.cons ?_ (Asks.cons ?_ (Asks.cons ?_ (Asks.cons ?_ (Asks.cons ?_ (Asks.cons ?_ (Asks.cons ?_ (Asks.cons ?_ (Asks.cons ?_ (Asks.cons ?_ (Asks.cons ?_ (Asks.cons ?_ (Asks.cons ?_ (Asks.zero _)))))))))))))))
      · refine Ask.plain rfl rfl ?_
        intro aq wq hNq hO hR hT
        replace hR := (Ext.drew _).trans hR
        exact does_move (V := i64 ((1 : Nat) : Int)) ((hO 5 rfl).trans s5_18) ⟨Ext.refl _, rfl⟩
      · refine Ask.plain rfl rfl ?_
        intro aq wq hNq hO hR hT
        replace hR := (Ext.drew _).trans hR
        exact does_add (a := ((1 : Nat) : Int)) (b := ((4 : Nat) : Int)) (r := ((5 : Nat) : Int)) (hT 35 rfl rfl) rfl (by decide) (by decide) (by decide) ⟨Ext.refl _, rfl⟩
      · refine Ask.plain rfl rfl ?_
        intro aq wq hNq hO hR hT
        replace hR := (Ext.drew _).trans hR
        exact does_move (V := i64 ((1 : Nat) : Int)) ((hO 5 rfl).trans s5_18) ⟨Ext.refl _, rfl⟩
      · refine Ask.plain rfl rfl ?_
        intro aq wq hNq hO hR hT
        replace hR := (Ext.drew _).trans hR
        exact does_add (a := ((1 : Nat) : Int)) (b := ((4 : Nat) : Int)) (r := ((5 : Nat) : Int)) (hT 37 rfl rfl) rfl (by decide) (by decide) (by decide) ⟨Ext.refl _, rfl⟩
      · refine Ask.plain rfl rfl ?_
        intro aq wq hNq hO hR hT
        replace hR := (Ext.drew _).trans hR
        exact does_indexArr (k := .i64) (i := 5) (o' := 5) arr_54 ((hO 1 rfl).trans s1_18) (hT 38 rfl rfl) (by decide) (by decide) rfl ⟨Ext.refl _, rfl⟩
      · refine Ask.plain rfl rfl ?_
        intro aq wq hNq hO hR hT
        replace hR := (Ext.drew _).trans hR
        exact does_loadD1 (o := 5) (V := w32 ((s.rounds k).f)) (hT 39 rfl rfl) (hbb1_19.ext' hR) rfl one_22 ⟨Ext.refl _, rfl⟩
      · refine Ask.plain rfl rfl ?_
        intro aq wq hNq hO hR hT
        replace hR := (Ext.drew _).trans hR
        exact does_move (V := i64 ((1 : Nat) : Int)) ((hO 5 rfl).trans s5_18) ⟨Ext.refl _, rfl⟩
      · refine Ask.plain rfl rfl ?_
        intro aq wq hNq hO hR hT
        replace hR := (Ext.drew _).trans hR
        exact does_indexArr (k := .i64) (i := 1) (o' := 1) arr_54 ((hO 1 rfl).trans s1_18) (hT 41 rfl rfl) (by decide) (by decide) rfl ⟨Ext.refl _, rfl⟩
      · refine Ask.plain rfl rfl ?_
        intro aq wq hNq hO hR hT
        replace hR := (Ext.drew _).trans hR
        exact does_loadD1 (o := 1) (V := w32 (((s.rounds k).b : UInt32) + ((s.rounds k).f : UInt32))) (hT 42 rfl rfl) (hbb1_19.ext' hR) rfl one_22 ⟨Ext.refl _, rfl⟩
      · refine Ask.plain rfl rfl ?_
        intro aq wq hNq hO hR hT
        replace hR := (Ext.drew _).trans hR
        exact does_xor32 (a := ((s.rounds k).f : UInt32)) (b := (((s.rounds k).b : UInt32) + ((s.rounds k).f : UInt32) : UInt32)) (hT 40 rfl rfl) (hT 43 rfl rfl) ⟨Ext.refl _, rfl⟩
      · refine Ask.plain rfl rfl ?_
        intro aq wq hNq hO hR hT
        replace hR := (Ext.drew _).trans hR
        exact does_move (V := i64 ((1 : Nat) : Int)) ((hO 5 rfl).trans s5_18) ⟨Ext.refl _, rfl⟩
      · refine Ask.plain rfl rfl ?_
        intro aq wq hNq hO hR hT
        replace hR := (Ext.drew _).trans hR
        exact does_indexArr (k := .i64) (i := 1) (o' := 1) arr_91 ((hO 3 rfl).trans s3_18) (hT 45 rfl rfl) (by decide) (by decide) rfl ⟨Ext.refl _, rfl⟩
      · refine Ask.plain rfl rfl ?_
        intro aq wq hNq hO hR hT
        replace hR := (Ext.drew _).trans hR
        exact does_loadD1 (o := 1) (V := i64 ((9 : Nat) : Int)) (hT 46 rfl rfl) (hbb3_19.ext' hR) rfl one_3 ⟨Ext.refl _, rfl⟩
      · refine Ask.plain rfl rfl ?_
        intro aq wq hNq hO hR hT
        replace hR := (Ext.drew _).trans hR
        exact does_ret (vs := #[w32 (((s.rounds k).f : UInt32) ^^^ (((s.rounds k).b : UInt32) + ((s.rounds k).f : UInt32) : UInt32)), i64 ((9 : Nat) : Int)]) call_59 (args2 (hT 44 rfl rfl) (hT 47 rfl rfl)) rfl ((turnR (((s.rounds k).f : UInt32) ^^^ (((s.rounds k).b : UInt32) + ((s.rounds k).f : UInt32) : UInt32)) (9) wq (by decide)).mono fun v w2 h => ⟨h.2, h.1⟩)
      · refine Ask.plain rfl rfl ?_
        intro aq wq hNq hO hR hT
        replace hR := (Ext.drew _).trans hR
        exact does_indexArr (k := .i64) (i := 5) (o' := 5) arr_54 ((hO 1 rfl).trans s1_18) (hT 36 rfl rfl) (by decide) (by decide) rfl ⟨Ext.refl _, rfl⟩
    intro a20 wd20 hN_20 hD_20 hO hR hA hU
    obtain ⟨_, _, _, _, _, _, _, _, _, _, _, _, _, t48, t49, _⟩ := hA
    have hE_20 := hE_19.trans hR
    have s1_20 := (hO 1 rfl).trans s1_18
    have s2_20 := (hO 2 rfl).trans s2_18
    have s3_20 := (hO 3 rfl).trans s3_18
    have s4_20 := (hO 4 rfl).trans s4_18
    have s5_20 := (hO 5 rfl).trans s5_18
    have hbb1_20 := hbb1_19.ext' hR
    have hbb2_20 := hbb2_19.ext' hR
    have hbb3_20 := hbb3_19.ext' hR
    have s48_20 : get a20 48 = w32 (rot (((s.rounds k).f : UInt32) ^^^ (((s.rounds k).b : UInt32) + ((s.rounds k).f : UInt32) : UInt32)) 9) := t48
    have s49_20 : get a20 49 = Value.pointer (some ⟨b1, 5, none⟩) := t49
    clear hE_19 hN_18 hD_18 s1_18 s2_18 s3_18 s4_18 s5_18 s33_18 s34_18 hbb1_19 hbb2_19 hbb3_19
    refine tail_none rfl rfl (does_storeD (o := 5) (n := 1) (cs' := [w32 ((((s.rounds k).a : UInt32) + ((2654435769 : UInt32) * (UInt32.ofNat (k + 1) : UInt32) : UInt32) : UInt32) + ((s.rounds k).e : UInt32)), w32 (((s.rounds k).b : UInt32) + ((s.rounds k).f : UInt32)), w32 ((s.rounds k).c), w32 ((s.rounds k).d), w32 (rot (((s.rounds k).e : UInt32) ^^^ ((((s.rounds k).a : UInt32) + ((2654435769 : UInt32) * (UInt32.ofNat (k + 1) : UInt32) : UInt32) : UInt32) + ((s.rounds k).e : UInt32) : UInt32)) 7), w32 (rot (((s.rounds k).f : UInt32) ^^^ (((s.rounds k).b : UInt32) + ((s.rounds k).f : UInt32) : UInt32)) 9), w32 ((s.rounds k).g), w32 ((s.rounds k).h)]) (V := w32 (rot (((s.rounds k).f : UInt32) ^^^ (((s.rounds k).b : UInt32) + ((s.rounds k).f : UInt32) : UInt32)) 9)) s49_20 s48_20 hbb1_20 (Nat.le_of_ble_eq_true rfl) rfl siz_22 rfl rfl (fun wd21 hX hz hbb1_21 => ?_))
    have hE_21 := hE_20.since hX (fun k e => e ▸ fr_b1)
    have hbb2_21 := hbb2_20.ext hX ne_b1_b2.symm
    have hbb3_21 := hbb3_20.ext hX ne_b1_b3.symm
    clear hX hz hE_20 hbb1_20 hbb2_20 hbb3_20
    refine tail_nil ?_
    refine region_lex [] [(23, Pr.ex (i64 ((1 : Nat) : Int))), (24, Pr.ex (i64 ((2 : Nat) : Int)))] 2 hN_20 hD_20 (by kernel_rfl) (by kernel_rfl) ?_ ?_
    · refine Asks.cons ?_ (Asks.cons ?_ (Asks.zero _))
      · refine Ask.plain rfl rfl ?_
        intro aq wq hNq hO hR hT
        exact does_move (V := i64 ((1 : Nat) : Int)) ((hO 5 rfl).trans s5_20) ⟨Ext.refl _, rfl⟩
      · refine Ask.plain rfl rfl ?_
        intro aq wq hNq hO hR hT
        exact does_add (a := ((1 : Nat) : Int)) (b := ((1 : Nat) : Int)) (r := ((2 : Nat) : Int)) (hT 23 rfl rfl) rfl (by decide) (by decide) (by decide) ⟨Ext.refl _, rfl⟩
    intro a22 wd22 hN_22 hD_22 hO hR hA hU
    obtain ⟨_, t24, _⟩ := hA
    have hE_22 := hE_21.trans hR
    have s1_22 := (hO 1 rfl).trans s1_20
    have s2_22 := (hO 2 rfl).trans s2_20
    have s3_22 := (hO 3 rfl).trans s3_20
    have s4_22 := (hO 4 rfl).trans s4_20
    have s5_22 := (hO 5 rfl).trans s5_20
    have hbb1_22 := hbb1_21.ext' hR
    have hbb2_22 := hbb2_21.ext' hR
    have hbb3_22 := hbb3_21.ext' hR
    have s24_22 : get a22 24 = i64 ((2 : Nat) : Int) := t24
    clear hE_21 hN_20 hD_20 s1_20 s2_20 s3_20 s4_20 s5_20 s48_20 s49_20 hbb1_21 hbb2_21 hbb3_21
    refine tail_put rfl rfl hN_22 hD_22 (by decide) (does_assign (V := i64 ((2 : Nat) : Int)) s24_22 (fun a23 hN_23 hD_23 hv hO => ?_))
    have s5_23 := hv
    have s1_23 := (hO 1 rfl).trans s1_22
    have s2_23 := (hO 2 rfl).trans s2_22
    have s3_23 := (hO 3 rfl).trans s3_22
    have s4_23 := (hO 4 rfl).trans s4_22
    clear hO hv hN_22 hD_22 s1_22 s2_22 s3_22 s4_22 s24_22 s5_22
    refine tail_nil ?_
    refine round_step ?_
    refine wp_seq ?_
    refine wp_seq ?_
    refine region_lex [] [(21, Pr.ex (i64 ((2 : Nat) : Int))), (22, Pr.ex (Value.bool (true)))] 2 hN_23 hD_23 (by kernel_rfl) (by kernel_rfl) ?_ ?_
    · refine Asks.cons ?_ (Asks.cons ?_ (Asks.zero _))
      · refine Ask.plain rfl rfl ?_
        intro aq wq hNq hO hR hT
        exact does_move (V := i64 ((2 : Nat) : Int)) ((hO 5 rfl).trans s5_23) ⟨Ext.refl _, rfl⟩
      · refine Ask.plain rfl rfl ?_
        intro aq wq hNq hO hR hT
        exact does_lss (a := ((2 : Nat) : Int)) (b := ((4 : Nat) : Int)) (hT 21 rfl rfl) rfl ⟨Ext.refl _, rfl⟩
    intro a24 wd24 hN_24 hD_24 hO hR hA hU
    obtain ⟨_, t22, _⟩ := hA
    have hE_24 := hE_22.trans hR
    have s1_24 := (hO 1 rfl).trans s1_23
    have s2_24 := (hO 2 rfl).trans s2_23
    have s3_24 := (hO 3 rfl).trans s3_23
    have s4_24 := (hO 4 rfl).trans s4_23
    have s5_24 := (hO 5 rfl).trans s5_23
    have hbb1_24 := hbb1_22.ext' hR
    have hbb2_24 := hbb2_22.ext' hR
    have hbb3_24 := hbb3_22.ext' hR
    have s22_24 : get a24 22 = Value.bool (true) := t22
    clear hE_22 hN_23 hD_23 s1_23 s2_23 s3_23 s4_23 s5_23 hbb1_22 hbb2_22 hbb3_22
    refine tail_nil ?_
    refine wp_ifT s22_24 ?_
    refine wp_skip ?_
    refine wp_seq ?_
    refine wp_block ?_
    refine wp_seq ?_
    refine region_any [] [(25, Pr.ex (i64 ((2 : Nat) : Int))), (26, Pr.ex (i64 ((2 : Nat) : Int))), (27, Pr.ex (Value.pointer (some ⟨b1, 2, none⟩))), (28, Pr.ex (w32 ((s.rounds k).c))), (29, Pr.ex (i64 ((2 : Nat) : Int))), (30, Pr.ex (i64 ((6 : Nat) : Int))), (31, Pr.ex (Value.pointer (some ⟨b1, 6, none⟩))), (32, Pr.ex (w32 ((s.rounds k).g))), (33, Pr.ex (w32 (((s.rounds k).c : UInt32) + ((s.rounds k).g : UInt32)))), (34, Pr.ex (Value.pointer (some ⟨b1, 2, none⟩)))] 10 mixed hN_24 hD_24 (by kernel_rfl) (by kernel_rfl) (by kernel_rfl) ?_ ?_
    · refine Asks.cons ?_ (Asks.cons ?_ (Asks.cons ?_ (Asks.cons ?_ (Asks.cons ?_ (Asks.cons ?_ (Asks.cons ?_ (Asks.cons ?_ (Asks.cons ?_ (Asks.cons ?_ (Asks.zero _))))))))))
      · refine Ask.plain rfl rfl ?_
        intro aq wq hNq hO hR hT
        replace hR := (Ext.drew _).trans hR
        exact does_move (V := i64 ((2 : Nat) : Int)) ((hO 5 rfl).trans s5_24) ⟨Ext.refl _, rfl⟩
      · refine Ask.plain rfl rfl ?_
        intro aq wq hNq hO hR hT
        replace hR := (Ext.drew _).trans hR
        exact does_move (V := i64 ((2 : Nat) : Int)) ((hO 5 rfl).trans s5_24) ⟨Ext.refl _, rfl⟩
      · refine Ask.plain rfl rfl ?_
        intro aq wq hNq hO hR hT
        replace hR := (Ext.drew _).trans hR
        exact does_indexArr (k := .i64) (i := 2) (o' := 2) arr_54 ((hO 1 rfl).trans s1_24) (hT 26 rfl rfl) (by decide) (by decide) rfl ⟨Ext.refl _, rfl⟩
      · refine Ask.plain rfl rfl ?_
        intro aq wq hNq hO hR hT
        replace hR := (Ext.drew _).trans hR
        exact does_loadD1 (o := 2) (V := w32 ((s.rounds k).c)) (hT 27 rfl rfl) (hbb1_24.ext' hR) rfl one_22 ⟨Ext.refl _, rfl⟩
      · refine Ask.plain rfl rfl ?_
        intro aq wq hNq hO hR hT
        replace hR := (Ext.drew _).trans hR
        exact does_move (V := i64 ((2 : Nat) : Int)) ((hO 5 rfl).trans s5_24) ⟨Ext.refl _, rfl⟩
      · refine Ask.plain rfl rfl ?_
        intro aq wq hNq hO hR hT
        replace hR := (Ext.drew _).trans hR
        exact does_add (a := ((2 : Nat) : Int)) (b := ((4 : Nat) : Int)) (r := ((6 : Nat) : Int)) (hT 29 rfl rfl) rfl (by decide) (by decide) (by decide) ⟨Ext.refl _, rfl⟩
      · refine Ask.plain rfl rfl ?_
        intro aq wq hNq hO hR hT
        replace hR := (Ext.drew _).trans hR
        exact does_indexArr (k := .i64) (i := 6) (o' := 6) arr_54 ((hO 1 rfl).trans s1_24) (hT 30 rfl rfl) (by decide) (by decide) rfl ⟨Ext.refl _, rfl⟩
      · refine Ask.plain rfl rfl ?_
        intro aq wq hNq hO hR hT
        replace hR := (Ext.drew _).trans hR
        exact does_loadD1 (o := 6) (V := w32 ((s.rounds k).g)) (hT 31 rfl rfl) (hbb1_24.ext' hR) rfl one_22 ⟨Ext.refl _, rfl⟩
      · refine Ask.plain rfl rfl ?_
        intro aq wq hNq hO hR hT
        replace hR := (Ext.drew _).trans hR
        exact does_add32 (a := ((s.rounds k).c : UInt32)) (b := ((s.rounds k).g : UInt32)) (hT 28 rfl rfl) (hT 32 rfl rfl) ⟨Ext.refl _, rfl⟩
      · refine Ask.plain rfl rfl ?_
        intro aq wq hNq hO hR hT
        replace hR := (Ext.drew _).trans hR
        exact does_indexArr (k := .i64) (i := 2) (o' := 2) arr_54 ((hO 1 rfl).trans s1_24) (hT 25 rfl rfl) (by decide) (by decide) rfl ⟨Ext.refl _, rfl⟩
    intro a25 wd25 hN_25 hD_25 hO hR hA hU
    obtain ⟨_, _, _, _, _, _, _, _, t33, t34, _⟩ := hA
    have hE_25 := hE_24.trans hR
    have s1_25 := (hO 1 rfl).trans s1_24
    have s2_25 := (hO 2 rfl).trans s2_24
    have s3_25 := (hO 3 rfl).trans s3_24
    have s4_25 := (hO 4 rfl).trans s4_24
    have s5_25 := (hO 5 rfl).trans s5_24
    have hbb1_25 := hbb1_24.ext' hR
    have hbb2_25 := hbb2_24.ext' hR
    have hbb3_25 := hbb3_24.ext' hR
    have s33_25 : get a25 33 = w32 (((s.rounds k).c : UInt32) + ((s.rounds k).g : UInt32)) := t33
    have s34_25 : get a25 34 = Value.pointer (some ⟨b1, 2, none⟩) := t34
    clear hE_24 hN_24 hD_24 s1_24 s2_24 s3_24 s4_24 s5_24 s22_24 hbb1_24 hbb2_24 hbb3_24
    refine tail_none rfl rfl (does_storeD (o := 2) (n := 1) (cs' := [w32 ((((s.rounds k).a : UInt32) + ((2654435769 : UInt32) * (UInt32.ofNat (k + 1) : UInt32) : UInt32) : UInt32) + ((s.rounds k).e : UInt32)), w32 (((s.rounds k).b : UInt32) + ((s.rounds k).f : UInt32)), w32 (((s.rounds k).c : UInt32) + ((s.rounds k).g : UInt32)), w32 ((s.rounds k).d), w32 (rot (((s.rounds k).e : UInt32) ^^^ ((((s.rounds k).a : UInt32) + ((2654435769 : UInt32) * (UInt32.ofNat (k + 1) : UInt32) : UInt32) : UInt32) + ((s.rounds k).e : UInt32) : UInt32)) 7), w32 (rot (((s.rounds k).f : UInt32) ^^^ (((s.rounds k).b : UInt32) + ((s.rounds k).f : UInt32) : UInt32)) 9), w32 ((s.rounds k).g), w32 ((s.rounds k).h)]) (V := w32 (((s.rounds k).c : UInt32) + ((s.rounds k).g : UInt32))) s34_25 s33_25 hbb1_25 (Nat.le_of_ble_eq_true rfl) rfl siz_22 rfl rfl (fun wd26 hX hz hbb1_26 => ?_))
    have hE_26 := hE_25.since hX (fun k e => e ▸ fr_b1)
    have hbb2_26 := hbb2_25.ext hX ne_b1_b2.symm
    have hbb3_26 := hbb3_25.ext hX ne_b1_b3.symm
    clear hX hz hE_25 hbb1_25 hbb2_25 hbb3_25
    refine tail_nil ?_
    refine region_any [] [(35, Pr.ex (i64 ((2 : Nat) : Int))), (36, Pr.ex (i64 ((6 : Nat) : Int))), (37, Pr.ex (i64 ((2 : Nat) : Int))), (38, Pr.ex (i64 ((6 : Nat) : Int))), (39, Pr.ex (Value.pointer (some ⟨b1, 6, none⟩))), (40, Pr.ex (w32 ((s.rounds k).g))), (41, Pr.ex (i64 ((2 : Nat) : Int))), (42, Pr.ex (Value.pointer (some ⟨b1, 2, none⟩))), (43, Pr.ex (w32 (((s.rounds k).c : UInt32) + ((s.rounds k).g : UInt32)))), (44, Pr.ex (w32 (((s.rounds k).g : UInt32) ^^^ (((s.rounds k).c : UInt32) + ((s.rounds k).g : UInt32) : UInt32)))), (45, Pr.ex (i64 ((2 : Nat) : Int))), (46, Pr.ex (Value.pointer (some ⟨b3, 2, none⟩))), (47, Pr.ex (i64 ((13 : Nat) : Int))), (48, Pr.ex (w32 (rot (((s.rounds k).g : UInt32) ^^^ (((s.rounds k).c : UInt32) + ((s.rounds k).g : UInt32) : UInt32)) 13))), (49, Pr.ex (Value.pointer (some ⟨b1, 6, none⟩)))] 15 mixed hN_25 hD_25 (by kernel_rfl) (by kernel_rfl) (by kernel_rfl) ?_ ?_
    · refine Asks.cons ?_ (Asks.cons ?_ (Asks.cons ?_ (Asks.cons ?_ (Asks.cons ?_ (Asks.cons ?_ (Asks.cons ?_ (Asks.cons ?_ (Asks.cons ?_ (Asks.cons ?_ (Asks.cons ?_ (Asks.cons ?_ (Asks.cons ?_ (Asks.cons ?_ (Asks.cons ?_ (Asks.zero _)))))))))))))))
      · refine Ask.plain rfl rfl ?_
        intro aq wq hNq hO hR hT
        replace hR := (Ext.drew _).trans hR
        exact does_move (V := i64 ((2 : Nat) : Int)) ((hO 5 rfl).trans s5_25) ⟨Ext.refl _, rfl⟩
      · refine Ask.plain rfl rfl ?_
        intro aq wq hNq hO hR hT
        replace hR := (Ext.drew _).trans hR
        exact does_add (a := ((2 : Nat) : Int)) (b := ((4 : Nat) : Int)) (r := ((6 : Nat) : Int)) (hT 35 rfl rfl) rfl (by decide) (by decide) (by decide) ⟨Ext.refl _, rfl⟩
      · refine Ask.plain rfl rfl ?_
        intro aq wq hNq hO hR hT
        replace hR := (Ext.drew _).trans hR
        exact does_move (V := i64 ((2 : Nat) : Int)) ((hO 5 rfl).trans s5_25) ⟨Ext.refl _, rfl⟩
      · refine Ask.plain rfl rfl ?_
        intro aq wq hNq hO hR hT
        replace hR := (Ext.drew _).trans hR
        exact does_add (a := ((2 : Nat) : Int)) (b := ((4 : Nat) : Int)) (r := ((6 : Nat) : Int)) (hT 37 rfl rfl) rfl (by decide) (by decide) (by decide) ⟨Ext.refl _, rfl⟩
      · refine Ask.plain rfl rfl ?_
        intro aq wq hNq hO hR hT
        replace hR := (Ext.drew _).trans hR
        exact does_indexArr (k := .i64) (i := 6) (o' := 6) arr_54 ((hO 1 rfl).trans s1_25) (hT 38 rfl rfl) (by decide) (by decide) rfl ⟨Ext.refl _, rfl⟩
      · refine Ask.plain rfl rfl ?_
        intro aq wq hNq hO hR hT
        replace hR := (Ext.drew _).trans hR
        exact does_loadD1 (o := 6) (V := w32 ((s.rounds k).g)) (hT 39 rfl rfl) (hbb1_26.ext' hR) rfl one_22 ⟨Ext.refl _, rfl⟩
      · refine Ask.plain rfl rfl ?_
        intro aq wq hNq hO hR hT
        replace hR := (Ext.drew _).trans hR
        exact does_move (V := i64 ((2 : Nat) : Int)) ((hO 5 rfl).trans s5_25) ⟨Ext.refl _, rfl⟩
      · refine Ask.plain rfl rfl ?_
        intro aq wq hNq hO hR hT
        replace hR := (Ext.drew _).trans hR
        exact does_indexArr (k := .i64) (i := 2) (o' := 2) arr_54 ((hO 1 rfl).trans s1_25) (hT 41 rfl rfl) (by decide) (by decide) rfl ⟨Ext.refl _, rfl⟩
      · refine Ask.plain rfl rfl ?_
        intro aq wq hNq hO hR hT
        replace hR := (Ext.drew _).trans hR
        exact does_loadD1 (o := 2) (V := w32 (((s.rounds k).c : UInt32) + ((s.rounds k).g : UInt32))) (hT 42 rfl rfl) (hbb1_26.ext' hR) rfl one_22 ⟨Ext.refl _, rfl⟩
      · refine Ask.plain rfl rfl ?_
        intro aq wq hNq hO hR hT
        replace hR := (Ext.drew _).trans hR
        exact does_xor32 (a := ((s.rounds k).g : UInt32)) (b := (((s.rounds k).c : UInt32) + ((s.rounds k).g : UInt32) : UInt32)) (hT 40 rfl rfl) (hT 43 rfl rfl) ⟨Ext.refl _, rfl⟩
      · refine Ask.plain rfl rfl ?_
        intro aq wq hNq hO hR hT
        replace hR := (Ext.drew _).trans hR
        exact does_move (V := i64 ((2 : Nat) : Int)) ((hO 5 rfl).trans s5_25) ⟨Ext.refl _, rfl⟩
      · refine Ask.plain rfl rfl ?_
        intro aq wq hNq hO hR hT
        replace hR := (Ext.drew _).trans hR
        exact does_indexArr (k := .i64) (i := 2) (o' := 2) arr_91 ((hO 3 rfl).trans s3_25) (hT 45 rfl rfl) (by decide) (by decide) rfl ⟨Ext.refl _, rfl⟩
      · refine Ask.plain rfl rfl ?_
        intro aq wq hNq hO hR hT
        replace hR := (Ext.drew _).trans hR
        exact does_loadD1 (o := 2) (V := i64 ((13 : Nat) : Int)) (hT 46 rfl rfl) (hbb3_26.ext' hR) rfl one_3 ⟨Ext.refl _, rfl⟩
      · refine Ask.plain rfl rfl ?_
        intro aq wq hNq hO hR hT
        replace hR := (Ext.drew _).trans hR
        exact does_ret (vs := #[w32 (((s.rounds k).g : UInt32) ^^^ (((s.rounds k).c : UInt32) + ((s.rounds k).g : UInt32) : UInt32)), i64 ((13 : Nat) : Int)]) call_59 (args2 (hT 44 rfl rfl) (hT 47 rfl rfl)) rfl ((turnR (((s.rounds k).g : UInt32) ^^^ (((s.rounds k).c : UInt32) + ((s.rounds k).g : UInt32) : UInt32)) (13) wq (by decide)).mono fun v w2 h => ⟨h.2, h.1⟩)
      · refine Ask.plain rfl rfl ?_
        intro aq wq hNq hO hR hT
        replace hR := (Ext.drew _).trans hR
        exact does_indexArr (k := .i64) (i := 6) (o' := 6) arr_54 ((hO 1 rfl).trans s1_25) (hT 36 rfl rfl) (by decide) (by decide) rfl ⟨Ext.refl _, rfl⟩
    intro a27 wd27 hN_27 hD_27 hO hR hA hU
    obtain ⟨_, _, _, _, _, _, _, _, _, _, _, _, _, t48, t49, _⟩ := hA
    have hE_27 := hE_26.trans hR
    have s1_27 := (hO 1 rfl).trans s1_25
    have s2_27 := (hO 2 rfl).trans s2_25
    have s3_27 := (hO 3 rfl).trans s3_25
    have s4_27 := (hO 4 rfl).trans s4_25
    have s5_27 := (hO 5 rfl).trans s5_25
    have hbb1_27 := hbb1_26.ext' hR
    have hbb2_27 := hbb2_26.ext' hR
    have hbb3_27 := hbb3_26.ext' hR
    have s48_27 : get a27 48 = w32 (rot (((s.rounds k).g : UInt32) ^^^ (((s.rounds k).c : UInt32) + ((s.rounds k).g : UInt32) : UInt32)) 13) := t48
    have s49_27 : get a27 49 = Value.pointer (some ⟨b1, 6, none⟩) := t49
    clear hE_26 hN_25 hD_25 s1_25 s2_25 s3_25 s4_25 s5_25 s33_25 s34_25 hbb1_26 hbb2_26 hbb3_26
    refine tail_none rfl rfl (does_storeD (o := 6) (n := 1) (cs' := [w32 ((((s.rounds k).a : UInt32) + ((2654435769 : UInt32) * (UInt32.ofNat (k + 1) : UInt32) : UInt32) : UInt32) + ((s.rounds k).e : UInt32)), w32 (((s.rounds k).b : UInt32) + ((s.rounds k).f : UInt32)), w32 (((s.rounds k).c : UInt32) + ((s.rounds k).g : UInt32)), w32 ((s.rounds k).d), w32 (rot (((s.rounds k).e : UInt32) ^^^ ((((s.rounds k).a : UInt32) + ((2654435769 : UInt32) * (UInt32.ofNat (k + 1) : UInt32) : UInt32) : UInt32) + ((s.rounds k).e : UInt32) : UInt32)) 7), w32 (rot (((s.rounds k).f : UInt32) ^^^ (((s.rounds k).b : UInt32) + ((s.rounds k).f : UInt32) : UInt32)) 9), w32 (rot (((s.rounds k).g : UInt32) ^^^ (((s.rounds k).c : UInt32) + ((s.rounds k).g : UInt32) : UInt32)) 13), w32 ((s.rounds k).h)]) (V := w32 (rot (((s.rounds k).g : UInt32) ^^^ (((s.rounds k).c : UInt32) + ((s.rounds k).g : UInt32) : UInt32)) 13)) s49_27 s48_27 hbb1_27 (Nat.le_of_ble_eq_true rfl) rfl siz_22 rfl rfl (fun wd28 hX hz hbb1_28 => ?_))
    have hE_28 := hE_27.since hX (fun k e => e ▸ fr_b1)
    have hbb2_28 := hbb2_27.ext hX ne_b1_b2.symm
    have hbb3_28 := hbb3_27.ext hX ne_b1_b3.symm
    clear hX hz hE_27 hbb1_27 hbb2_27 hbb3_27
    refine tail_nil ?_
    refine region_lex [] [(23, Pr.ex (i64 ((2 : Nat) : Int))), (24, Pr.ex (i64 ((3 : Nat) : Int)))] 2 hN_27 hD_27 (by kernel_rfl) (by kernel_rfl) ?_ ?_
    · refine Asks.cons ?_ (Asks.cons ?_ (Asks.zero _))
      · refine Ask.plain rfl rfl ?_
        intro aq wq hNq hO hR hT
        exact does_move (V := i64 ((2 : Nat) : Int)) ((hO 5 rfl).trans s5_27) ⟨Ext.refl _, rfl⟩
      · refine Ask.plain rfl rfl ?_
        intro aq wq hNq hO hR hT
        exact does_add (a := ((2 : Nat) : Int)) (b := ((1 : Nat) : Int)) (r := ((3 : Nat) : Int)) (hT 23 rfl rfl) rfl (by decide) (by decide) (by decide) ⟨Ext.refl _, rfl⟩
    intro a29 wd29 hN_29 hD_29 hO hR hA hU
    obtain ⟨_, t24, _⟩ := hA
    have hE_29 := hE_28.trans hR
    have s1_29 := (hO 1 rfl).trans s1_27
    have s2_29 := (hO 2 rfl).trans s2_27
    have s3_29 := (hO 3 rfl).trans s3_27
    have s4_29 := (hO 4 rfl).trans s4_27
    have s5_29 := (hO 5 rfl).trans s5_27
    have hbb1_29 := hbb1_28.ext' hR
    have hbb2_29 := hbb2_28.ext' hR
    have hbb3_29 := hbb3_28.ext' hR
    have s24_29 : get a29 24 = i64 ((3 : Nat) : Int) := t24
    clear hE_28 hN_27 hD_27 s1_27 s2_27 s3_27 s4_27 s5_27 s48_27 s49_27 hbb1_28 hbb2_28 hbb3_28
    refine tail_put rfl rfl hN_29 hD_29 (by decide) (does_assign (V := i64 ((3 : Nat) : Int)) s24_29 (fun a30 hN_30 hD_30 hv hO => ?_))
    have s5_30 := hv
    have s1_30 := (hO 1 rfl).trans s1_29
    have s2_30 := (hO 2 rfl).trans s2_29
    have s3_30 := (hO 3 rfl).trans s3_29
    have s4_30 := (hO 4 rfl).trans s4_29
    clear hO hv hN_29 hD_29 s1_29 s2_29 s3_29 s4_29 s24_29 s5_29
    refine tail_nil ?_
    refine round_step ?_
    refine wp_seq ?_
    refine wp_seq ?_
    refine region_lex [] [(21, Pr.ex (i64 ((3 : Nat) : Int))), (22, Pr.ex (Value.bool (true)))] 2 hN_30 hD_30 (by kernel_rfl) (by kernel_rfl) ?_ ?_
    · refine Asks.cons ?_ (Asks.cons ?_ (Asks.zero _))
      · refine Ask.plain rfl rfl ?_
        intro aq wq hNq hO hR hT
        exact does_move (V := i64 ((3 : Nat) : Int)) ((hO 5 rfl).trans s5_30) ⟨Ext.refl _, rfl⟩
      · refine Ask.plain rfl rfl ?_
        intro aq wq hNq hO hR hT
        exact does_lss (a := ((3 : Nat) : Int)) (b := ((4 : Nat) : Int)) (hT 21 rfl rfl) rfl ⟨Ext.refl _, rfl⟩
    intro a31 wd31 hN_31 hD_31 hO hR hA hU
    obtain ⟨_, t22, _⟩ := hA
    have hE_31 := hE_29.trans hR
    have s1_31 := (hO 1 rfl).trans s1_30
    have s2_31 := (hO 2 rfl).trans s2_30
    have s3_31 := (hO 3 rfl).trans s3_30
    have s4_31 := (hO 4 rfl).trans s4_30
    have s5_31 := (hO 5 rfl).trans s5_30
    have hbb1_31 := hbb1_29.ext' hR
    have hbb2_31 := hbb2_29.ext' hR
    have hbb3_31 := hbb3_29.ext' hR
    have s22_31 : get a31 22 = Value.bool (true) := t22
    clear hE_29 hN_30 hD_30 s1_30 s2_30 s3_30 s4_30 s5_30 hbb1_29 hbb2_29 hbb3_29
    refine tail_nil ?_
    refine wp_ifT s22_31 ?_
    refine wp_skip ?_
    refine wp_seq ?_
    refine wp_block ?_
    refine wp_seq ?_
    refine region_any [] [(25, Pr.ex (i64 ((3 : Nat) : Int))), (26, Pr.ex (i64 ((3 : Nat) : Int))), (27, Pr.ex (Value.pointer (some ⟨b1, 3, none⟩))), (28, Pr.ex (w32 ((s.rounds k).d))), (29, Pr.ex (i64 ((3 : Nat) : Int))), (30, Pr.ex (i64 ((7 : Nat) : Int))), (31, Pr.ex (Value.pointer (some ⟨b1, 7, none⟩))), (32, Pr.ex (w32 ((s.rounds k).h))), (33, Pr.ex (w32 (((s.rounds k).d : UInt32) + ((s.rounds k).h : UInt32)))), (34, Pr.ex (Value.pointer (some ⟨b1, 3, none⟩)))] 10 mixed hN_31 hD_31 (by kernel_rfl) (by kernel_rfl) (by kernel_rfl) ?_ ?_
    · refine Asks.cons ?_ (Asks.cons ?_ (Asks.cons ?_ (Asks.cons ?_ (Asks.cons ?_ (Asks.cons ?_ (Asks.cons ?_ (Asks.cons ?_ (Asks.cons ?_ (Asks.cons ?_ (Asks.zero _))))))))))
      · refine Ask.plain rfl rfl ?_
        intro aq wq hNq hO hR hT
        replace hR := (Ext.drew _).trans hR
        exact does_move (V := i64 ((3 : Nat) : Int)) ((hO 5 rfl).trans s5_31) ⟨Ext.refl _, rfl⟩
      · refine Ask.plain rfl rfl ?_
        intro aq wq hNq hO hR hT
        replace hR := (Ext.drew _).trans hR
        exact does_move (V := i64 ((3 : Nat) : Int)) ((hO 5 rfl).trans s5_31) ⟨Ext.refl _, rfl⟩
      · refine Ask.plain rfl rfl ?_
        intro aq wq hNq hO hR hT
        replace hR := (Ext.drew _).trans hR
        exact does_indexArr (k := .i64) (i := 3) (o' := 3) arr_54 ((hO 1 rfl).trans s1_31) (hT 26 rfl rfl) (by decide) (by decide) rfl ⟨Ext.refl _, rfl⟩
      · refine Ask.plain rfl rfl ?_
        intro aq wq hNq hO hR hT
        replace hR := (Ext.drew _).trans hR
        exact does_loadD1 (o := 3) (V := w32 ((s.rounds k).d)) (hT 27 rfl rfl) (hbb1_31.ext' hR) rfl one_22 ⟨Ext.refl _, rfl⟩
      · refine Ask.plain rfl rfl ?_
        intro aq wq hNq hO hR hT
        replace hR := (Ext.drew _).trans hR
        exact does_move (V := i64 ((3 : Nat) : Int)) ((hO 5 rfl).trans s5_31) ⟨Ext.refl _, rfl⟩
      · refine Ask.plain rfl rfl ?_
        intro aq wq hNq hO hR hT
        replace hR := (Ext.drew _).trans hR
        exact does_add (a := ((3 : Nat) : Int)) (b := ((4 : Nat) : Int)) (r := ((7 : Nat) : Int)) (hT 29 rfl rfl) rfl (by decide) (by decide) (by decide) ⟨Ext.refl _, rfl⟩
      · refine Ask.plain rfl rfl ?_
        intro aq wq hNq hO hR hT
        replace hR := (Ext.drew _).trans hR
        exact does_indexArr (k := .i64) (i := 7) (o' := 7) arr_54 ((hO 1 rfl).trans s1_31) (hT 30 rfl rfl) (by decide) (by decide) rfl ⟨Ext.refl _, rfl⟩
      · refine Ask.plain rfl rfl ?_
        intro aq wq hNq hO hR hT
        replace hR := (Ext.drew _).trans hR
        exact does_loadD1 (o := 7) (V := w32 ((s.rounds k).h)) (hT 31 rfl rfl) (hbb1_31.ext' hR) rfl one_22 ⟨Ext.refl _, rfl⟩
      · refine Ask.plain rfl rfl ?_
        intro aq wq hNq hO hR hT
        replace hR := (Ext.drew _).trans hR
        exact does_add32 (a := ((s.rounds k).d : UInt32)) (b := ((s.rounds k).h : UInt32)) (hT 28 rfl rfl) (hT 32 rfl rfl) ⟨Ext.refl _, rfl⟩
      · refine Ask.plain rfl rfl ?_
        intro aq wq hNq hO hR hT
        replace hR := (Ext.drew _).trans hR
        exact does_indexArr (k := .i64) (i := 3) (o' := 3) arr_54 ((hO 1 rfl).trans s1_31) (hT 25 rfl rfl) (by decide) (by decide) rfl ⟨Ext.refl _, rfl⟩
    intro a32 wd32 hN_32 hD_32 hO hR hA hU
    obtain ⟨_, _, _, _, _, _, _, _, t33, t34, _⟩ := hA
    have hE_32 := hE_31.trans hR
    have s1_32 := (hO 1 rfl).trans s1_31
    have s2_32 := (hO 2 rfl).trans s2_31
    have s3_32 := (hO 3 rfl).trans s3_31
    have s4_32 := (hO 4 rfl).trans s4_31
    have s5_32 := (hO 5 rfl).trans s5_31
    have hbb1_32 := hbb1_31.ext' hR
    have hbb2_32 := hbb2_31.ext' hR
    have hbb3_32 := hbb3_31.ext' hR
    have s33_32 : get a32 33 = w32 (((s.rounds k).d : UInt32) + ((s.rounds k).h : UInt32)) := t33
    have s34_32 : get a32 34 = Value.pointer (some ⟨b1, 3, none⟩) := t34
    clear hE_31 hN_31 hD_31 s1_31 s2_31 s3_31 s4_31 s5_31 s22_31 hbb1_31 hbb2_31 hbb3_31
    refine tail_none rfl rfl (does_storeD (o := 3) (n := 1) (cs' := [w32 ((((s.rounds k).a : UInt32) + ((2654435769 : UInt32) * (UInt32.ofNat (k + 1) : UInt32) : UInt32) : UInt32) + ((s.rounds k).e : UInt32)), w32 (((s.rounds k).b : UInt32) + ((s.rounds k).f : UInt32)), w32 (((s.rounds k).c : UInt32) + ((s.rounds k).g : UInt32)), w32 (((s.rounds k).d : UInt32) + ((s.rounds k).h : UInt32)), w32 (rot (((s.rounds k).e : UInt32) ^^^ ((((s.rounds k).a : UInt32) + ((2654435769 : UInt32) * (UInt32.ofNat (k + 1) : UInt32) : UInt32) : UInt32) + ((s.rounds k).e : UInt32) : UInt32)) 7), w32 (rot (((s.rounds k).f : UInt32) ^^^ (((s.rounds k).b : UInt32) + ((s.rounds k).f : UInt32) : UInt32)) 9), w32 (rot (((s.rounds k).g : UInt32) ^^^ (((s.rounds k).c : UInt32) + ((s.rounds k).g : UInt32) : UInt32)) 13), w32 ((s.rounds k).h)]) (V := w32 (((s.rounds k).d : UInt32) + ((s.rounds k).h : UInt32))) s34_32 s33_32 hbb1_32 (Nat.le_of_ble_eq_true rfl) rfl siz_22 rfl rfl (fun wd33 hX hz hbb1_33 => ?_))
    have hE_33 := hE_32.since hX (fun k e => e ▸ fr_b1)
    have hbb2_33 := hbb2_32.ext hX ne_b1_b2.symm
    have hbb3_33 := hbb3_32.ext hX ne_b1_b3.symm
    clear hX hz hE_32 hbb1_32 hbb2_32 hbb3_32
    refine tail_nil ?_
    refine region_any [] [(35, Pr.ex (i64 ((3 : Nat) : Int))), (36, Pr.ex (i64 ((7 : Nat) : Int))), (37, Pr.ex (i64 ((3 : Nat) : Int))), (38, Pr.ex (i64 ((7 : Nat) : Int))), (39, Pr.ex (Value.pointer (some ⟨b1, 7, none⟩))), (40, Pr.ex (w32 ((s.rounds k).h))), (41, Pr.ex (i64 ((3 : Nat) : Int))), (42, Pr.ex (Value.pointer (some ⟨b1, 3, none⟩))), (43, Pr.ex (w32 (((s.rounds k).d : UInt32) + ((s.rounds k).h : UInt32)))), (44, Pr.ex (w32 (((s.rounds k).h : UInt32) ^^^ (((s.rounds k).d : UInt32) + ((s.rounds k).h : UInt32) : UInt32)))), (45, Pr.ex (i64 ((3 : Nat) : Int))), (46, Pr.ex (Value.pointer (some ⟨b3, 3, none⟩))), (47, Pr.ex (i64 ((18 : Nat) : Int))), (48, Pr.ex (w32 (rot (((s.rounds k).h : UInt32) ^^^ (((s.rounds k).d : UInt32) + ((s.rounds k).h : UInt32) : UInt32)) 18))), (49, Pr.ex (Value.pointer (some ⟨b1, 7, none⟩)))] 15 mixed hN_32 hD_32 (by kernel_rfl) (by kernel_rfl) (by kernel_rfl) ?_ ?_
    · refine Asks.cons ?_ (Asks.cons ?_ (Asks.cons ?_ (Asks.cons ?_ (Asks.cons ?_ (Asks.cons ?_ (Asks.cons ?_ (Asks.cons ?_ (Asks.cons ?_ (Asks.cons ?_ (Asks.cons ?_ (Asks.cons ?_ (Asks.cons ?_ (Asks.cons ?_ (Asks.cons ?_ (Asks.zero _)))))))))))))))
      · refine Ask.plain rfl rfl ?_
        intro aq wq hNq hO hR hT
        replace hR := (Ext.drew _).trans hR
        exact does_move (V := i64 ((3 : Nat) : Int)) ((hO 5 rfl).trans s5_32) ⟨Ext.refl _, rfl⟩
      · refine Ask.plain rfl rfl ?_
        intro aq wq hNq hO hR hT
        replace hR := (Ext.drew _).trans hR
        exact does_add (a := ((3 : Nat) : Int)) (b := ((4 : Nat) : Int)) (r := ((7 : Nat) : Int)) (hT 35 rfl rfl) rfl (by decide) (by decide) (by decide) ⟨Ext.refl _, rfl⟩
      · refine Ask.plain rfl rfl ?_
        intro aq wq hNq hO hR hT
        replace hR := (Ext.drew _).trans hR
        exact does_move (V := i64 ((3 : Nat) : Int)) ((hO 5 rfl).trans s5_32) ⟨Ext.refl _, rfl⟩
      · refine Ask.plain rfl rfl ?_
        intro aq wq hNq hO hR hT
        replace hR := (Ext.drew _).trans hR
        exact does_add (a := ((3 : Nat) : Int)) (b := ((4 : Nat) : Int)) (r := ((7 : Nat) : Int)) (hT 37 rfl rfl) rfl (by decide) (by decide) (by decide) ⟨Ext.refl _, rfl⟩
      · refine Ask.plain rfl rfl ?_
        intro aq wq hNq hO hR hT
        replace hR := (Ext.drew _).trans hR
        exact does_indexArr (k := .i64) (i := 7) (o' := 7) arr_54 ((hO 1 rfl).trans s1_32) (hT 38 rfl rfl) (by decide) (by decide) rfl ⟨Ext.refl _, rfl⟩
      · refine Ask.plain rfl rfl ?_
        intro aq wq hNq hO hR hT
        replace hR := (Ext.drew _).trans hR
        exact does_loadD1 (o := 7) (V := w32 ((s.rounds k).h)) (hT 39 rfl rfl) (hbb1_33.ext' hR) rfl one_22 ⟨Ext.refl _, rfl⟩
      · refine Ask.plain rfl rfl ?_
        intro aq wq hNq hO hR hT
        replace hR := (Ext.drew _).trans hR
        exact does_move (V := i64 ((3 : Nat) : Int)) ((hO 5 rfl).trans s5_32) ⟨Ext.refl _, rfl⟩
      · refine Ask.plain rfl rfl ?_
        intro aq wq hNq hO hR hT
        replace hR := (Ext.drew _).trans hR
        exact does_indexArr (k := .i64) (i := 3) (o' := 3) arr_54 ((hO 1 rfl).trans s1_32) (hT 41 rfl rfl) (by decide) (by decide) rfl ⟨Ext.refl _, rfl⟩
      · refine Ask.plain rfl rfl ?_
        intro aq wq hNq hO hR hT
        replace hR := (Ext.drew _).trans hR
        exact does_loadD1 (o := 3) (V := w32 (((s.rounds k).d : UInt32) + ((s.rounds k).h : UInt32))) (hT 42 rfl rfl) (hbb1_33.ext' hR) rfl one_22 ⟨Ext.refl _, rfl⟩
      · refine Ask.plain rfl rfl ?_
        intro aq wq hNq hO hR hT
        replace hR := (Ext.drew _).trans hR
        exact does_xor32 (a := ((s.rounds k).h : UInt32)) (b := (((s.rounds k).d : UInt32) + ((s.rounds k).h : UInt32) : UInt32)) (hT 40 rfl rfl) (hT 43 rfl rfl) ⟨Ext.refl _, rfl⟩
      · refine Ask.plain rfl rfl ?_
        intro aq wq hNq hO hR hT
        replace hR := (Ext.drew _).trans hR
        exact does_move (V := i64 ((3 : Nat) : Int)) ((hO 5 rfl).trans s5_32) ⟨Ext.refl _, rfl⟩
      · refine Ask.plain rfl rfl ?_
        intro aq wq hNq hO hR hT
        replace hR := (Ext.drew _).trans hR
        exact does_indexArr (k := .i64) (i := 3) (o' := 3) arr_91 ((hO 3 rfl).trans s3_32) (hT 45 rfl rfl) (by decide) (by decide) rfl ⟨Ext.refl _, rfl⟩
      · refine Ask.plain rfl rfl ?_
        intro aq wq hNq hO hR hT
        replace hR := (Ext.drew _).trans hR
        exact does_loadD1 (o := 3) (V := i64 ((18 : Nat) : Int)) (hT 46 rfl rfl) (hbb3_33.ext' hR) rfl one_3 ⟨Ext.refl _, rfl⟩
      · refine Ask.plain rfl rfl ?_
        intro aq wq hNq hO hR hT
        replace hR := (Ext.drew _).trans hR
        exact does_ret (vs := #[w32 (((s.rounds k).h : UInt32) ^^^ (((s.rounds k).d : UInt32) + ((s.rounds k).h : UInt32) : UInt32)), i64 ((18 : Nat) : Int)]) call_59 (args2 (hT 44 rfl rfl) (hT 47 rfl rfl)) rfl ((turnR (((s.rounds k).h : UInt32) ^^^ (((s.rounds k).d : UInt32) + ((s.rounds k).h : UInt32) : UInt32)) (18) wq (by decide)).mono fun v w2 h => ⟨h.2, h.1⟩)
      · refine Ask.plain rfl rfl ?_
        intro aq wq hNq hO hR hT
        replace hR := (Ext.drew _).trans hR
        exact does_indexArr (k := .i64) (i := 7) (o' := 7) arr_54 ((hO 1 rfl).trans s1_32) (hT 36 rfl rfl) (by decide) (by decide) rfl ⟨Ext.refl _, rfl⟩
    intro a34 wd34 hN_34 hD_34 hO hR hA hU
    obtain ⟨_, _, _, _, _, _, _, _, _, _, _, _, _, t48, t49, _⟩ := hA
    have hE_34 := hE_33.trans hR
    have s1_34 := (hO 1 rfl).trans s1_32
    have s2_34 := (hO 2 rfl).trans s2_32
    have s3_34 := (hO 3 rfl).trans s3_32
    have s4_34 := (hO 4 rfl).trans s4_32
    have s5_34 := (hO 5 rfl).trans s5_32
    have hbb1_34 := hbb1_33.ext' hR
    have hbb2_34 := hbb2_33.ext' hR
    have hbb3_34 := hbb3_33.ext' hR
    have s48_34 : get a34 48 = w32 (rot (((s.rounds k).h : UInt32) ^^^ (((s.rounds k).d : UInt32) + ((s.rounds k).h : UInt32) : UInt32)) 18) := t48
    have s49_34 : get a34 49 = Value.pointer (some ⟨b1, 7, none⟩) := t49
    clear hE_33 hN_32 hD_32 s1_32 s2_32 s3_32 s4_32 s5_32 s33_32 s34_32 hbb1_33 hbb2_33 hbb3_33
    refine tail_none rfl rfl (does_storeD (o := 7) (n := 1) (cs' := [w32 ((((s.rounds k).a : UInt32) + ((2654435769 : UInt32) * (UInt32.ofNat (k + 1) : UInt32) : UInt32) : UInt32) + ((s.rounds k).e : UInt32)), w32 (((s.rounds k).b : UInt32) + ((s.rounds k).f : UInt32)), w32 (((s.rounds k).c : UInt32) + ((s.rounds k).g : UInt32)), w32 (((s.rounds k).d : UInt32) + ((s.rounds k).h : UInt32)), w32 (rot (((s.rounds k).e : UInt32) ^^^ ((((s.rounds k).a : UInt32) + ((2654435769 : UInt32) * (UInt32.ofNat (k + 1) : UInt32) : UInt32) : UInt32) + ((s.rounds k).e : UInt32) : UInt32)) 7), w32 (rot (((s.rounds k).f : UInt32) ^^^ (((s.rounds k).b : UInt32) + ((s.rounds k).f : UInt32) : UInt32)) 9), w32 (rot (((s.rounds k).g : UInt32) ^^^ (((s.rounds k).c : UInt32) + ((s.rounds k).g : UInt32) : UInt32)) 13), w32 (rot (((s.rounds k).h : UInt32) ^^^ (((s.rounds k).d : UInt32) + ((s.rounds k).h : UInt32) : UInt32)) 18)]) (V := w32 (rot (((s.rounds k).h : UInt32) ^^^ (((s.rounds k).d : UInt32) + ((s.rounds k).h : UInt32) : UInt32)) 18)) s49_34 s48_34 hbb1_34 (Nat.le_of_ble_eq_true rfl) rfl siz_22 rfl rfl (fun wd35 hX hz hbb1_35 => ?_))
    have hE_35 := hE_34.since hX (fun k e => e ▸ fr_b1)
    have hbb2_35 := hbb2_34.ext hX ne_b1_b2.symm
    have hbb3_35 := hbb3_34.ext hX ne_b1_b3.symm
    clear hX hz hE_34 hbb1_34 hbb2_34 hbb3_34
    refine tail_nil ?_
    refine region_lex [] [(23, Pr.ex (i64 ((3 : Nat) : Int))), (24, Pr.ex (i64 ((4 : Nat) : Int)))] 2 hN_34 hD_34 (by kernel_rfl) (by kernel_rfl) ?_ ?_
    · refine Asks.cons ?_ (Asks.cons ?_ (Asks.zero _))
      · refine Ask.plain rfl rfl ?_
        intro aq wq hNq hO hR hT
        exact does_move (V := i64 ((3 : Nat) : Int)) ((hO 5 rfl).trans s5_34) ⟨Ext.refl _, rfl⟩
      · refine Ask.plain rfl rfl ?_
        intro aq wq hNq hO hR hT
        exact does_add (a := ((3 : Nat) : Int)) (b := ((1 : Nat) : Int)) (r := ((4 : Nat) : Int)) (hT 23 rfl rfl) rfl (by decide) (by decide) (by decide) ⟨Ext.refl _, rfl⟩
    intro a36 wd36 hN_36 hD_36 hO hR hA hU
    obtain ⟨_, t24, _⟩ := hA
    have hE_36 := hE_35.trans hR
    have s1_36 := (hO 1 rfl).trans s1_34
    have s2_36 := (hO 2 rfl).trans s2_34
    have s3_36 := (hO 3 rfl).trans s3_34
    have s4_36 := (hO 4 rfl).trans s4_34
    have s5_36 := (hO 5 rfl).trans s5_34
    have hbb1_36 := hbb1_35.ext' hR
    have hbb2_36 := hbb2_35.ext' hR
    have hbb3_36 := hbb3_35.ext' hR
    have s24_36 : get a36 24 = i64 ((4 : Nat) : Int) := t24
    clear hE_35 hN_34 hD_34 s1_34 s2_34 s3_34 s4_34 s5_34 s48_34 s49_34 hbb1_35 hbb2_35 hbb3_35
    refine tail_put rfl rfl hN_36 hD_36 (by decide) (does_assign (V := i64 ((4 : Nat) : Int)) s24_36 (fun a37 hN_37 hD_37 hv hO => ?_))
    have s5_37 := hv
    have s1_37 := (hO 1 rfl).trans s1_36
    have s2_37 := (hO 2 rfl).trans s2_36
    have s3_37 := (hO 3 rfl).trans s3_36
    have s4_37 := (hO 4 rfl).trans s4_36
    clear hO hv hN_36 hD_36 s1_36 s2_36 s3_36 s4_36 s24_36 s5_36
    refine tail_nil ?_
    refine round_step ?_
    refine wp_seq ?_
    refine wp_seq ?_
    refine region_lex [] [(21, Pr.ex (i64 ((4 : Nat) : Int))), (22, Pr.ex (Value.bool (false)))] 2 hN_37 hD_37 (by kernel_rfl) (by kernel_rfl) ?_ ?_
    · refine Asks.cons ?_ (Asks.cons ?_ (Asks.zero _))
      · refine Ask.plain rfl rfl ?_
        intro aq wq hNq hO hR hT
        exact does_move (V := i64 ((4 : Nat) : Int)) ((hO 5 rfl).trans s5_37) ⟨Ext.refl _, rfl⟩
      · refine Ask.plain rfl rfl ?_
        intro aq wq hNq hO hR hT
        exact does_lss (a := ((4 : Nat) : Int)) (b := ((4 : Nat) : Int)) (hT 21 rfl rfl) rfl ⟨Ext.refl _, rfl⟩
    intro a38 wd38 hN_38 hD_38 hO hR hA hU
    obtain ⟨_, t22, _⟩ := hA
    have hE_38 := hE_36.trans hR
    have s1_38 := (hO 1 rfl).trans s1_37
    have s2_38 := (hO 2 rfl).trans s2_37
    have s3_38 := (hO 3 rfl).trans s3_37
    have s4_38 := (hO 4 rfl).trans s4_37
    have s5_38 := (hO 5 rfl).trans s5_37
    have hbb1_38 := hbb1_36.ext' hR
    have hbb2_38 := hbb2_36.ext' hR
    have hbb3_38 := hbb3_36.ext' hR
    have s22_38 : get a38 22 = Value.bool (false) := t22
    clear hE_36 hN_37 hD_37 s1_37 s2_37 s3_37 s4_37 s5_37 hbb1_36 hbb2_36 hbb3_36
    refine tail_nil ?_
    refine wp_ifF s22_38 ?_
    refine wp_exit ?_
    refine wp_seq ?_
    refine region_lex [6] [(6, Pr.box' wd38.heap.size 54 [w32 (0), w32 (0), w32 (0), w32 (0), w32 (0), w32 (0), w32 (0), w32 (0)])] 1 hN_38 hD_38 (by kernel_rfl) (by kernel_rfl) ?_ ?_
    · refine Asks.cons ?_ (Asks.zero _)
      · refine Ask.fresh rfl rfl ?_
        intro aq wq hNq hO hR hT
        exact does_alloc zero_54 (fun b w2 he hlo hb => ⟨he, ⟨b, rfl, Nat.le_trans hR.size' hlo, hb⟩, ⟨b, rfl, hlo, hb.lt⟩⟩)
    intro a39 wd39 hN_39 hD_39 hO hR hA hU
    obtain ⟨t6, _⟩ := hA
    have hE_39 := hE_38.trans hR
    have s1_39 := (hO 1 rfl).trans s1_38
    have s2_39 := (hO 2 rfl).trans s2_38
    have s3_39 := (hO 3 rfl).trans s3_38
    have s4_39 := (hO 4 rfl).trans s4_38
    have hbb1_39 := hbb1_38.ext' hR
    have hbb2_39 := hbb2_38.ext' hR
    have hbb3_39 := hbb3_38.ext' hR
    obtain ⟨b6, s6_39, lo_b6, hbb6_39⟩ := t6
    have ne_b1_b6 : b1 ≠ b6 := fun e => Nat.lt_irrefl _ (Nat.lt_of_lt_of_le hbb1_38.lt (e ▸ lo_b6))
    have ne_b2_b6 : b2 ≠ b6 := fun e => Nat.lt_irrefl _ (Nat.lt_of_lt_of_le hbb2_38.lt (e ▸ lo_b6))
    have ne_b3_b6 : b3 ≠ b6 := fun e => Nat.lt_irrefl _ (Nat.lt_of_lt_of_le hbb3_38.lt (e ▸ lo_b6))
    have fr_b6 : w0.heap.size ≤ b6 := Nat.le_trans hE_38.size' lo_b6
    clear hE_38 hN_38 hD_38 s1_38 s2_38 s3_38 s4_38 s5_38 s22_38 hbb1_38 hbb2_38 hbb3_38
    refine tail_nil ?_
    refine wp_seq ?_
    refine wp_seq ?_
    refine region_lex [] [(7, Pr.ex (i64 ((0 : Nat) : Int)))] 1 hN_39 hD_39 (by kernel_rfl) (by kernel_rfl) ?_ ?_
    · refine Asks.cons ?_ (Asks.zero _)
      · refine Ask.plain rfl rfl ?_
        intro aq wq hNq hO hR hT
        exact does_assign (V := i64 ((0 : Nat) : Int)) rfl ⟨Ext.refl _, rfl⟩
    intro a40 wd40 hN_40 hD_40 hO hR hA hU
    obtain ⟨t7, _⟩ := hA
    have hE_40 := hE_39.trans hR
    have s1_40 := (hO 1 rfl).trans s1_39
    have s2_40 := (hO 2 rfl).trans s2_39
    have s3_40 := (hO 3 rfl).trans s3_39
    have s4_40 := (hO 4 rfl).trans s4_39
    have s6_40 := (hO 6 rfl).trans s6_39
    have hbb1_40 := hbb1_39.ext' hR
    have hbb2_40 := hbb2_39.ext' hR
    have hbb3_40 := hbb3_39.ext' hR
    have hbb6_40 := hbb6_39.ext' hR
    have s7_40 : get a40 7 = i64 ((0 : Nat) : Int) := t7
    clear hE_39 hN_39 hD_39 s1_39 s2_39 s3_39 s4_39 s6_39 hbb1_39 hbb2_39 hbb3_39 hbb6_39
    refine tail_nil ?_
    refine wp_block ?_
    refine loop_rounds 9 ?_
    refine round_step ?_
    refine wp_seq ?_
    refine wp_seq ?_
    refine region_lex [] [(50, Pr.ex (i64 ((0 : Nat) : Int))), (51, Pr.ex (Value.bool (true)))] 2 hN_40 hD_40 (by kernel_rfl) (by kernel_rfl) ?_ ?_
    · refine Asks.cons ?_ (Asks.cons ?_ (Asks.zero _))
      · refine Ask.plain rfl rfl ?_
        intro aq wq hNq hO hR hT
        exact does_move (V := i64 ((0 : Nat) : Int)) ((hO 7 rfl).trans s7_40) ⟨Ext.refl _, rfl⟩
      · refine Ask.plain rfl rfl ?_
        intro aq wq hNq hO hR hT
        exact does_lss (a := ((0 : Nat) : Int)) (b := ((8 : Nat) : Int)) (hT 50 rfl rfl) rfl ⟨Ext.refl _, rfl⟩
    intro a41 wd41 hN_41 hD_41 hO hR hA hU
    obtain ⟨_, t51, _⟩ := hA
    have hE_41 := hE_40.trans hR
    have s1_41 := (hO 1 rfl).trans s1_40
    have s2_41 := (hO 2 rfl).trans s2_40
    have s3_41 := (hO 3 rfl).trans s3_40
    have s4_41 := (hO 4 rfl).trans s4_40
    have s6_41 := (hO 6 rfl).trans s6_40
    have s7_41 := (hO 7 rfl).trans s7_40
    have hbb1_41 := hbb1_40.ext' hR
    have hbb2_41 := hbb2_40.ext' hR
    have hbb3_41 := hbb3_40.ext' hR
    have hbb6_41 := hbb6_40.ext' hR
    have s51_41 : get a41 51 = Value.bool (true) := t51
    clear hE_40 hN_40 hD_40 s1_40 s2_40 s3_40 s4_40 s6_40 s7_40 hbb1_40 hbb2_40 hbb3_40 hbb6_40
    refine tail_nil ?_
    refine wp_ifT s51_41 ?_
    refine wp_skip ?_
    refine wp_seq ?_
    refine wp_block ?_
    refine region_lex [] [(54, Pr.ex (i64 ((0 : Nat) : Int))), (55, Pr.ex (i64 ((0 : Nat) : Int))), (56, Pr.ex (i64 ((3 : Nat) : Int))), (57, Pr.ex (i64 ((3 : Nat) : Int))), (58, Pr.ex (Value.pointer (some ⟨b1, 3, none⟩))), (59, Pr.ex (w32 (((s.rounds k).d : UInt32) + ((s.rounds k).h : UInt32)))), (60, Pr.ex (Value.pointer (some ⟨b6, 0, none⟩)))] 7 hN_41 hD_41 (by kernel_rfl) (by kernel_rfl) ?_ ?_
    · refine Asks.cons ?_ (Asks.cons ?_ (Asks.cons ?_ (Asks.cons ?_ (Asks.cons ?_ (Asks.cons ?_ (Asks.cons ?_ (Asks.zero _)))))))
      · refine Ask.plain rfl rfl ?_
        intro aq wq hNq hO hR hT
        exact does_move (V := i64 ((0 : Nat) : Int)) ((hO 7 rfl).trans s7_41) ⟨Ext.refl _, rfl⟩
      · refine Ask.plain rfl rfl ?_
        intro aq wq hNq hO hR hT
        exact does_move (V := i64 ((0 : Nat) : Int)) ((hO 7 rfl).trans s7_41) ⟨Ext.refl _, rfl⟩
      · refine Ask.plain rfl rfl ?_
        intro aq wq hNq hO hR hT
        exact does_add (a := ((0 : Nat) : Int)) (b := ((3 : Nat) : Int)) (r := ((3 : Nat) : Int)) (hT 55 rfl rfl) rfl (by decide) (by decide) (by decide) ⟨Ext.refl _, rfl⟩
      · refine Ask.plain rfl rfl ?_
        intro aq wq hNq hO hR hT
        exact does_rem (k := .i64) (a := ((3 : Nat) : Int)) (b := ((8 : Nat) : Int)) (r := ((3 : Nat) : Int)) (hT 56 rfl rfl) rfl (by decide) (by decide) (by decide) ⟨Ext.refl _, rfl⟩
      · refine Ask.plain rfl rfl ?_
        intro aq wq hNq hO hR hT
        exact does_indexArr (k := .i64) (i := 3) (o' := 3) arr_54 ((hO 1 rfl).trans s1_41) (hT 57 rfl rfl) (by decide) (by decide) rfl ⟨Ext.refl _, rfl⟩
      · refine Ask.plain rfl rfl ?_
        intro aq wq hNq hO hR hT
        exact does_loadD1 (o := 3) (V := w32 (((s.rounds k).d : UInt32) + ((s.rounds k).h : UInt32))) (hT 58 rfl rfl) (hbb1_41.ext' hR) rfl one_22 ⟨Ext.refl _, rfl⟩
      · refine Ask.plain rfl rfl ?_
        intro aq wq hNq hO hR hT
        exact does_indexArr (k := .i64) (i := 0) (o' := 0) arr_54 ((hO 6 rfl).trans s6_41) (hT 54 rfl rfl) (by decide) (by decide) rfl ⟨Ext.refl _, rfl⟩
    intro a42 wd42 hN_42 hD_42 hO hR hA hU
    obtain ⟨_, _, _, _, _, t59, t60, _⟩ := hA
    have hE_42 := hE_41.trans hR
    have s1_42 := (hO 1 rfl).trans s1_41
    have s2_42 := (hO 2 rfl).trans s2_41
    have s3_42 := (hO 3 rfl).trans s3_41
    have s4_42 := (hO 4 rfl).trans s4_41
    have s6_42 := (hO 6 rfl).trans s6_41
    have s7_42 := (hO 7 rfl).trans s7_41
    have hbb1_42 := hbb1_41.ext' hR
    have hbb2_42 := hbb2_41.ext' hR
    have hbb3_42 := hbb3_41.ext' hR
    have hbb6_42 := hbb6_41.ext' hR
    have s59_42 : get a42 59 = w32 (((s.rounds k).d : UInt32) + ((s.rounds k).h : UInt32)) := t59
    have s60_42 : get a42 60 = Value.pointer (some ⟨b6, 0, none⟩) := t60
    clear hE_41 hN_41 hD_41 s1_41 s2_41 s3_41 s4_41 s6_41 s7_41 s51_41 hbb1_41 hbb2_41 hbb3_41 hbb6_41
    refine tail_none rfl rfl (does_storeD (o := 0) (n := 1) (cs' := [w32 (((s.rounds k).d : UInt32) + ((s.rounds k).h : UInt32)), w32 (0), w32 (0), w32 (0), w32 (0), w32 (0), w32 (0), w32 (0)]) (V := w32 (((s.rounds k).d : UInt32) + ((s.rounds k).h : UInt32))) s60_42 s59_42 hbb6_42 (Nat.le_of_ble_eq_true rfl) rfl siz_22 rfl rfl (fun wd43 hX hz hbb6_43 => ?_))
    have hE_43 := hE_42.since hX (fun k e => e ▸ fr_b6)
    have hbb1_43 := hbb1_42.ext hX ne_b1_b6
    have hbb2_43 := hbb2_42.ext hX ne_b2_b6
    have hbb3_43 := hbb3_42.ext hX ne_b3_b6
    clear hX hz hE_42 hbb1_42 hbb2_42 hbb3_42 hbb6_42
    refine tail_nil ?_
    refine region_lex [] [(52, Pr.ex (i64 ((0 : Nat) : Int))), (53, Pr.ex (i64 ((1 : Nat) : Int)))] 2 hN_42 hD_42 (by kernel_rfl) (by kernel_rfl) ?_ ?_
    · refine Asks.cons ?_ (Asks.cons ?_ (Asks.zero _))
      · refine Ask.plain rfl rfl ?_
        intro aq wq hNq hO hR hT
        exact does_move (V := i64 ((0 : Nat) : Int)) ((hO 7 rfl).trans s7_42) ⟨Ext.refl _, rfl⟩
      · refine Ask.plain rfl rfl ?_
        intro aq wq hNq hO hR hT
        exact does_add (a := ((0 : Nat) : Int)) (b := ((1 : Nat) : Int)) (r := ((1 : Nat) : Int)) (hT 52 rfl rfl) rfl (by decide) (by decide) (by decide) ⟨Ext.refl _, rfl⟩
    intro a44 wd44 hN_44 hD_44 hO hR hA hU
    obtain ⟨_, t53, _⟩ := hA
    have hE_44 := hE_43.trans hR
    have s1_44 := (hO 1 rfl).trans s1_42
    have s2_44 := (hO 2 rfl).trans s2_42
    have s3_44 := (hO 3 rfl).trans s3_42
    have s4_44 := (hO 4 rfl).trans s4_42
    have s6_44 := (hO 6 rfl).trans s6_42
    have s7_44 := (hO 7 rfl).trans s7_42
    have hbb1_44 := hbb1_43.ext' hR
    have hbb2_44 := hbb2_43.ext' hR
    have hbb3_44 := hbb3_43.ext' hR
    have hbb6_44 := hbb6_43.ext' hR
    have s53_44 : get a44 53 = i64 ((1 : Nat) : Int) := t53
    clear hE_43 hN_42 hD_42 s1_42 s2_42 s3_42 s4_42 s6_42 s7_42 s59_42 s60_42 hbb1_43 hbb2_43 hbb3_43 hbb6_43
    refine tail_put rfl rfl hN_44 hD_44 (by decide) (does_assign (V := i64 ((1 : Nat) : Int)) s53_44 (fun a45 hN_45 hD_45 hv hO => ?_))
    have s7_45 := hv
    have s1_45 := (hO 1 rfl).trans s1_44
    have s2_45 := (hO 2 rfl).trans s2_44
    have s3_45 := (hO 3 rfl).trans s3_44
    have s4_45 := (hO 4 rfl).trans s4_44
    have s6_45 := (hO 6 rfl).trans s6_44
    clear hO hv hN_44 hD_44 s1_44 s2_44 s3_44 s4_44 s6_44 s53_44 s7_44
    refine tail_nil ?_
    refine round_step ?_
    refine wp_seq ?_
    refine wp_seq ?_
    refine region_lex [] [(50, Pr.ex (i64 ((1 : Nat) : Int))), (51, Pr.ex (Value.bool (true)))] 2 hN_45 hD_45 (by kernel_rfl) (by kernel_rfl) ?_ ?_
    · refine Asks.cons ?_ (Asks.cons ?_ (Asks.zero _))
      · refine Ask.plain rfl rfl ?_
        intro aq wq hNq hO hR hT
        exact does_move (V := i64 ((1 : Nat) : Int)) ((hO 7 rfl).trans s7_45) ⟨Ext.refl _, rfl⟩
      · refine Ask.plain rfl rfl ?_
        intro aq wq hNq hO hR hT
        exact does_lss (a := ((1 : Nat) : Int)) (b := ((8 : Nat) : Int)) (hT 50 rfl rfl) rfl ⟨Ext.refl _, rfl⟩
    intro a46 wd46 hN_46 hD_46 hO hR hA hU
    obtain ⟨_, t51, _⟩ := hA
    have hE_46 := hE_44.trans hR
    have s1_46 := (hO 1 rfl).trans s1_45
    have s2_46 := (hO 2 rfl).trans s2_45
    have s3_46 := (hO 3 rfl).trans s3_45
    have s4_46 := (hO 4 rfl).trans s4_45
    have s6_46 := (hO 6 rfl).trans s6_45
    have s7_46 := (hO 7 rfl).trans s7_45
    have hbb1_46 := hbb1_44.ext' hR
    have hbb2_46 := hbb2_44.ext' hR
    have hbb3_46 := hbb3_44.ext' hR
    have hbb6_46 := hbb6_44.ext' hR
    have s51_46 : get a46 51 = Value.bool (true) := t51
    clear hE_44 hN_45 hD_45 s1_45 s2_45 s3_45 s4_45 s6_45 s7_45 hbb1_44 hbb2_44 hbb3_44 hbb6_44
    refine tail_nil ?_
    refine wp_ifT s51_46 ?_
    refine wp_skip ?_
    refine wp_seq ?_
    refine wp_block ?_
    refine region_lex [] [(54, Pr.ex (i64 ((1 : Nat) : Int))), (55, Pr.ex (i64 ((1 : Nat) : Int))), (56, Pr.ex (i64 ((4 : Nat) : Int))), (57, Pr.ex (i64 ((4 : Nat) : Int))), (58, Pr.ex (Value.pointer (some ⟨b1, 4, none⟩))), (59, Pr.ex (w32 (rot (((s.rounds k).e : UInt32) ^^^ ((((s.rounds k).a : UInt32) + ((2654435769 : UInt32) * (UInt32.ofNat (k + 1) : UInt32) : UInt32) : UInt32) + ((s.rounds k).e : UInt32) : UInt32)) 7))), (60, Pr.ex (Value.pointer (some ⟨b6, 1, none⟩)))] 7 hN_46 hD_46 (by kernel_rfl) (by kernel_rfl) ?_ ?_
    · refine Asks.cons ?_ (Asks.cons ?_ (Asks.cons ?_ (Asks.cons ?_ (Asks.cons ?_ (Asks.cons ?_ (Asks.cons ?_ (Asks.zero _)))))))
      · refine Ask.plain rfl rfl ?_
        intro aq wq hNq hO hR hT
        exact does_move (V := i64 ((1 : Nat) : Int)) ((hO 7 rfl).trans s7_46) ⟨Ext.refl _, rfl⟩
      · refine Ask.plain rfl rfl ?_
        intro aq wq hNq hO hR hT
        exact does_move (V := i64 ((1 : Nat) : Int)) ((hO 7 rfl).trans s7_46) ⟨Ext.refl _, rfl⟩
      · refine Ask.plain rfl rfl ?_
        intro aq wq hNq hO hR hT
        exact does_add (a := ((1 : Nat) : Int)) (b := ((3 : Nat) : Int)) (r := ((4 : Nat) : Int)) (hT 55 rfl rfl) rfl (by decide) (by decide) (by decide) ⟨Ext.refl _, rfl⟩
      · refine Ask.plain rfl rfl ?_
        intro aq wq hNq hO hR hT
        exact does_rem (k := .i64) (a := ((4 : Nat) : Int)) (b := ((8 : Nat) : Int)) (r := ((4 : Nat) : Int)) (hT 56 rfl rfl) rfl (by decide) (by decide) (by decide) ⟨Ext.refl _, rfl⟩
      · refine Ask.plain rfl rfl ?_
        intro aq wq hNq hO hR hT
        exact does_indexArr (k := .i64) (i := 4) (o' := 4) arr_54 ((hO 1 rfl).trans s1_46) (hT 57 rfl rfl) (by decide) (by decide) rfl ⟨Ext.refl _, rfl⟩
      · refine Ask.plain rfl rfl ?_
        intro aq wq hNq hO hR hT
        exact does_loadD1 (o := 4) (V := w32 (rot (((s.rounds k).e : UInt32) ^^^ ((((s.rounds k).a : UInt32) + ((2654435769 : UInt32) * (UInt32.ofNat (k + 1) : UInt32) : UInt32) : UInt32) + ((s.rounds k).e : UInt32) : UInt32)) 7)) (hT 58 rfl rfl) (hbb1_46.ext' hR) rfl one_22 ⟨Ext.refl _, rfl⟩
      · refine Ask.plain rfl rfl ?_
        intro aq wq hNq hO hR hT
        exact does_indexArr (k := .i64) (i := 1) (o' := 1) arr_54 ((hO 6 rfl).trans s6_46) (hT 54 rfl rfl) (by decide) (by decide) rfl ⟨Ext.refl _, rfl⟩
    intro a47 wd47 hN_47 hD_47 hO hR hA hU
    obtain ⟨_, _, _, _, _, t59, t60, _⟩ := hA
    have hE_47 := hE_46.trans hR
    have s1_47 := (hO 1 rfl).trans s1_46
    have s2_47 := (hO 2 rfl).trans s2_46
    have s3_47 := (hO 3 rfl).trans s3_46
    have s4_47 := (hO 4 rfl).trans s4_46
    have s6_47 := (hO 6 rfl).trans s6_46
    have s7_47 := (hO 7 rfl).trans s7_46
    have hbb1_47 := hbb1_46.ext' hR
    have hbb2_47 := hbb2_46.ext' hR
    have hbb3_47 := hbb3_46.ext' hR
    have hbb6_47 := hbb6_46.ext' hR
    have s59_47 : get a47 59 = w32 (rot (((s.rounds k).e : UInt32) ^^^ ((((s.rounds k).a : UInt32) + ((2654435769 : UInt32) * (UInt32.ofNat (k + 1) : UInt32) : UInt32) : UInt32) + ((s.rounds k).e : UInt32) : UInt32)) 7) := t59
    have s60_47 : get a47 60 = Value.pointer (some ⟨b6, 1, none⟩) := t60
    clear hE_46 hN_46 hD_46 s1_46 s2_46 s3_46 s4_46 s6_46 s7_46 s51_46 hbb1_46 hbb2_46 hbb3_46 hbb6_46
    refine tail_none rfl rfl (does_storeD (o := 1) (n := 1) (cs' := [w32 (((s.rounds k).d : UInt32) + ((s.rounds k).h : UInt32)), w32 (rot (((s.rounds k).e : UInt32) ^^^ ((((s.rounds k).a : UInt32) + ((2654435769 : UInt32) * (UInt32.ofNat (k + 1) : UInt32) : UInt32) : UInt32) + ((s.rounds k).e : UInt32) : UInt32)) 7), w32 (0), w32 (0), w32 (0), w32 (0), w32 (0), w32 (0)]) (V := w32 (rot (((s.rounds k).e : UInt32) ^^^ ((((s.rounds k).a : UInt32) + ((2654435769 : UInt32) * (UInt32.ofNat (k + 1) : UInt32) : UInt32) : UInt32) + ((s.rounds k).e : UInt32) : UInt32)) 7)) s60_47 s59_47 hbb6_47 (Nat.le_of_ble_eq_true rfl) rfl siz_22 rfl rfl (fun wd48 hX hz hbb6_48 => ?_))
    have hE_48 := hE_47.since hX (fun k e => e ▸ fr_b6)
    have hbb1_48 := hbb1_47.ext hX ne_b1_b6
    have hbb2_48 := hbb2_47.ext hX ne_b2_b6
    have hbb3_48 := hbb3_47.ext hX ne_b3_b6
    clear hX hz hE_47 hbb1_47 hbb2_47 hbb3_47 hbb6_47
    refine tail_nil ?_
    refine region_lex [] [(52, Pr.ex (i64 ((1 : Nat) : Int))), (53, Pr.ex (i64 ((2 : Nat) : Int)))] 2 hN_47 hD_47 (by kernel_rfl) (by kernel_rfl) ?_ ?_
    · refine Asks.cons ?_ (Asks.cons ?_ (Asks.zero _))
      · refine Ask.plain rfl rfl ?_
        intro aq wq hNq hO hR hT
        exact does_move (V := i64 ((1 : Nat) : Int)) ((hO 7 rfl).trans s7_47) ⟨Ext.refl _, rfl⟩
      · refine Ask.plain rfl rfl ?_
        intro aq wq hNq hO hR hT
        exact does_add (a := ((1 : Nat) : Int)) (b := ((1 : Nat) : Int)) (r := ((2 : Nat) : Int)) (hT 52 rfl rfl) rfl (by decide) (by decide) (by decide) ⟨Ext.refl _, rfl⟩
    intro a49 wd49 hN_49 hD_49 hO hR hA hU
    obtain ⟨_, t53, _⟩ := hA
    have hE_49 := hE_48.trans hR
    have s1_49 := (hO 1 rfl).trans s1_47
    have s2_49 := (hO 2 rfl).trans s2_47
    have s3_49 := (hO 3 rfl).trans s3_47
    have s4_49 := (hO 4 rfl).trans s4_47
    have s6_49 := (hO 6 rfl).trans s6_47
    have s7_49 := (hO 7 rfl).trans s7_47
    have hbb1_49 := hbb1_48.ext' hR
    have hbb2_49 := hbb2_48.ext' hR
    have hbb3_49 := hbb3_48.ext' hR
    have hbb6_49 := hbb6_48.ext' hR
    have s53_49 : get a49 53 = i64 ((2 : Nat) : Int) := t53
    clear hE_48 hN_47 hD_47 s1_47 s2_47 s3_47 s4_47 s6_47 s7_47 s59_47 s60_47 hbb1_48 hbb2_48 hbb3_48 hbb6_48
    refine tail_put rfl rfl hN_49 hD_49 (by decide) (does_assign (V := i64 ((2 : Nat) : Int)) s53_49 (fun a50 hN_50 hD_50 hv hO => ?_))
    have s7_50 := hv
    have s1_50 := (hO 1 rfl).trans s1_49
    have s2_50 := (hO 2 rfl).trans s2_49
    have s3_50 := (hO 3 rfl).trans s3_49
    have s4_50 := (hO 4 rfl).trans s4_49
    have s6_50 := (hO 6 rfl).trans s6_49
    clear hO hv hN_49 hD_49 s1_49 s2_49 s3_49 s4_49 s6_49 s53_49 s7_49
    refine tail_nil ?_
    refine round_step ?_
    refine wp_seq ?_
    refine wp_seq ?_
    refine region_lex [] [(50, Pr.ex (i64 ((2 : Nat) : Int))), (51, Pr.ex (Value.bool (true)))] 2 hN_50 hD_50 (by kernel_rfl) (by kernel_rfl) ?_ ?_
    · refine Asks.cons ?_ (Asks.cons ?_ (Asks.zero _))
      · refine Ask.plain rfl rfl ?_
        intro aq wq hNq hO hR hT
        exact does_move (V := i64 ((2 : Nat) : Int)) ((hO 7 rfl).trans s7_50) ⟨Ext.refl _, rfl⟩
      · refine Ask.plain rfl rfl ?_
        intro aq wq hNq hO hR hT
        exact does_lss (a := ((2 : Nat) : Int)) (b := ((8 : Nat) : Int)) (hT 50 rfl rfl) rfl ⟨Ext.refl _, rfl⟩
    intro a51 wd51 hN_51 hD_51 hO hR hA hU
    obtain ⟨_, t51, _⟩ := hA
    have hE_51 := hE_49.trans hR
    have s1_51 := (hO 1 rfl).trans s1_50
    have s2_51 := (hO 2 rfl).trans s2_50
    have s3_51 := (hO 3 rfl).trans s3_50
    have s4_51 := (hO 4 rfl).trans s4_50
    have s6_51 := (hO 6 rfl).trans s6_50
    have s7_51 := (hO 7 rfl).trans s7_50
    have hbb1_51 := hbb1_49.ext' hR
    have hbb2_51 := hbb2_49.ext' hR
    have hbb3_51 := hbb3_49.ext' hR
    have hbb6_51 := hbb6_49.ext' hR
    have s51_51 : get a51 51 = Value.bool (true) := t51
    clear hE_49 hN_50 hD_50 s1_50 s2_50 s3_50 s4_50 s6_50 s7_50 hbb1_49 hbb2_49 hbb3_49 hbb6_49
    refine tail_nil ?_
    refine wp_ifT s51_51 ?_
    refine wp_skip ?_
    refine wp_seq ?_
    refine wp_block ?_
    refine region_lex [] [(54, Pr.ex (i64 ((2 : Nat) : Int))), (55, Pr.ex (i64 ((2 : Nat) : Int))), (56, Pr.ex (i64 ((5 : Nat) : Int))), (57, Pr.ex (i64 ((5 : Nat) : Int))), (58, Pr.ex (Value.pointer (some ⟨b1, 5, none⟩))), (59, Pr.ex (w32 (rot (((s.rounds k).f : UInt32) ^^^ (((s.rounds k).b : UInt32) + ((s.rounds k).f : UInt32) : UInt32)) 9))), (60, Pr.ex (Value.pointer (some ⟨b6, 2, none⟩)))] 7 hN_51 hD_51 (by kernel_rfl) (by kernel_rfl) ?_ ?_
    · refine Asks.cons ?_ (Asks.cons ?_ (Asks.cons ?_ (Asks.cons ?_ (Asks.cons ?_ (Asks.cons ?_ (Asks.cons ?_ (Asks.zero _)))))))
      · refine Ask.plain rfl rfl ?_
        intro aq wq hNq hO hR hT
        exact does_move (V := i64 ((2 : Nat) : Int)) ((hO 7 rfl).trans s7_51) ⟨Ext.refl _, rfl⟩
      · refine Ask.plain rfl rfl ?_
        intro aq wq hNq hO hR hT
        exact does_move (V := i64 ((2 : Nat) : Int)) ((hO 7 rfl).trans s7_51) ⟨Ext.refl _, rfl⟩
      · refine Ask.plain rfl rfl ?_
        intro aq wq hNq hO hR hT
        exact does_add (a := ((2 : Nat) : Int)) (b := ((3 : Nat) : Int)) (r := ((5 : Nat) : Int)) (hT 55 rfl rfl) rfl (by decide) (by decide) (by decide) ⟨Ext.refl _, rfl⟩
      · refine Ask.plain rfl rfl ?_
        intro aq wq hNq hO hR hT
        exact does_rem (k := .i64) (a := ((5 : Nat) : Int)) (b := ((8 : Nat) : Int)) (r := ((5 : Nat) : Int)) (hT 56 rfl rfl) rfl (by decide) (by decide) (by decide) ⟨Ext.refl _, rfl⟩
      · refine Ask.plain rfl rfl ?_
        intro aq wq hNq hO hR hT
        exact does_indexArr (k := .i64) (i := 5) (o' := 5) arr_54 ((hO 1 rfl).trans s1_51) (hT 57 rfl rfl) (by decide) (by decide) rfl ⟨Ext.refl _, rfl⟩
      · refine Ask.plain rfl rfl ?_
        intro aq wq hNq hO hR hT
        exact does_loadD1 (o := 5) (V := w32 (rot (((s.rounds k).f : UInt32) ^^^ (((s.rounds k).b : UInt32) + ((s.rounds k).f : UInt32) : UInt32)) 9)) (hT 58 rfl rfl) (hbb1_51.ext' hR) rfl one_22 ⟨Ext.refl _, rfl⟩
      · refine Ask.plain rfl rfl ?_
        intro aq wq hNq hO hR hT
        exact does_indexArr (k := .i64) (i := 2) (o' := 2) arr_54 ((hO 6 rfl).trans s6_51) (hT 54 rfl rfl) (by decide) (by decide) rfl ⟨Ext.refl _, rfl⟩
    intro a52 wd52 hN_52 hD_52 hO hR hA hU
    obtain ⟨_, _, _, _, _, t59, t60, _⟩ := hA
    have hE_52 := hE_51.trans hR
    have s1_52 := (hO 1 rfl).trans s1_51
    have s2_52 := (hO 2 rfl).trans s2_51
    have s3_52 := (hO 3 rfl).trans s3_51
    have s4_52 := (hO 4 rfl).trans s4_51
    have s6_52 := (hO 6 rfl).trans s6_51
    have s7_52 := (hO 7 rfl).trans s7_51
    have hbb1_52 := hbb1_51.ext' hR
    have hbb2_52 := hbb2_51.ext' hR
    have hbb3_52 := hbb3_51.ext' hR
    have hbb6_52 := hbb6_51.ext' hR
    have s59_52 : get a52 59 = w32 (rot (((s.rounds k).f : UInt32) ^^^ (((s.rounds k).b : UInt32) + ((s.rounds k).f : UInt32) : UInt32)) 9) := t59
    have s60_52 : get a52 60 = Value.pointer (some ⟨b6, 2, none⟩) := t60
    clear hE_51 hN_51 hD_51 s1_51 s2_51 s3_51 s4_51 s6_51 s7_51 s51_51 hbb1_51 hbb2_51 hbb3_51 hbb6_51
    refine tail_none rfl rfl (does_storeD (o := 2) (n := 1) (cs' := [w32 (((s.rounds k).d : UInt32) + ((s.rounds k).h : UInt32)), w32 (rot (((s.rounds k).e : UInt32) ^^^ ((((s.rounds k).a : UInt32) + ((2654435769 : UInt32) * (UInt32.ofNat (k + 1) : UInt32) : UInt32) : UInt32) + ((s.rounds k).e : UInt32) : UInt32)) 7), w32 (rot (((s.rounds k).f : UInt32) ^^^ (((s.rounds k).b : UInt32) + ((s.rounds k).f : UInt32) : UInt32)) 9), w32 (0), w32 (0), w32 (0), w32 (0), w32 (0)]) (V := w32 (rot (((s.rounds k).f : UInt32) ^^^ (((s.rounds k).b : UInt32) + ((s.rounds k).f : UInt32) : UInt32)) 9)) s60_52 s59_52 hbb6_52 (Nat.le_of_ble_eq_true rfl) rfl siz_22 rfl rfl (fun wd53 hX hz hbb6_53 => ?_))
    have hE_53 := hE_52.since hX (fun k e => e ▸ fr_b6)
    have hbb1_53 := hbb1_52.ext hX ne_b1_b6
    have hbb2_53 := hbb2_52.ext hX ne_b2_b6
    have hbb3_53 := hbb3_52.ext hX ne_b3_b6
    clear hX hz hE_52 hbb1_52 hbb2_52 hbb3_52 hbb6_52
    refine tail_nil ?_
    refine region_lex [] [(52, Pr.ex (i64 ((2 : Nat) : Int))), (53, Pr.ex (i64 ((3 : Nat) : Int)))] 2 hN_52 hD_52 (by kernel_rfl) (by kernel_rfl) ?_ ?_
    · refine Asks.cons ?_ (Asks.cons ?_ (Asks.zero _))
      · refine Ask.plain rfl rfl ?_
        intro aq wq hNq hO hR hT
        exact does_move (V := i64 ((2 : Nat) : Int)) ((hO 7 rfl).trans s7_52) ⟨Ext.refl _, rfl⟩
      · refine Ask.plain rfl rfl ?_
        intro aq wq hNq hO hR hT
        exact does_add (a := ((2 : Nat) : Int)) (b := ((1 : Nat) : Int)) (r := ((3 : Nat) : Int)) (hT 52 rfl rfl) rfl (by decide) (by decide) (by decide) ⟨Ext.refl _, rfl⟩
    intro a54 wd54 hN_54 hD_54 hO hR hA hU
    obtain ⟨_, t53, _⟩ := hA
    have hE_54 := hE_53.trans hR
    have s1_54 := (hO 1 rfl).trans s1_52
    have s2_54 := (hO 2 rfl).trans s2_52
    have s3_54 := (hO 3 rfl).trans s3_52
    have s4_54 := (hO 4 rfl).trans s4_52
    have s6_54 := (hO 6 rfl).trans s6_52
    have s7_54 := (hO 7 rfl).trans s7_52
    have hbb1_54 := hbb1_53.ext' hR
    have hbb2_54 := hbb2_53.ext' hR
    have hbb3_54 := hbb3_53.ext' hR
    have hbb6_54 := hbb6_53.ext' hR
    have s53_54 : get a54 53 = i64 ((3 : Nat) : Int) := t53
    clear hE_53 hN_52 hD_52 s1_52 s2_52 s3_52 s4_52 s6_52 s7_52 s59_52 s60_52 hbb1_53 hbb2_53 hbb3_53 hbb6_53
    refine tail_put rfl rfl hN_54 hD_54 (by decide) (does_assign (V := i64 ((3 : Nat) : Int)) s53_54 (fun a55 hN_55 hD_55 hv hO => ?_))
    have s7_55 := hv
    have s1_55 := (hO 1 rfl).trans s1_54
    have s2_55 := (hO 2 rfl).trans s2_54
    have s3_55 := (hO 3 rfl).trans s3_54
    have s4_55 := (hO 4 rfl).trans s4_54
    have s6_55 := (hO 6 rfl).trans s6_54
    clear hO hv hN_54 hD_54 s1_54 s2_54 s3_54 s4_54 s6_54 s53_54 s7_54
    refine tail_nil ?_
    refine round_step ?_
    refine wp_seq ?_
    refine wp_seq ?_
    refine region_lex [] [(50, Pr.ex (i64 ((3 : Nat) : Int))), (51, Pr.ex (Value.bool (true)))] 2 hN_55 hD_55 (by kernel_rfl) (by kernel_rfl) ?_ ?_
    · refine Asks.cons ?_ (Asks.cons ?_ (Asks.zero _))
      · refine Ask.plain rfl rfl ?_
        intro aq wq hNq hO hR hT
        exact does_move (V := i64 ((3 : Nat) : Int)) ((hO 7 rfl).trans s7_55) ⟨Ext.refl _, rfl⟩
      · refine Ask.plain rfl rfl ?_
        intro aq wq hNq hO hR hT
        exact does_lss (a := ((3 : Nat) : Int)) (b := ((8 : Nat) : Int)) (hT 50 rfl rfl) rfl ⟨Ext.refl _, rfl⟩
    intro a56 wd56 hN_56 hD_56 hO hR hA hU
    obtain ⟨_, t51, _⟩ := hA
    have hE_56 := hE_54.trans hR
    have s1_56 := (hO 1 rfl).trans s1_55
    have s2_56 := (hO 2 rfl).trans s2_55
    have s3_56 := (hO 3 rfl).trans s3_55
    have s4_56 := (hO 4 rfl).trans s4_55
    have s6_56 := (hO 6 rfl).trans s6_55
    have s7_56 := (hO 7 rfl).trans s7_55
    have hbb1_56 := hbb1_54.ext' hR
    have hbb2_56 := hbb2_54.ext' hR
    have hbb3_56 := hbb3_54.ext' hR
    have hbb6_56 := hbb6_54.ext' hR
    have s51_56 : get a56 51 = Value.bool (true) := t51
    clear hE_54 hN_55 hD_55 s1_55 s2_55 s3_55 s4_55 s6_55 s7_55 hbb1_54 hbb2_54 hbb3_54 hbb6_54
    refine tail_nil ?_
    refine wp_ifT s51_56 ?_
    refine wp_skip ?_
    refine wp_seq ?_
    refine wp_block ?_
    refine region_lex [] [(54, Pr.ex (i64 ((3 : Nat) : Int))), (55, Pr.ex (i64 ((3 : Nat) : Int))), (56, Pr.ex (i64 ((6 : Nat) : Int))), (57, Pr.ex (i64 ((6 : Nat) : Int))), (58, Pr.ex (Value.pointer (some ⟨b1, 6, none⟩))), (59, Pr.ex (w32 (rot (((s.rounds k).g : UInt32) ^^^ (((s.rounds k).c : UInt32) + ((s.rounds k).g : UInt32) : UInt32)) 13))), (60, Pr.ex (Value.pointer (some ⟨b6, 3, none⟩)))] 7 hN_56 hD_56 (by kernel_rfl) (by kernel_rfl) ?_ ?_
    · refine Asks.cons ?_ (Asks.cons ?_ (Asks.cons ?_ (Asks.cons ?_ (Asks.cons ?_ (Asks.cons ?_ (Asks.cons ?_ (Asks.zero _)))))))
      · refine Ask.plain rfl rfl ?_
        intro aq wq hNq hO hR hT
        exact does_move (V := i64 ((3 : Nat) : Int)) ((hO 7 rfl).trans s7_56) ⟨Ext.refl _, rfl⟩
      · refine Ask.plain rfl rfl ?_
        intro aq wq hNq hO hR hT
        exact does_move (V := i64 ((3 : Nat) : Int)) ((hO 7 rfl).trans s7_56) ⟨Ext.refl _, rfl⟩
      · refine Ask.plain rfl rfl ?_
        intro aq wq hNq hO hR hT
        exact does_add (a := ((3 : Nat) : Int)) (b := ((3 : Nat) : Int)) (r := ((6 : Nat) : Int)) (hT 55 rfl rfl) rfl (by decide) (by decide) (by decide) ⟨Ext.refl _, rfl⟩
      · refine Ask.plain rfl rfl ?_
        intro aq wq hNq hO hR hT
        exact does_rem (k := .i64) (a := ((6 : Nat) : Int)) (b := ((8 : Nat) : Int)) (r := ((6 : Nat) : Int)) (hT 56 rfl rfl) rfl (by decide) (by decide) (by decide) ⟨Ext.refl _, rfl⟩
      · refine Ask.plain rfl rfl ?_
        intro aq wq hNq hO hR hT
        exact does_indexArr (k := .i64) (i := 6) (o' := 6) arr_54 ((hO 1 rfl).trans s1_56) (hT 57 rfl rfl) (by decide) (by decide) rfl ⟨Ext.refl _, rfl⟩
      · refine Ask.plain rfl rfl ?_
        intro aq wq hNq hO hR hT
        exact does_loadD1 (o := 6) (V := w32 (rot (((s.rounds k).g : UInt32) ^^^ (((s.rounds k).c : UInt32) + ((s.rounds k).g : UInt32) : UInt32)) 13)) (hT 58 rfl rfl) (hbb1_56.ext' hR) rfl one_22 ⟨Ext.refl _, rfl⟩
      · refine Ask.plain rfl rfl ?_
        intro aq wq hNq hO hR hT
        exact does_indexArr (k := .i64) (i := 3) (o' := 3) arr_54 ((hO 6 rfl).trans s6_56) (hT 54 rfl rfl) (by decide) (by decide) rfl ⟨Ext.refl _, rfl⟩
    intro a57 wd57 hN_57 hD_57 hO hR hA hU
    obtain ⟨_, _, _, _, _, t59, t60, _⟩ := hA
    have hE_57 := hE_56.trans hR
    have s1_57 := (hO 1 rfl).trans s1_56
    have s2_57 := (hO 2 rfl).trans s2_56
    have s3_57 := (hO 3 rfl).trans s3_56
    have s4_57 := (hO 4 rfl).trans s4_56
    have s6_57 := (hO 6 rfl).trans s6_56
    have s7_57 := (hO 7 rfl).trans s7_56
    have hbb1_57 := hbb1_56.ext' hR
    have hbb2_57 := hbb2_56.ext' hR
    have hbb3_57 := hbb3_56.ext' hR
    have hbb6_57 := hbb6_56.ext' hR
    have s59_57 : get a57 59 = w32 (rot (((s.rounds k).g : UInt32) ^^^ (((s.rounds k).c : UInt32) + ((s.rounds k).g : UInt32) : UInt32)) 13) := t59
    have s60_57 : get a57 60 = Value.pointer (some ⟨b6, 3, none⟩) := t60
    clear hE_56 hN_56 hD_56 s1_56 s2_56 s3_56 s4_56 s6_56 s7_56 s51_56 hbb1_56 hbb2_56 hbb3_56 hbb6_56
    refine tail_none rfl rfl (does_storeD (o := 3) (n := 1) (cs' := [w32 (((s.rounds k).d : UInt32) + ((s.rounds k).h : UInt32)), w32 (rot (((s.rounds k).e : UInt32) ^^^ ((((s.rounds k).a : UInt32) + ((2654435769 : UInt32) * (UInt32.ofNat (k + 1) : UInt32) : UInt32) : UInt32) + ((s.rounds k).e : UInt32) : UInt32)) 7), w32 (rot (((s.rounds k).f : UInt32) ^^^ (((s.rounds k).b : UInt32) + ((s.rounds k).f : UInt32) : UInt32)) 9), w32 (rot (((s.rounds k).g : UInt32) ^^^ (((s.rounds k).c : UInt32) + ((s.rounds k).g : UInt32) : UInt32)) 13), w32 (0), w32 (0), w32 (0), w32 (0)]) (V := w32 (rot (((s.rounds k).g : UInt32) ^^^ (((s.rounds k).c : UInt32) + ((s.rounds k).g : UInt32) : UInt32)) 13)) s60_57 s59_57 hbb6_57 (Nat.le_of_ble_eq_true rfl) rfl siz_22 rfl rfl (fun wd58 hX hz hbb6_58 => ?_))
    have hE_58 := hE_57.since hX (fun k e => e ▸ fr_b6)
    have hbb1_58 := hbb1_57.ext hX ne_b1_b6
    have hbb2_58 := hbb2_57.ext hX ne_b2_b6
    have hbb3_58 := hbb3_57.ext hX ne_b3_b6
    clear hX hz hE_57 hbb1_57 hbb2_57 hbb3_57 hbb6_57
    refine tail_nil ?_
    refine region_lex [] [(52, Pr.ex (i64 ((3 : Nat) : Int))), (53, Pr.ex (i64 ((4 : Nat) : Int)))] 2 hN_57 hD_57 (by kernel_rfl) (by kernel_rfl) ?_ ?_
    · refine Asks.cons ?_ (Asks.cons ?_ (Asks.zero _))
      · refine Ask.plain rfl rfl ?_
        intro aq wq hNq hO hR hT
        exact does_move (V := i64 ((3 : Nat) : Int)) ((hO 7 rfl).trans s7_57) ⟨Ext.refl _, rfl⟩
      · refine Ask.plain rfl rfl ?_
        intro aq wq hNq hO hR hT
        exact does_add (a := ((3 : Nat) : Int)) (b := ((1 : Nat) : Int)) (r := ((4 : Nat) : Int)) (hT 52 rfl rfl) rfl (by decide) (by decide) (by decide) ⟨Ext.refl _, rfl⟩
    intro a59 wd59 hN_59 hD_59 hO hR hA hU
    obtain ⟨_, t53, _⟩ := hA
    have hE_59 := hE_58.trans hR
    have s1_59 := (hO 1 rfl).trans s1_57
    have s2_59 := (hO 2 rfl).trans s2_57
    have s3_59 := (hO 3 rfl).trans s3_57
    have s4_59 := (hO 4 rfl).trans s4_57
    have s6_59 := (hO 6 rfl).trans s6_57
    have s7_59 := (hO 7 rfl).trans s7_57
    have hbb1_59 := hbb1_58.ext' hR
    have hbb2_59 := hbb2_58.ext' hR
    have hbb3_59 := hbb3_58.ext' hR
    have hbb6_59 := hbb6_58.ext' hR
    have s53_59 : get a59 53 = i64 ((4 : Nat) : Int) := t53
    clear hE_58 hN_57 hD_57 s1_57 s2_57 s3_57 s4_57 s6_57 s7_57 s59_57 s60_57 hbb1_58 hbb2_58 hbb3_58 hbb6_58
    refine tail_put rfl rfl hN_59 hD_59 (by decide) (does_assign (V := i64 ((4 : Nat) : Int)) s53_59 (fun a60 hN_60 hD_60 hv hO => ?_))
    have s7_60 := hv
    have s1_60 := (hO 1 rfl).trans s1_59
    have s2_60 := (hO 2 rfl).trans s2_59
    have s3_60 := (hO 3 rfl).trans s3_59
    have s4_60 := (hO 4 rfl).trans s4_59
    have s6_60 := (hO 6 rfl).trans s6_59
    clear hO hv hN_59 hD_59 s1_59 s2_59 s3_59 s4_59 s6_59 s53_59 s7_59
    refine tail_nil ?_
    refine round_step ?_
    refine wp_seq ?_
    refine wp_seq ?_
    refine region_lex [] [(50, Pr.ex (i64 ((4 : Nat) : Int))), (51, Pr.ex (Value.bool (true)))] 2 hN_60 hD_60 (by kernel_rfl) (by kernel_rfl) ?_ ?_
    · refine Asks.cons ?_ (Asks.cons ?_ (Asks.zero _))
      · refine Ask.plain rfl rfl ?_
        intro aq wq hNq hO hR hT
        exact does_move (V := i64 ((4 : Nat) : Int)) ((hO 7 rfl).trans s7_60) ⟨Ext.refl _, rfl⟩
      · refine Ask.plain rfl rfl ?_
        intro aq wq hNq hO hR hT
        exact does_lss (a := ((4 : Nat) : Int)) (b := ((8 : Nat) : Int)) (hT 50 rfl rfl) rfl ⟨Ext.refl _, rfl⟩
    intro a61 wd61 hN_61 hD_61 hO hR hA hU
    obtain ⟨_, t51, _⟩ := hA
    have hE_61 := hE_59.trans hR
    have s1_61 := (hO 1 rfl).trans s1_60
    have s2_61 := (hO 2 rfl).trans s2_60
    have s3_61 := (hO 3 rfl).trans s3_60
    have s4_61 := (hO 4 rfl).trans s4_60
    have s6_61 := (hO 6 rfl).trans s6_60
    have s7_61 := (hO 7 rfl).trans s7_60
    have hbb1_61 := hbb1_59.ext' hR
    have hbb2_61 := hbb2_59.ext' hR
    have hbb3_61 := hbb3_59.ext' hR
    have hbb6_61 := hbb6_59.ext' hR
    have s51_61 : get a61 51 = Value.bool (true) := t51
    clear hE_59 hN_60 hD_60 s1_60 s2_60 s3_60 s4_60 s6_60 s7_60 hbb1_59 hbb2_59 hbb3_59 hbb6_59
    refine tail_nil ?_
    refine wp_ifT s51_61 ?_
    refine wp_skip ?_
    refine wp_seq ?_
    refine wp_block ?_
    refine region_lex [] [(54, Pr.ex (i64 ((4 : Nat) : Int))), (55, Pr.ex (i64 ((4 : Nat) : Int))), (56, Pr.ex (i64 ((7 : Nat) : Int))), (57, Pr.ex (i64 ((7 : Nat) : Int))), (58, Pr.ex (Value.pointer (some ⟨b1, 7, none⟩))), (59, Pr.ex (w32 (rot (((s.rounds k).h : UInt32) ^^^ (((s.rounds k).d : UInt32) + ((s.rounds k).h : UInt32) : UInt32)) 18))), (60, Pr.ex (Value.pointer (some ⟨b6, 4, none⟩)))] 7 hN_61 hD_61 (by kernel_rfl) (by kernel_rfl) ?_ ?_
    · refine Asks.cons ?_ (Asks.cons ?_ (Asks.cons ?_ (Asks.cons ?_ (Asks.cons ?_ (Asks.cons ?_ (Asks.cons ?_ (Asks.zero _)))))))
      · refine Ask.plain rfl rfl ?_
        intro aq wq hNq hO hR hT
        exact does_move (V := i64 ((4 : Nat) : Int)) ((hO 7 rfl).trans s7_61) ⟨Ext.refl _, rfl⟩
      · refine Ask.plain rfl rfl ?_
        intro aq wq hNq hO hR hT
        exact does_move (V := i64 ((4 : Nat) : Int)) ((hO 7 rfl).trans s7_61) ⟨Ext.refl _, rfl⟩
      · refine Ask.plain rfl rfl ?_
        intro aq wq hNq hO hR hT
        exact does_add (a := ((4 : Nat) : Int)) (b := ((3 : Nat) : Int)) (r := ((7 : Nat) : Int)) (hT 55 rfl rfl) rfl (by decide) (by decide) (by decide) ⟨Ext.refl _, rfl⟩
      · refine Ask.plain rfl rfl ?_
        intro aq wq hNq hO hR hT
        exact does_rem (k := .i64) (a := ((7 : Nat) : Int)) (b := ((8 : Nat) : Int)) (r := ((7 : Nat) : Int)) (hT 56 rfl rfl) rfl (by decide) (by decide) (by decide) ⟨Ext.refl _, rfl⟩
      · refine Ask.plain rfl rfl ?_
        intro aq wq hNq hO hR hT
        exact does_indexArr (k := .i64) (i := 7) (o' := 7) arr_54 ((hO 1 rfl).trans s1_61) (hT 57 rfl rfl) (by decide) (by decide) rfl ⟨Ext.refl _, rfl⟩
      · refine Ask.plain rfl rfl ?_
        intro aq wq hNq hO hR hT
        exact does_loadD1 (o := 7) (V := w32 (rot (((s.rounds k).h : UInt32) ^^^ (((s.rounds k).d : UInt32) + ((s.rounds k).h : UInt32) : UInt32)) 18)) (hT 58 rfl rfl) (hbb1_61.ext' hR) rfl one_22 ⟨Ext.refl _, rfl⟩
      · refine Ask.plain rfl rfl ?_
        intro aq wq hNq hO hR hT
        exact does_indexArr (k := .i64) (i := 4) (o' := 4) arr_54 ((hO 6 rfl).trans s6_61) (hT 54 rfl rfl) (by decide) (by decide) rfl ⟨Ext.refl _, rfl⟩
    intro a62 wd62 hN_62 hD_62 hO hR hA hU
    obtain ⟨_, _, _, _, _, t59, t60, _⟩ := hA
    have hE_62 := hE_61.trans hR
    have s1_62 := (hO 1 rfl).trans s1_61
    have s2_62 := (hO 2 rfl).trans s2_61
    have s3_62 := (hO 3 rfl).trans s3_61
    have s4_62 := (hO 4 rfl).trans s4_61
    have s6_62 := (hO 6 rfl).trans s6_61
    have s7_62 := (hO 7 rfl).trans s7_61
    have hbb1_62 := hbb1_61.ext' hR
    have hbb2_62 := hbb2_61.ext' hR
    have hbb3_62 := hbb3_61.ext' hR
    have hbb6_62 := hbb6_61.ext' hR
    have s59_62 : get a62 59 = w32 (rot (((s.rounds k).h : UInt32) ^^^ (((s.rounds k).d : UInt32) + ((s.rounds k).h : UInt32) : UInt32)) 18) := t59
    have s60_62 : get a62 60 = Value.pointer (some ⟨b6, 4, none⟩) := t60
    clear hE_61 hN_61 hD_61 s1_61 s2_61 s3_61 s4_61 s6_61 s7_61 s51_61 hbb1_61 hbb2_61 hbb3_61 hbb6_61
    refine tail_none rfl rfl (does_storeD (o := 4) (n := 1) (cs' := [w32 (((s.rounds k).d : UInt32) + ((s.rounds k).h : UInt32)), w32 (rot (((s.rounds k).e : UInt32) ^^^ ((((s.rounds k).a : UInt32) + ((2654435769 : UInt32) * (UInt32.ofNat (k + 1) : UInt32) : UInt32) : UInt32) + ((s.rounds k).e : UInt32) : UInt32)) 7), w32 (rot (((s.rounds k).f : UInt32) ^^^ (((s.rounds k).b : UInt32) + ((s.rounds k).f : UInt32) : UInt32)) 9), w32 (rot (((s.rounds k).g : UInt32) ^^^ (((s.rounds k).c : UInt32) + ((s.rounds k).g : UInt32) : UInt32)) 13), w32 (rot (((s.rounds k).h : UInt32) ^^^ (((s.rounds k).d : UInt32) + ((s.rounds k).h : UInt32) : UInt32)) 18), w32 (0), w32 (0), w32 (0)]) (V := w32 (rot (((s.rounds k).h : UInt32) ^^^ (((s.rounds k).d : UInt32) + ((s.rounds k).h : UInt32) : UInt32)) 18)) s60_62 s59_62 hbb6_62 (Nat.le_of_ble_eq_true rfl) rfl siz_22 rfl rfl (fun wd63 hX hz hbb6_63 => ?_))
    have hE_63 := hE_62.since hX (fun k e => e ▸ fr_b6)
    have hbb1_63 := hbb1_62.ext hX ne_b1_b6
    have hbb2_63 := hbb2_62.ext hX ne_b2_b6
    have hbb3_63 := hbb3_62.ext hX ne_b3_b6
    clear hX hz hE_62 hbb1_62 hbb2_62 hbb3_62 hbb6_62
    refine tail_nil ?_
    refine region_lex [] [(52, Pr.ex (i64 ((4 : Nat) : Int))), (53, Pr.ex (i64 ((5 : Nat) : Int)))] 2 hN_62 hD_62 (by kernel_rfl) (by kernel_rfl) ?_ ?_
    · refine Asks.cons ?_ (Asks.cons ?_ (Asks.zero _))
      · refine Ask.plain rfl rfl ?_
        intro aq wq hNq hO hR hT
        exact does_move (V := i64 ((4 : Nat) : Int)) ((hO 7 rfl).trans s7_62) ⟨Ext.refl _, rfl⟩
      · refine Ask.plain rfl rfl ?_
        intro aq wq hNq hO hR hT
        exact does_add (a := ((4 : Nat) : Int)) (b := ((1 : Nat) : Int)) (r := ((5 : Nat) : Int)) (hT 52 rfl rfl) rfl (by decide) (by decide) (by decide) ⟨Ext.refl _, rfl⟩
    intro a64 wd64 hN_64 hD_64 hO hR hA hU
    obtain ⟨_, t53, _⟩ := hA
    have hE_64 := hE_63.trans hR
    have s1_64 := (hO 1 rfl).trans s1_62
    have s2_64 := (hO 2 rfl).trans s2_62
    have s3_64 := (hO 3 rfl).trans s3_62
    have s4_64 := (hO 4 rfl).trans s4_62
    have s6_64 := (hO 6 rfl).trans s6_62
    have s7_64 := (hO 7 rfl).trans s7_62
    have hbb1_64 := hbb1_63.ext' hR
    have hbb2_64 := hbb2_63.ext' hR
    have hbb3_64 := hbb3_63.ext' hR
    have hbb6_64 := hbb6_63.ext' hR
    have s53_64 : get a64 53 = i64 ((5 : Nat) : Int) := t53
    clear hE_63 hN_62 hD_62 s1_62 s2_62 s3_62 s4_62 s6_62 s7_62 s59_62 s60_62 hbb1_63 hbb2_63 hbb3_63 hbb6_63
    refine tail_put rfl rfl hN_64 hD_64 (by decide) (does_assign (V := i64 ((5 : Nat) : Int)) s53_64 (fun a65 hN_65 hD_65 hv hO => ?_))
    have s7_65 := hv
    have s1_65 := (hO 1 rfl).trans s1_64
    have s2_65 := (hO 2 rfl).trans s2_64
    have s3_65 := (hO 3 rfl).trans s3_64
    have s4_65 := (hO 4 rfl).trans s4_64
    have s6_65 := (hO 6 rfl).trans s6_64
    clear hO hv hN_64 hD_64 s1_64 s2_64 s3_64 s4_64 s6_64 s53_64 s7_64
    refine tail_nil ?_
    refine round_step ?_
    refine wp_seq ?_
    refine wp_seq ?_
    refine region_lex [] [(50, Pr.ex (i64 ((5 : Nat) : Int))), (51, Pr.ex (Value.bool (true)))] 2 hN_65 hD_65 (by kernel_rfl) (by kernel_rfl) ?_ ?_
    · refine Asks.cons ?_ (Asks.cons ?_ (Asks.zero _))
      · refine Ask.plain rfl rfl ?_
        intro aq wq hNq hO hR hT
        exact does_move (V := i64 ((5 : Nat) : Int)) ((hO 7 rfl).trans s7_65) ⟨Ext.refl _, rfl⟩
      · refine Ask.plain rfl rfl ?_
        intro aq wq hNq hO hR hT
        exact does_lss (a := ((5 : Nat) : Int)) (b := ((8 : Nat) : Int)) (hT 50 rfl rfl) rfl ⟨Ext.refl _, rfl⟩
    intro a66 wd66 hN_66 hD_66 hO hR hA hU
    obtain ⟨_, t51, _⟩ := hA
    have hE_66 := hE_64.trans hR
    have s1_66 := (hO 1 rfl).trans s1_65
    have s2_66 := (hO 2 rfl).trans s2_65
    have s3_66 := (hO 3 rfl).trans s3_65
    have s4_66 := (hO 4 rfl).trans s4_65
    have s6_66 := (hO 6 rfl).trans s6_65
    have s7_66 := (hO 7 rfl).trans s7_65
    have hbb1_66 := hbb1_64.ext' hR
    have hbb2_66 := hbb2_64.ext' hR
    have hbb3_66 := hbb3_64.ext' hR
    have hbb6_66 := hbb6_64.ext' hR
    have s51_66 : get a66 51 = Value.bool (true) := t51
    clear hE_64 hN_65 hD_65 s1_65 s2_65 s3_65 s4_65 s6_65 s7_65 hbb1_64 hbb2_64 hbb3_64 hbb6_64
    refine tail_nil ?_
    refine wp_ifT s51_66 ?_
    refine wp_skip ?_
    refine wp_seq ?_
    refine wp_block ?_
    refine region_lex [] [(54, Pr.ex (i64 ((5 : Nat) : Int))), (55, Pr.ex (i64 ((5 : Nat) : Int))), (56, Pr.ex (i64 ((8 : Nat) : Int))), (57, Pr.ex (i64 ((0 : Nat) : Int))), (58, Pr.ex (Value.pointer (some ⟨b1, 0, none⟩))), (59, Pr.ex (w32 ((((s.rounds k).a : UInt32) + ((2654435769 : UInt32) * (UInt32.ofNat (k + 1) : UInt32) : UInt32) : UInt32) + ((s.rounds k).e : UInt32)))), (60, Pr.ex (Value.pointer (some ⟨b6, 5, none⟩)))] 7 hN_66 hD_66 (by kernel_rfl) (by kernel_rfl) ?_ ?_
    · refine Asks.cons ?_ (Asks.cons ?_ (Asks.cons ?_ (Asks.cons ?_ (Asks.cons ?_ (Asks.cons ?_ (Asks.cons ?_ (Asks.zero _)))))))
      · refine Ask.plain rfl rfl ?_
        intro aq wq hNq hO hR hT
        exact does_move (V := i64 ((5 : Nat) : Int)) ((hO 7 rfl).trans s7_66) ⟨Ext.refl _, rfl⟩
      · refine Ask.plain rfl rfl ?_
        intro aq wq hNq hO hR hT
        exact does_move (V := i64 ((5 : Nat) : Int)) ((hO 7 rfl).trans s7_66) ⟨Ext.refl _, rfl⟩
      · refine Ask.plain rfl rfl ?_
        intro aq wq hNq hO hR hT
        exact does_add (a := ((5 : Nat) : Int)) (b := ((3 : Nat) : Int)) (r := ((8 : Nat) : Int)) (hT 55 rfl rfl) rfl (by decide) (by decide) (by decide) ⟨Ext.refl _, rfl⟩
      · refine Ask.plain rfl rfl ?_
        intro aq wq hNq hO hR hT
        exact does_rem (k := .i64) (a := ((8 : Nat) : Int)) (b := ((8 : Nat) : Int)) (r := ((0 : Nat) : Int)) (hT 56 rfl rfl) rfl (by decide) (by decide) (by decide) ⟨Ext.refl _, rfl⟩
      · refine Ask.plain rfl rfl ?_
        intro aq wq hNq hO hR hT
        exact does_indexArr (k := .i64) (i := 0) (o' := 0) arr_54 ((hO 1 rfl).trans s1_66) (hT 57 rfl rfl) (by decide) (by decide) rfl ⟨Ext.refl _, rfl⟩
      · refine Ask.plain rfl rfl ?_
        intro aq wq hNq hO hR hT
        exact does_loadD1 (o := 0) (V := w32 ((((s.rounds k).a : UInt32) + ((2654435769 : UInt32) * (UInt32.ofNat (k + 1) : UInt32) : UInt32) : UInt32) + ((s.rounds k).e : UInt32))) (hT 58 rfl rfl) (hbb1_66.ext' hR) rfl one_22 ⟨Ext.refl _, rfl⟩
      · refine Ask.plain rfl rfl ?_
        intro aq wq hNq hO hR hT
        exact does_indexArr (k := .i64) (i := 5) (o' := 5) arr_54 ((hO 6 rfl).trans s6_66) (hT 54 rfl rfl) (by decide) (by decide) rfl ⟨Ext.refl _, rfl⟩
    intro a67 wd67 hN_67 hD_67 hO hR hA hU
    obtain ⟨_, _, _, _, _, t59, t60, _⟩ := hA
    have hE_67 := hE_66.trans hR
    have s1_67 := (hO 1 rfl).trans s1_66
    have s2_67 := (hO 2 rfl).trans s2_66
    have s3_67 := (hO 3 rfl).trans s3_66
    have s4_67 := (hO 4 rfl).trans s4_66
    have s6_67 := (hO 6 rfl).trans s6_66
    have s7_67 := (hO 7 rfl).trans s7_66
    have hbb1_67 := hbb1_66.ext' hR
    have hbb2_67 := hbb2_66.ext' hR
    have hbb3_67 := hbb3_66.ext' hR
    have hbb6_67 := hbb6_66.ext' hR
    have s59_67 : get a67 59 = w32 ((((s.rounds k).a : UInt32) + ((2654435769 : UInt32) * (UInt32.ofNat (k + 1) : UInt32) : UInt32) : UInt32) + ((s.rounds k).e : UInt32)) := t59
    have s60_67 : get a67 60 = Value.pointer (some ⟨b6, 5, none⟩) := t60
    clear hE_66 hN_66 hD_66 s1_66 s2_66 s3_66 s4_66 s6_66 s7_66 s51_66 hbb1_66 hbb2_66 hbb3_66 hbb6_66
    refine tail_none rfl rfl (does_storeD (o := 5) (n := 1) (cs' := [w32 (((s.rounds k).d : UInt32) + ((s.rounds k).h : UInt32)), w32 (rot (((s.rounds k).e : UInt32) ^^^ ((((s.rounds k).a : UInt32) + ((2654435769 : UInt32) * (UInt32.ofNat (k + 1) : UInt32) : UInt32) : UInt32) + ((s.rounds k).e : UInt32) : UInt32)) 7), w32 (rot (((s.rounds k).f : UInt32) ^^^ (((s.rounds k).b : UInt32) + ((s.rounds k).f : UInt32) : UInt32)) 9), w32 (rot (((s.rounds k).g : UInt32) ^^^ (((s.rounds k).c : UInt32) + ((s.rounds k).g : UInt32) : UInt32)) 13), w32 (rot (((s.rounds k).h : UInt32) ^^^ (((s.rounds k).d : UInt32) + ((s.rounds k).h : UInt32) : UInt32)) 18), w32 ((((s.rounds k).a : UInt32) + ((2654435769 : UInt32) * (UInt32.ofNat (k + 1) : UInt32) : UInt32) : UInt32) + ((s.rounds k).e : UInt32)), w32 (0), w32 (0)]) (V := w32 ((((s.rounds k).a : UInt32) + ((2654435769 : UInt32) * (UInt32.ofNat (k + 1) : UInt32) : UInt32) : UInt32) + ((s.rounds k).e : UInt32))) s60_67 s59_67 hbb6_67 (Nat.le_of_ble_eq_true rfl) rfl siz_22 rfl rfl (fun wd68 hX hz hbb6_68 => ?_))
    have hE_68 := hE_67.since hX (fun k e => e ▸ fr_b6)
    have hbb1_68 := hbb1_67.ext hX ne_b1_b6
    have hbb2_68 := hbb2_67.ext hX ne_b2_b6
    have hbb3_68 := hbb3_67.ext hX ne_b3_b6
    clear hX hz hE_67 hbb1_67 hbb2_67 hbb3_67 hbb6_67
    refine tail_nil ?_
    refine region_lex [] [(52, Pr.ex (i64 ((5 : Nat) : Int))), (53, Pr.ex (i64 ((6 : Nat) : Int)))] 2 hN_67 hD_67 (by kernel_rfl) (by kernel_rfl) ?_ ?_
    · refine Asks.cons ?_ (Asks.cons ?_ (Asks.zero _))
      · refine Ask.plain rfl rfl ?_
        intro aq wq hNq hO hR hT
        exact does_move (V := i64 ((5 : Nat) : Int)) ((hO 7 rfl).trans s7_67) ⟨Ext.refl _, rfl⟩
      · refine Ask.plain rfl rfl ?_
        intro aq wq hNq hO hR hT
        exact does_add (a := ((5 : Nat) : Int)) (b := ((1 : Nat) : Int)) (r := ((6 : Nat) : Int)) (hT 52 rfl rfl) rfl (by decide) (by decide) (by decide) ⟨Ext.refl _, rfl⟩
    intro a69 wd69 hN_69 hD_69 hO hR hA hU
    obtain ⟨_, t53, _⟩ := hA
    have hE_69 := hE_68.trans hR
    have s1_69 := (hO 1 rfl).trans s1_67
    have s2_69 := (hO 2 rfl).trans s2_67
    have s3_69 := (hO 3 rfl).trans s3_67
    have s4_69 := (hO 4 rfl).trans s4_67
    have s6_69 := (hO 6 rfl).trans s6_67
    have s7_69 := (hO 7 rfl).trans s7_67
    have hbb1_69 := hbb1_68.ext' hR
    have hbb2_69 := hbb2_68.ext' hR
    have hbb3_69 := hbb3_68.ext' hR
    have hbb6_69 := hbb6_68.ext' hR
    have s53_69 : get a69 53 = i64 ((6 : Nat) : Int) := t53
    clear hE_68 hN_67 hD_67 s1_67 s2_67 s3_67 s4_67 s6_67 s7_67 s59_67 s60_67 hbb1_68 hbb2_68 hbb3_68 hbb6_68
    refine tail_put rfl rfl hN_69 hD_69 (by decide) (does_assign (V := i64 ((6 : Nat) : Int)) s53_69 (fun a70 hN_70 hD_70 hv hO => ?_))
    have s7_70 := hv
    have s1_70 := (hO 1 rfl).trans s1_69
    have s2_70 := (hO 2 rfl).trans s2_69
    have s3_70 := (hO 3 rfl).trans s3_69
    have s4_70 := (hO 4 rfl).trans s4_69
    have s6_70 := (hO 6 rfl).trans s6_69
    clear hO hv hN_69 hD_69 s1_69 s2_69 s3_69 s4_69 s6_69 s53_69 s7_69
    refine tail_nil ?_
    refine round_step ?_
    refine wp_seq ?_
    refine wp_seq ?_
    refine region_lex [] [(50, Pr.ex (i64 ((6 : Nat) : Int))), (51, Pr.ex (Value.bool (true)))] 2 hN_70 hD_70 (by kernel_rfl) (by kernel_rfl) ?_ ?_
    · refine Asks.cons ?_ (Asks.cons ?_ (Asks.zero _))
      · refine Ask.plain rfl rfl ?_
        intro aq wq hNq hO hR hT
        exact does_move (V := i64 ((6 : Nat) : Int)) ((hO 7 rfl).trans s7_70) ⟨Ext.refl _, rfl⟩
      · refine Ask.plain rfl rfl ?_
        intro aq wq hNq hO hR hT
        exact does_lss (a := ((6 : Nat) : Int)) (b := ((8 : Nat) : Int)) (hT 50 rfl rfl) rfl ⟨Ext.refl _, rfl⟩
    intro a71 wd71 hN_71 hD_71 hO hR hA hU
    obtain ⟨_, t51, _⟩ := hA
    have hE_71 := hE_69.trans hR
    have s1_71 := (hO 1 rfl).trans s1_70
    have s2_71 := (hO 2 rfl).trans s2_70
    have s3_71 := (hO 3 rfl).trans s3_70
    have s4_71 := (hO 4 rfl).trans s4_70
    have s6_71 := (hO 6 rfl).trans s6_70
    have s7_71 := (hO 7 rfl).trans s7_70
    have hbb1_71 := hbb1_69.ext' hR
    have hbb2_71 := hbb2_69.ext' hR
    have hbb3_71 := hbb3_69.ext' hR
    have hbb6_71 := hbb6_69.ext' hR
    have s51_71 : get a71 51 = Value.bool (true) := t51
    clear hE_69 hN_70 hD_70 s1_70 s2_70 s3_70 s4_70 s6_70 s7_70 hbb1_69 hbb2_69 hbb3_69 hbb6_69
    refine tail_nil ?_
    refine wp_ifT s51_71 ?_
    refine wp_skip ?_
    refine wp_seq ?_
    refine wp_block ?_
    refine region_lex [] [(54, Pr.ex (i64 ((6 : Nat) : Int))), (55, Pr.ex (i64 ((6 : Nat) : Int))), (56, Pr.ex (i64 ((9 : Nat) : Int))), (57, Pr.ex (i64 ((1 : Nat) : Int))), (58, Pr.ex (Value.pointer (some ⟨b1, 1, none⟩))), (59, Pr.ex (w32 (((s.rounds k).b : UInt32) + ((s.rounds k).f : UInt32)))), (60, Pr.ex (Value.pointer (some ⟨b6, 6, none⟩)))] 7 hN_71 hD_71 (by kernel_rfl) (by kernel_rfl) ?_ ?_
    · refine Asks.cons ?_ (Asks.cons ?_ (Asks.cons ?_ (Asks.cons ?_ (Asks.cons ?_ (Asks.cons ?_ (Asks.cons ?_ (Asks.zero _)))))))
      · refine Ask.plain rfl rfl ?_
        intro aq wq hNq hO hR hT
        exact does_move (V := i64 ((6 : Nat) : Int)) ((hO 7 rfl).trans s7_71) ⟨Ext.refl _, rfl⟩
      · refine Ask.plain rfl rfl ?_
        intro aq wq hNq hO hR hT
        exact does_move (V := i64 ((6 : Nat) : Int)) ((hO 7 rfl).trans s7_71) ⟨Ext.refl _, rfl⟩
      · refine Ask.plain rfl rfl ?_
        intro aq wq hNq hO hR hT
        exact does_add (a := ((6 : Nat) : Int)) (b := ((3 : Nat) : Int)) (r := ((9 : Nat) : Int)) (hT 55 rfl rfl) rfl (by decide) (by decide) (by decide) ⟨Ext.refl _, rfl⟩
      · refine Ask.plain rfl rfl ?_
        intro aq wq hNq hO hR hT
        exact does_rem (k := .i64) (a := ((9 : Nat) : Int)) (b := ((8 : Nat) : Int)) (r := ((1 : Nat) : Int)) (hT 56 rfl rfl) rfl (by decide) (by decide) (by decide) ⟨Ext.refl _, rfl⟩
      · refine Ask.plain rfl rfl ?_
        intro aq wq hNq hO hR hT
        exact does_indexArr (k := .i64) (i := 1) (o' := 1) arr_54 ((hO 1 rfl).trans s1_71) (hT 57 rfl rfl) (by decide) (by decide) rfl ⟨Ext.refl _, rfl⟩
      · refine Ask.plain rfl rfl ?_
        intro aq wq hNq hO hR hT
        exact does_loadD1 (o := 1) (V := w32 (((s.rounds k).b : UInt32) + ((s.rounds k).f : UInt32))) (hT 58 rfl rfl) (hbb1_71.ext' hR) rfl one_22 ⟨Ext.refl _, rfl⟩
      · refine Ask.plain rfl rfl ?_
        intro aq wq hNq hO hR hT
        exact does_indexArr (k := .i64) (i := 6) (o' := 6) arr_54 ((hO 6 rfl).trans s6_71) (hT 54 rfl rfl) (by decide) (by decide) rfl ⟨Ext.refl _, rfl⟩
    intro a72 wd72 hN_72 hD_72 hO hR hA hU
    obtain ⟨_, _, _, _, _, t59, t60, _⟩ := hA
    have hE_72 := hE_71.trans hR
    have s1_72 := (hO 1 rfl).trans s1_71
    have s2_72 := (hO 2 rfl).trans s2_71
    have s3_72 := (hO 3 rfl).trans s3_71
    have s4_72 := (hO 4 rfl).trans s4_71
    have s6_72 := (hO 6 rfl).trans s6_71
    have s7_72 := (hO 7 rfl).trans s7_71
    have hbb1_72 := hbb1_71.ext' hR
    have hbb2_72 := hbb2_71.ext' hR
    have hbb3_72 := hbb3_71.ext' hR
    have hbb6_72 := hbb6_71.ext' hR
    have s59_72 : get a72 59 = w32 (((s.rounds k).b : UInt32) + ((s.rounds k).f : UInt32)) := t59
    have s60_72 : get a72 60 = Value.pointer (some ⟨b6, 6, none⟩) := t60
    clear hE_71 hN_71 hD_71 s1_71 s2_71 s3_71 s4_71 s6_71 s7_71 s51_71 hbb1_71 hbb2_71 hbb3_71 hbb6_71
    refine tail_none rfl rfl (does_storeD (o := 6) (n := 1) (cs' := [w32 (((s.rounds k).d : UInt32) + ((s.rounds k).h : UInt32)), w32 (rot (((s.rounds k).e : UInt32) ^^^ ((((s.rounds k).a : UInt32) + ((2654435769 : UInt32) * (UInt32.ofNat (k + 1) : UInt32) : UInt32) : UInt32) + ((s.rounds k).e : UInt32) : UInt32)) 7), w32 (rot (((s.rounds k).f : UInt32) ^^^ (((s.rounds k).b : UInt32) + ((s.rounds k).f : UInt32) : UInt32)) 9), w32 (rot (((s.rounds k).g : UInt32) ^^^ (((s.rounds k).c : UInt32) + ((s.rounds k).g : UInt32) : UInt32)) 13), w32 (rot (((s.rounds k).h : UInt32) ^^^ (((s.rounds k).d : UInt32) + ((s.rounds k).h : UInt32) : UInt32)) 18), w32 ((((s.rounds k).a : UInt32) + ((2654435769 : UInt32) * (UInt32.ofNat (k + 1) : UInt32) : UInt32) : UInt32) + ((s.rounds k).e : UInt32)), w32 (((s.rounds k).b : UInt32) + ((s.rounds k).f : UInt32)), w32 (0)]) (V := w32 (((s.rounds k).b : UInt32) + ((s.rounds k).f : UInt32))) s60_72 s59_72 hbb6_72 (Nat.le_of_ble_eq_true rfl) rfl siz_22 rfl rfl (fun wd73 hX hz hbb6_73 => ?_))
    have hE_73 := hE_72.since hX (fun k e => e ▸ fr_b6)
    have hbb1_73 := hbb1_72.ext hX ne_b1_b6
    have hbb2_73 := hbb2_72.ext hX ne_b2_b6
    have hbb3_73 := hbb3_72.ext hX ne_b3_b6
    clear hX hz hE_72 hbb1_72 hbb2_72 hbb3_72 hbb6_72
    refine tail_nil ?_
    refine region_lex [] [(52, Pr.ex (i64 ((6 : Nat) : Int))), (53, Pr.ex (i64 ((7 : Nat) : Int)))] 2 hN_72 hD_72 (by kernel_rfl) (by kernel_rfl) ?_ ?_
    · refine Asks.cons ?_ (Asks.cons ?_ (Asks.zero _))
      · refine Ask.plain rfl rfl ?_
        intro aq wq hNq hO hR hT
        exact does_move (V := i64 ((6 : Nat) : Int)) ((hO 7 rfl).trans s7_72) ⟨Ext.refl _, rfl⟩
      · refine Ask.plain rfl rfl ?_
        intro aq wq hNq hO hR hT
        exact does_add (a := ((6 : Nat) : Int)) (b := ((1 : Nat) : Int)) (r := ((7 : Nat) : Int)) (hT 52 rfl rfl) rfl (by decide) (by decide) (by decide) ⟨Ext.refl _, rfl⟩
    intro a74 wd74 hN_74 hD_74 hO hR hA hU
    obtain ⟨_, t53, _⟩ := hA
    have hE_74 := hE_73.trans hR
    have s1_74 := (hO 1 rfl).trans s1_72
    have s2_74 := (hO 2 rfl).trans s2_72
    have s3_74 := (hO 3 rfl).trans s3_72
    have s4_74 := (hO 4 rfl).trans s4_72
    have s6_74 := (hO 6 rfl).trans s6_72
    have s7_74 := (hO 7 rfl).trans s7_72
    have hbb1_74 := hbb1_73.ext' hR
    have hbb2_74 := hbb2_73.ext' hR
    have hbb3_74 := hbb3_73.ext' hR
    have hbb6_74 := hbb6_73.ext' hR
    have s53_74 : get a74 53 = i64 ((7 : Nat) : Int) := t53
    clear hE_73 hN_72 hD_72 s1_72 s2_72 s3_72 s4_72 s6_72 s7_72 s59_72 s60_72 hbb1_73 hbb2_73 hbb3_73 hbb6_73
    refine tail_put rfl rfl hN_74 hD_74 (by decide) (does_assign (V := i64 ((7 : Nat) : Int)) s53_74 (fun a75 hN_75 hD_75 hv hO => ?_))
    have s7_75 := hv
    have s1_75 := (hO 1 rfl).trans s1_74
    have s2_75 := (hO 2 rfl).trans s2_74
    have s3_75 := (hO 3 rfl).trans s3_74
    have s4_75 := (hO 4 rfl).trans s4_74
    have s6_75 := (hO 6 rfl).trans s6_74
    clear hO hv hN_74 hD_74 s1_74 s2_74 s3_74 s4_74 s6_74 s53_74 s7_74
    refine tail_nil ?_
    refine round_step ?_
    refine wp_seq ?_
    refine wp_seq ?_
    refine region_lex [] [(50, Pr.ex (i64 ((7 : Nat) : Int))), (51, Pr.ex (Value.bool (true)))] 2 hN_75 hD_75 (by kernel_rfl) (by kernel_rfl) ?_ ?_
    · refine Asks.cons ?_ (Asks.cons ?_ (Asks.zero _))
      · refine Ask.plain rfl rfl ?_
        intro aq wq hNq hO hR hT
        exact does_move (V := i64 ((7 : Nat) : Int)) ((hO 7 rfl).trans s7_75) ⟨Ext.refl _, rfl⟩
      · refine Ask.plain rfl rfl ?_
        intro aq wq hNq hO hR hT
        exact does_lss (a := ((7 : Nat) : Int)) (b := ((8 : Nat) : Int)) (hT 50 rfl rfl) rfl ⟨Ext.refl _, rfl⟩
    intro a76 wd76 hN_76 hD_76 hO hR hA hU
    obtain ⟨_, t51, _⟩ := hA
    have hE_76 := hE_74.trans hR
    have s1_76 := (hO 1 rfl).trans s1_75
    have s2_76 := (hO 2 rfl).trans s2_75
    have s3_76 := (hO 3 rfl).trans s3_75
    have s4_76 := (hO 4 rfl).trans s4_75
    have s6_76 := (hO 6 rfl).trans s6_75
    have s7_76 := (hO 7 rfl).trans s7_75
    have hbb1_76 := hbb1_74.ext' hR
    have hbb2_76 := hbb2_74.ext' hR
    have hbb3_76 := hbb3_74.ext' hR
    have hbb6_76 := hbb6_74.ext' hR
    have s51_76 : get a76 51 = Value.bool (true) := t51
    clear hE_74 hN_75 hD_75 s1_75 s2_75 s3_75 s4_75 s6_75 s7_75 hbb1_74 hbb2_74 hbb3_74 hbb6_74
    refine tail_nil ?_
    refine wp_ifT s51_76 ?_
    refine wp_skip ?_
    refine wp_seq ?_
    refine wp_block ?_
    refine region_lex [] [(54, Pr.ex (i64 ((7 : Nat) : Int))), (55, Pr.ex (i64 ((7 : Nat) : Int))), (56, Pr.ex (i64 ((10 : Nat) : Int))), (57, Pr.ex (i64 ((2 : Nat) : Int))), (58, Pr.ex (Value.pointer (some ⟨b1, 2, none⟩))), (59, Pr.ex (w32 (((s.rounds k).c : UInt32) + ((s.rounds k).g : UInt32)))), (60, Pr.ex (Value.pointer (some ⟨b6, 7, none⟩)))] 7 hN_76 hD_76 (by kernel_rfl) (by kernel_rfl) ?_ ?_
    · refine Asks.cons ?_ (Asks.cons ?_ (Asks.cons ?_ (Asks.cons ?_ (Asks.cons ?_ (Asks.cons ?_ (Asks.cons ?_ (Asks.zero _)))))))
      · refine Ask.plain rfl rfl ?_
        intro aq wq hNq hO hR hT
        exact does_move (V := i64 ((7 : Nat) : Int)) ((hO 7 rfl).trans s7_76) ⟨Ext.refl _, rfl⟩
      · refine Ask.plain rfl rfl ?_
        intro aq wq hNq hO hR hT
        exact does_move (V := i64 ((7 : Nat) : Int)) ((hO 7 rfl).trans s7_76) ⟨Ext.refl _, rfl⟩
      · refine Ask.plain rfl rfl ?_
        intro aq wq hNq hO hR hT
        exact does_add (a := ((7 : Nat) : Int)) (b := ((3 : Nat) : Int)) (r := ((10 : Nat) : Int)) (hT 55 rfl rfl) rfl (by decide) (by decide) (by decide) ⟨Ext.refl _, rfl⟩
      · refine Ask.plain rfl rfl ?_
        intro aq wq hNq hO hR hT
        exact does_rem (k := .i64) (a := ((10 : Nat) : Int)) (b := ((8 : Nat) : Int)) (r := ((2 : Nat) : Int)) (hT 56 rfl rfl) rfl (by decide) (by decide) (by decide) ⟨Ext.refl _, rfl⟩
      · refine Ask.plain rfl rfl ?_
        intro aq wq hNq hO hR hT
        exact does_indexArr (k := .i64) (i := 2) (o' := 2) arr_54 ((hO 1 rfl).trans s1_76) (hT 57 rfl rfl) (by decide) (by decide) rfl ⟨Ext.refl _, rfl⟩
      · refine Ask.plain rfl rfl ?_
        intro aq wq hNq hO hR hT
        exact does_loadD1 (o := 2) (V := w32 (((s.rounds k).c : UInt32) + ((s.rounds k).g : UInt32))) (hT 58 rfl rfl) (hbb1_76.ext' hR) rfl one_22 ⟨Ext.refl _, rfl⟩
      · refine Ask.plain rfl rfl ?_
        intro aq wq hNq hO hR hT
        exact does_indexArr (k := .i64) (i := 7) (o' := 7) arr_54 ((hO 6 rfl).trans s6_76) (hT 54 rfl rfl) (by decide) (by decide) rfl ⟨Ext.refl _, rfl⟩
    intro a77 wd77 hN_77 hD_77 hO hR hA hU
    obtain ⟨_, _, _, _, _, t59, t60, _⟩ := hA
    have hE_77 := hE_76.trans hR
    have s1_77 := (hO 1 rfl).trans s1_76
    have s2_77 := (hO 2 rfl).trans s2_76
    have s3_77 := (hO 3 rfl).trans s3_76
    have s4_77 := (hO 4 rfl).trans s4_76
    have s6_77 := (hO 6 rfl).trans s6_76
    have s7_77 := (hO 7 rfl).trans s7_76
    have hbb1_77 := hbb1_76.ext' hR
    have hbb2_77 := hbb2_76.ext' hR
    have hbb3_77 := hbb3_76.ext' hR
    have hbb6_77 := hbb6_76.ext' hR
    have s59_77 : get a77 59 = w32 (((s.rounds k).c : UInt32) + ((s.rounds k).g : UInt32)) := t59
    have s60_77 : get a77 60 = Value.pointer (some ⟨b6, 7, none⟩) := t60
    clear hE_76 hN_76 hD_76 s1_76 s2_76 s3_76 s4_76 s6_76 s7_76 s51_76 hbb1_76 hbb2_76 hbb3_76 hbb6_76
    refine tail_none rfl rfl (does_storeD (o := 7) (n := 1) (cs' := [w32 (((s.rounds k).d : UInt32) + ((s.rounds k).h : UInt32)), w32 (rot (((s.rounds k).e : UInt32) ^^^ ((((s.rounds k).a : UInt32) + ((2654435769 : UInt32) * (UInt32.ofNat (k + 1) : UInt32) : UInt32) : UInt32) + ((s.rounds k).e : UInt32) : UInt32)) 7), w32 (rot (((s.rounds k).f : UInt32) ^^^ (((s.rounds k).b : UInt32) + ((s.rounds k).f : UInt32) : UInt32)) 9), w32 (rot (((s.rounds k).g : UInt32) ^^^ (((s.rounds k).c : UInt32) + ((s.rounds k).g : UInt32) : UInt32)) 13), w32 (rot (((s.rounds k).h : UInt32) ^^^ (((s.rounds k).d : UInt32) + ((s.rounds k).h : UInt32) : UInt32)) 18), w32 ((((s.rounds k).a : UInt32) + ((2654435769 : UInt32) * (UInt32.ofNat (k + 1) : UInt32) : UInt32) : UInt32) + ((s.rounds k).e : UInt32)), w32 (((s.rounds k).b : UInt32) + ((s.rounds k).f : UInt32)), w32 (((s.rounds k).c : UInt32) + ((s.rounds k).g : UInt32))]) (V := w32 (((s.rounds k).c : UInt32) + ((s.rounds k).g : UInt32))) s60_77 s59_77 hbb6_77 (Nat.le_of_ble_eq_true rfl) rfl siz_22 rfl rfl (fun wd78 hX hz hbb6_78 => ?_))
    have hE_78 := hE_77.since hX (fun k e => e ▸ fr_b6)
    have hbb1_78 := hbb1_77.ext hX ne_b1_b6
    have hbb2_78 := hbb2_77.ext hX ne_b2_b6
    have hbb3_78 := hbb3_77.ext hX ne_b3_b6
    clear hX hz hE_77 hbb1_77 hbb2_77 hbb3_77 hbb6_77
    refine tail_nil ?_
    refine region_lex [] [(52, Pr.ex (i64 ((7 : Nat) : Int))), (53, Pr.ex (i64 ((8 : Nat) : Int)))] 2 hN_77 hD_77 (by kernel_rfl) (by kernel_rfl) ?_ ?_
    · refine Asks.cons ?_ (Asks.cons ?_ (Asks.zero _))
      · refine Ask.plain rfl rfl ?_
        intro aq wq hNq hO hR hT
        exact does_move (V := i64 ((7 : Nat) : Int)) ((hO 7 rfl).trans s7_77) ⟨Ext.refl _, rfl⟩
      · refine Ask.plain rfl rfl ?_
        intro aq wq hNq hO hR hT
        exact does_add (a := ((7 : Nat) : Int)) (b := ((1 : Nat) : Int)) (r := ((8 : Nat) : Int)) (hT 52 rfl rfl) rfl (by decide) (by decide) (by decide) ⟨Ext.refl _, rfl⟩
    intro a79 wd79 hN_79 hD_79 hO hR hA hU
    obtain ⟨_, t53, _⟩ := hA
    have hE_79 := hE_78.trans hR
    have s1_79 := (hO 1 rfl).trans s1_77
    have s2_79 := (hO 2 rfl).trans s2_77
    have s3_79 := (hO 3 rfl).trans s3_77
    have s4_79 := (hO 4 rfl).trans s4_77
    have s6_79 := (hO 6 rfl).trans s6_77
    have s7_79 := (hO 7 rfl).trans s7_77
    have hbb1_79 := hbb1_78.ext' hR
    have hbb2_79 := hbb2_78.ext' hR
    have hbb3_79 := hbb3_78.ext' hR
    have hbb6_79 := hbb6_78.ext' hR
    have s53_79 : get a79 53 = i64 ((8 : Nat) : Int) := t53
    clear hE_78 hN_77 hD_77 s1_77 s2_77 s3_77 s4_77 s6_77 s7_77 s59_77 s60_77 hbb1_78 hbb2_78 hbb3_78 hbb6_78
    refine tail_put rfl rfl hN_79 hD_79 (by decide) (does_assign (V := i64 ((8 : Nat) : Int)) s53_79 (fun a80 hN_80 hD_80 hv hO => ?_))
    have s7_80 := hv
    have s1_80 := (hO 1 rfl).trans s1_79
    have s2_80 := (hO 2 rfl).trans s2_79
    have s3_80 := (hO 3 rfl).trans s3_79
    have s4_80 := (hO 4 rfl).trans s4_79
    have s6_80 := (hO 6 rfl).trans s6_79
    clear hO hv hN_79 hD_79 s1_79 s2_79 s3_79 s4_79 s6_79 s53_79 s7_79
    refine tail_nil ?_
    refine round_step ?_
    refine wp_seq ?_
    refine wp_seq ?_
    refine region_lex [] [(50, Pr.ex (i64 ((8 : Nat) : Int))), (51, Pr.ex (Value.bool (false)))] 2 hN_80 hD_80 (by kernel_rfl) (by kernel_rfl) ?_ ?_
    · refine Asks.cons ?_ (Asks.cons ?_ (Asks.zero _))
      · refine Ask.plain rfl rfl ?_
        intro aq wq hNq hO hR hT
        exact does_move (V := i64 ((8 : Nat) : Int)) ((hO 7 rfl).trans s7_80) ⟨Ext.refl _, rfl⟩
      · refine Ask.plain rfl rfl ?_
        intro aq wq hNq hO hR hT
        exact does_lss (a := ((8 : Nat) : Int)) (b := ((8 : Nat) : Int)) (hT 50 rfl rfl) rfl ⟨Ext.refl _, rfl⟩
    intro a81 wd81 hN_81 hD_81 hO hR hA hU
    obtain ⟨_, t51, _⟩ := hA
    have hE_81 := hE_79.trans hR
    have s1_81 := (hO 1 rfl).trans s1_80
    have s2_81 := (hO 2 rfl).trans s2_80
    have s3_81 := (hO 3 rfl).trans s3_80
    have s4_81 := (hO 4 rfl).trans s4_80
    have s6_81 := (hO 6 rfl).trans s6_80
    have s7_81 := (hO 7 rfl).trans s7_80
    have hbb1_81 := hbb1_79.ext' hR
    have hbb2_81 := hbb2_79.ext' hR
    have hbb3_81 := hbb3_79.ext' hR
    have hbb6_81 := hbb6_79.ext' hR
    have s51_81 : get a81 51 = Value.bool (false) := t51
    clear hE_79 hN_80 hD_80 s1_80 s2_80 s3_80 s4_80 s6_80 s7_80 hbb1_79 hbb2_79 hbb3_79 hbb6_79
    refine tail_nil ?_
    refine wp_ifF s51_81 ?_
    refine wp_exit ?_
    refine region_lex [] [(61, Pr.ex (Value.agg #[w32 (((s.rounds k).d : UInt32) + ((s.rounds k).h : UInt32)), w32 (rot (((s.rounds k).e : UInt32) ^^^ ((((s.rounds k).a : UInt32) + ((2654435769 : UInt32) * (UInt32.ofNat (k + 1) : UInt32) : UInt32) : UInt32) + ((s.rounds k).e : UInt32) : UInt32)) 7), w32 (rot (((s.rounds k).f : UInt32) ^^^ (((s.rounds k).b : UInt32) + ((s.rounds k).f : UInt32) : UInt32)) 9), w32 (rot (((s.rounds k).g : UInt32) ^^^ (((s.rounds k).c : UInt32) + ((s.rounds k).g : UInt32) : UInt32)) 13), w32 (rot (((s.rounds k).h : UInt32) ^^^ (((s.rounds k).d : UInt32) + ((s.rounds k).h : UInt32) : UInt32)) 18), w32 ((((s.rounds k).a : UInt32) + ((2654435769 : UInt32) * (UInt32.ofNat (k + 1) : UInt32) : UInt32) : UInt32) + ((s.rounds k).e : UInt32)), w32 (((s.rounds k).b : UInt32) + ((s.rounds k).f : UInt32)), w32 (((s.rounds k).c : UInt32) + ((s.rounds k).g : UInt32))]))] 1 hN_81 hD_81 (by kernel_rfl) (by kernel_rfl) ?_ ?_
    · refine Asks.cons ?_ (Asks.zero _)
      · refine Ask.plain rfl rfl ?_
        intro aq wq hNq hO hR hT
        exact does_loadD (o := 0) (n := 8) (mid := [w32 (((s.rounds k).d : UInt32) + ((s.rounds k).h : UInt32)), w32 (rot (((s.rounds k).e : UInt32) ^^^ ((((s.rounds k).a : UInt32) + ((2654435769 : UInt32) * (UInt32.ofNat (k + 1) : UInt32) : UInt32) : UInt32) + ((s.rounds k).e : UInt32) : UInt32)) 7), w32 (rot (((s.rounds k).f : UInt32) ^^^ (((s.rounds k).b : UInt32) + ((s.rounds k).f : UInt32) : UInt32)) 9), w32 (rot (((s.rounds k).g : UInt32) ^^^ (((s.rounds k).c : UInt32) + ((s.rounds k).g : UInt32) : UInt32)) 13), w32 (rot (((s.rounds k).h : UInt32) ^^^ (((s.rounds k).d : UInt32) + ((s.rounds k).h : UInt32) : UInt32)) 18), w32 ((((s.rounds k).a : UInt32) + ((2654435769 : UInt32) * (UInt32.ofNat (k + 1) : UInt32) : UInt32) : UInt32) + ((s.rounds k).e : UInt32)), w32 (((s.rounds k).b : UInt32) + ((s.rounds k).f : UInt32)), w32 (((s.rounds k).c : UInt32) + ((s.rounds k).g : UInt32))]) ((hO 6 rfl).trans s6_81) (hbb6_81.ext' hR) rfl rfl (Nat.le_of_ble_eq_true rfl) row_54 rfl ⟨Ext.refl _, rfl⟩
    intro a82 wd82 hN_82 hD_82 hO hR hA hU
    obtain ⟨t61, _⟩ := hA
    have hE_82 := hE_81.trans hR
    have s1_82 := (hO 1 rfl).trans s1_81
    have s2_82 := (hO 2 rfl).trans s2_81
    have s3_82 := (hO 3 rfl).trans s3_81
    have s4_82 := (hO 4 rfl).trans s4_81
    have hbb1_82 := hbb1_81.ext' hR
    have hbb2_82 := hbb2_81.ext' hR
    have hbb3_82 := hbb3_81.ext' hR
    have hbb6_82 := hbb6_81.ext' hR
    have s61_82 : get a82 61 = Value.agg #[w32 (((s.rounds k).d : UInt32) + ((s.rounds k).h : UInt32)), w32 (rot (((s.rounds k).e : UInt32) ^^^ ((((s.rounds k).a : UInt32) + ((2654435769 : UInt32) * (UInt32.ofNat (k + 1) : UInt32) : UInt32) : UInt32) + ((s.rounds k).e : UInt32) : UInt32)) 7), w32 (rot (((s.rounds k).f : UInt32) ^^^ (((s.rounds k).b : UInt32) + ((s.rounds k).f : UInt32) : UInt32)) 9), w32 (rot (((s.rounds k).g : UInt32) ^^^ (((s.rounds k).c : UInt32) + ((s.rounds k).g : UInt32) : UInt32)) 13), w32 (rot (((s.rounds k).h : UInt32) ^^^ (((s.rounds k).d : UInt32) + ((s.rounds k).h : UInt32) : UInt32)) 18), w32 ((((s.rounds k).a : UInt32) + ((2654435769 : UInt32) * (UInt32.ofNat (k + 1) : UInt32) : UInt32) : UInt32) + ((s.rounds k).e : UInt32)), w32 (((s.rounds k).b : UInt32) + ((s.rounds k).f : UInt32)), w32 (((s.rounds k).c : UInt32) + ((s.rounds k).g : UInt32))] := t61
    clear hE_81 hN_81 hD_81 s1_81 s2_81 s3_81 s4_81 s6_81 s7_81 s51_81 hbb1_81 hbb2_81 hbb3_81 hbb6_81
    refine tail_none rfl rfl (does_storeD (o := 0) (n := 8) (cs' := [w32 (((s.rounds k).d : UInt32) + ((s.rounds k).h : UInt32)), w32 (rot (((s.rounds k).e : UInt32) ^^^ ((((s.rounds k).a : UInt32) + ((2654435769 : UInt32) * (UInt32.ofNat (k + 1) : UInt32) : UInt32) : UInt32) + ((s.rounds k).e : UInt32) : UInt32)) 7), w32 (rot (((s.rounds k).f : UInt32) ^^^ (((s.rounds k).b : UInt32) + ((s.rounds k).f : UInt32) : UInt32)) 9), w32 (rot (((s.rounds k).g : UInt32) ^^^ (((s.rounds k).c : UInt32) + ((s.rounds k).g : UInt32) : UInt32)) 13), w32 (rot (((s.rounds k).h : UInt32) ^^^ (((s.rounds k).d : UInt32) + ((s.rounds k).h : UInt32) : UInt32)) 18), w32 ((((s.rounds k).a : UInt32) + ((2654435769 : UInt32) * (UInt32.ofNat (k + 1) : UInt32) : UInt32) : UInt32) + ((s.rounds k).e : UInt32)), w32 (((s.rounds k).b : UInt32) + ((s.rounds k).f : UInt32)), w32 (((s.rounds k).c : UInt32) + ((s.rounds k).g : UInt32))]) (V := Value.agg #[w32 (((s.rounds k).d : UInt32) + ((s.rounds k).h : UInt32)), w32 (rot (((s.rounds k).e : UInt32) ^^^ ((((s.rounds k).a : UInt32) + ((2654435769 : UInt32) * (UInt32.ofNat (k + 1) : UInt32) : UInt32) : UInt32) + ((s.rounds k).e : UInt32) : UInt32)) 7), w32 (rot (((s.rounds k).f : UInt32) ^^^ (((s.rounds k).b : UInt32) + ((s.rounds k).f : UInt32) : UInt32)) 9), w32 (rot (((s.rounds k).g : UInt32) ^^^ (((s.rounds k).c : UInt32) + ((s.rounds k).g : UInt32) : UInt32)) 13), w32 (rot (((s.rounds k).h : UInt32) ^^^ (((s.rounds k).d : UInt32) + ((s.rounds k).h : UInt32) : UInt32)) 18), w32 ((((s.rounds k).a : UInt32) + ((2654435769 : UInt32) * (UInt32.ofNat (k + 1) : UInt32) : UInt32) : UInt32) + ((s.rounds k).e : UInt32)), w32 (((s.rounds k).b : UInt32) + ((s.rounds k).f : UInt32)), w32 (((s.rounds k).c : UInt32) + ((s.rounds k).g : UInt32))]) s1_82 s61_82 hbb1_82 (Nat.le_of_ble_eq_true rfl) rfl siz_54 rfl rfl (fun wd83 hX hz hbb1_83 => ?_))
    have hE_83 := hE_82.since hX (fun k e => e ▸ fr_b1)
    have hbb2_83 := hbb2_82.ext hX ne_b1_b2.symm
    have hbb3_83 := hbb3_82.ext hX ne_b1_b3.symm
    have hbb6_83 := hbb6_82.ext hX ne_b1_b6.symm
    clear hX hz hE_82 hbb1_82 hbb2_82 hbb3_82 hbb6_82
    refine tail_nil ?_
    refine region_lex [] [(11, Pr.ex (i64 ((k : Nat) : Int))), (12, Pr.ex (i64 ((k + 1 : Nat) : Int)))] 2 hN_82 hD_82 (by kernel_rfl) (by kernel_rfl) ?_ ?_
    · refine Asks.cons ?_ (Asks.cons ?_ (Asks.zero _))
      · refine Ask.plain rfl rfl ?_
        intro aq wq hNq hO hR hT
        exact does_move (V := i64 ((k : Nat) : Int)) ((hO 4 rfl).trans s4_82) ⟨Ext.refl _, rfl⟩
      · refine Ask.plain rfl rfl ?_
        intro aq wq hNq hO hR hT
        exact does_add (a := ((k : Nat) : Int)) (b := ((1 : Nat) : Int)) (r := ((k + 1 : Nat) : Int)) (hT 11 rfl rfl) rfl (by omega) (by omega) (by omega) ⟨Ext.refl _, rfl⟩
    intro a84 wd84 hN_84 hD_84 hO hR hA hU
    obtain ⟨_, t12, _⟩ := hA
    have hE_84 := hE_83.trans hR
    have s1_84 := (hO 1 rfl).trans s1_82
    have s2_84 := (hO 2 rfl).trans s2_82
    have s3_84 := (hO 3 rfl).trans s3_82
    have s4_84 := (hO 4 rfl).trans s4_82
    have hbb1_84 := hbb1_83.ext' hR
    have hbb2_84 := hbb2_83.ext' hR
    have hbb3_84 := hbb3_83.ext' hR
    have hbb6_84 := hbb6_83.ext' hR
    have s12_84 : get a84 12 = i64 ((k + 1 : Nat) : Int) := t12
    clear hE_83 hN_82 hD_82 s1_82 s2_82 s3_82 s4_82 s61_82 hbb1_83 hbb2_83 hbb3_83 hbb6_83
    refine tail_put rfl rfl hN_84 hD_84 (by decide) (does_assign (V := i64 ((k + 1 : Nat) : Int)) s12_84 (fun a85 hN_85 hD_85 hv hO => ?_))
    have s4_85 := hv
    have s1_85 := (hO 1 rfl).trans s1_84
    have s2_85 := (hO 2 rfl).trans s2_84
    have s3_85 := (hO 3 rfl).trans s3_84
    clear hO hv hN_84 hD_84 s1_84 s2_84 s3_84 s12_84 s4_84
    refine tail_nil ?_
    exact ⟨_, by omega, k + 1, rfl, hN_85, hD_85, s1_85, s2_85, s3_85, s4_85, hE_84, hbb1_84, hbb2_84, hbb3_84, by omega⟩
  have hc0 := of_decide_eq_false hc0
  refine wp_exit ?_
  refine wp_seq ?_
  refine region_lex [] [(62, Pr.ex (Value.agg #[w32 ((s.rounds k).a), w32 ((s.rounds k).b), w32 ((s.rounds k).c), w32 ((s.rounds k).d), w32 ((s.rounds k).e), w32 ((s.rounds k).f), w32 ((s.rounds k).g), w32 ((s.rounds k).h)]))] 1 hN_6 hD_6 (by kernel_rfl) (by kernel_rfl) ?_ ?_
  · refine Asks.cons ?_ (Asks.zero _)
    · refine Ask.plain rfl rfl ?_
      intro aq wq hNq hO hR hT
      exact does_loadD (o := 0) (n := 8) (mid := [w32 ((s.rounds k).a), w32 ((s.rounds k).b), w32 ((s.rounds k).c), w32 ((s.rounds k).d), w32 ((s.rounds k).e), w32 ((s.rounds k).f), w32 ((s.rounds k).g), w32 ((s.rounds k).h)]) ((hO 1 rfl).trans s1_6) (hbb1_6.ext' hR) rfl rfl (Nat.le_of_ble_eq_true rfl) row_54 rfl ⟨Ext.refl _, rfl⟩
  intro a86 wd86 hN_86 hD_86 hO hR hA hU
  obtain ⟨t62, _⟩ := hA
  have hE_86 := hE_6.trans hR
  have s2_86 := (hO 2 rfl).trans s2_6
  have hbb1_86 := hbb1_6.ext' hR
  have hbb2_86 := hbb2_6.ext' hR
  have hbb3_86 := hbb3_6.ext' hR
  have s62_86 : get a86 62 = Value.agg #[w32 ((s.rounds k).a), w32 ((s.rounds k).b), w32 ((s.rounds k).c), w32 ((s.rounds k).d), w32 ((s.rounds k).e), w32 ((s.rounds k).f), w32 ((s.rounds k).g), w32 ((s.rounds k).h)] := t62
  clear hE_6 hN_6 hD_6 s1_6 s2_6 s3_6 s4_6 s10_6 hbb1_6 hbb2_6 hbb3_6
  refine tail_none rfl rfl (does_storeD (o := 0) (n := 8) (cs' := [w32 ((s.rounds k).a), w32 ((s.rounds k).b), w32 ((s.rounds k).c), w32 ((s.rounds k).d), w32 ((s.rounds k).e), w32 ((s.rounds k).f), w32 ((s.rounds k).g), w32 ((s.rounds k).h)]) (V := Value.agg #[w32 ((s.rounds k).a), w32 ((s.rounds k).b), w32 ((s.rounds k).c), w32 ((s.rounds k).d), w32 ((s.rounds k).e), w32 ((s.rounds k).f), w32 ((s.rounds k).g), w32 ((s.rounds k).h)]) s2_86 s62_86 hbb2_86 (Nat.le_of_ble_eq_true rfl) rfl siz_54 rfl rfl (fun wd87 hX hz hbb2_87 => ?_))
  have hE_87 := hE_86.since hX (fun k e => e ▸ fr_b2)
  have hbb1_87 := hbb1_86.ext hX ne_b1_b2
  have hbb3_87 := hbb3_86.ext hX ne_b2_b3.symm
  clear hX hz hE_86 hbb1_86 hbb2_86 hbb3_86
  refine tail_nil ?_
  refine wp_ret ?_
  refine res_one (V := Value.agg #[w32 ((s.rounds k).a), w32 ((s.rounds k).b), w32 ((s.rounds k).c), w32 ((s.rounds k).d), w32 ((s.rounds k).e), w32 ((s.rounds k).f), w32 ((s.rounds k).g), w32 ((s.rounds k).h)]) rfl hD_86 (ResIs.cell s2_86 hbb2_87 row_54 rfl rfl) ?_
  have hk8 : k = 8 := by omega
  subst hk8
  exact ⟨rfl, hE_87⟩

end Go.Proofs.YtncamojfjhbanaaDoor
